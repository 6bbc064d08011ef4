/- The operations of the walk, one law each; the checked arithmetic of what a function comes to. Program-independent. -/
import Derived.Test.YtkpeabpdiffjhaaE
import Derived.IntWalk
namespace Go.Proofs.Ytkpeabpdiffjhaa
open Go.RowKit

/-! ### what a function comes to: none where it would panic, or where a bound is passed -/
def rng (n : Int) : Bool := decide (-9223372036854775808 ≤ n) && decide (n ≤ 9223372036854775807)
def ad (a b : Int) : Option Int := if rng (a + b) then some (a + b) else none
def sb (a b : Int) : Option Int := if rng (a - b) then some (a - b) else none
def ml (a b : Int) : Option Int := if rng (a * b) then some (a * b) else none
def qt (a b : Int) : Option Int := if b ≠ 0 ∧ rng (a.tdiv b) then some (a.tdiv b) else none
def rm (a b : Int) : Option Int := if b ≠ 0 then some (a.tmod b) else none
def ix {α : Type} (xs : List α) (i : Int) : Option α := if 0 ≤ i then xs[i.toNat]? else none
def bx (s : ByteArray) (i : Int) : Option Int := if 0 ≤ i then (s[i.toNat]?).map (fun b => (b.toNat : Int)) else none
def slc {α : Type} (xs : List α) (lo hi : Int) : Option (List α) := if 0 ≤ lo ∧ lo ≤ hi ∧ hi ≤ xs.length then some ((xs.take hi.toNat).drop lo.toNat) else none
def apd {α : Type} (bytes : Nat) (xs ys : List α) : Option (List α) := if (xs.length + ys.length) * bytes ≤ 140737488355328 then some (xs ++ ys) else none
def mk {α : Type} (bytes : Nat) (z : α) (n : Int) : Option (List α) := if 0 ≤ n ∧ n.toNat * bytes ≤ 281474976710656 ∧ n.toNat ≤ 140737488355328 then some (List.replicate n.toNat z) else none
def sto {α : Type} (xs : List α) (i : Int) (y : α) : Option (List α) := if 0 ≤ i ∧ i.toNat < xs.length then some (xs.set i.toNat y) else none

theorem ob {α β : Type} {o : Option α} {f : α → Option β} {r : β} (h : o.bind f = some r) : ∃ x, o = some x ∧ f x = some r := Option.bind_eq_some_iff.1 h
theorem oif {α : Type} {c : Bool} {x y : Option α} {r : α} (h : (bif c then x else y) = some r) : (c = true ∧ x = some r) ∨ (c = false ∧ y = some r) := by
  cases c
  · exact .inr ⟨rfl, h⟩
  · exact .inl ⟨rfl, h⟩
theorem wrap_rng {n : Int} (h : rng n = true) : IntKind.i64.wrap n = n := by
  simp only [rng, Bool.and_eq_true, decide_eq_true_eq] at h
  exact IntWalk.i64_in n h
theorem ad_some {a b c : Int} (h : ad a b = some c) : rng (a + b) = true ∧ c = a + b := by
  unfold ad at h; split at h
  · exact ⟨by assumption, by simpa using h.symm⟩
  · cases h
theorem sb_some {a b c : Int} (h : sb a b = some c) : rng (a - b) = true ∧ c = a - b := by
  unfold sb at h; split at h
  · exact ⟨by assumption, by simpa using h.symm⟩
  · cases h
theorem ml_some {a b c : Int} (h : ml a b = some c) : rng (a * b) = true ∧ c = a * b := by
  unfold ml at h; split at h
  · exact ⟨by assumption, by simpa using h.symm⟩
  · cases h
theorem ix_some {α : Type} {xs : List α} {i : Int} {x : α} (h : ix xs i = some x) : ∃ k : Nat, i = (k : Int) ∧ ∃ h : k < xs.length, xs[k] = x := by
  unfold ix at h
  split at h
  · rename_i h0
    obtain ⟨h1, h2⟩ := List.getElem?_eq_some_iff.1 h
    exact ⟨i.toNat, by omega, h1, h2⟩
  · cases h

section
variable {P : Program} {e : Env} {w w0 : World} {d : Option Nat} {ty : TypeId} {pos : String} {af : Array Edge} {x y z : Operand} {Γ rΓ : List Asn}

theorem pv_move {v : Value} (hx : ev e x = v) : PV P ⟨d, .move x, ty, pos, af, none⟩ e w v := fun w' _ => by
  unfold execOp; simp only [hx]; rfl
theorem pv_assign {v : Value} (hx : ev e x = v) : PV P ⟨d, .assign x, ty, pos, af, none⟩ e w v := fun w' _ => by
  unfold execOp; simp only [hx]; rfl
theorem pv_pick_t {b : Bool} {v : Value} (hx : ev e x = .bool b) (hb : b = true) (hy : ev e y = v) : PV P ⟨d, .pick x y z, ty, pos, af, none⟩ e w v := fun w' _ => by
  unfold execOp; subst hb; simp [hx, hy, asBool]
theorem pv_pick_f {b : Bool} {v : Value} (hx : ev e x = .bool b) (hb : b = false) (hz : ev e z = v) : PV P ⟨d, .pick x y z, ty, pos, af, none⟩ e w v := fun w' _ => by
  unfold execOp; subst hb; simp [hx, hz, asBool]
theorem pv_not {t : TypeId} {b : Bool} (hx : ev e x = .bool b) : PV P ⟨d, .unOp .not t x, ty, pos, af, none⟩ e w (.bool (!b)) := fun w' _ => by
  unfold execOp; simp [hx, Op.unary]
theorem pv_neg {t : TypeId} {a c : Int} (hx : ev e x = .int .i64 a) (h : sb 0 a = some c) : PV P ⟨d, .unOp .neg t x, ty, pos, af, none⟩ e w (.int .i64 c) := fun w' _ => by
  obtain ⟨h1, rfl⟩ := sb_some h
  unfold execOp; simp [hx, Op.unary, Op.intArith, wrap_rng h1]; simpa using wrap_rng h1
section
variable {t u : TypeId} {a b c : Int}
theorem pv_add (hx : ev e x = .int .i64 a) (hy : ev e y = .int .i64 b) (h : ad a b = some c) : PV P ⟨d, .binOp .add t x y u, ty, pos, af, none⟩ e w (.int .i64 c) := fun w' _ => by
  obtain ⟨h1, rfl⟩ := ad_some h
  unfold execOp; simp [hx, hy, eqGuard, binOp, Op.intArith, wrap_rng h1]
theorem pv_sub (hx : ev e x = .int .i64 a) (hy : ev e y = .int .i64 b) (h : sb a b = some c) : PV P ⟨d, .binOp .sub t x y u, ty, pos, af, none⟩ e w (.int .i64 c) := fun w' _ => by
  obtain ⟨h1, rfl⟩ := sb_some h
  unfold execOp; simp [hx, hy, eqGuard, binOp, Op.intArith, wrap_rng h1]
theorem pv_mul (hx : ev e x = .int .i64 a) (hy : ev e y = .int .i64 b) (h : ml a b = some c) : PV P ⟨d, .binOp .mul t x y u, ty, pos, af, none⟩ e w (.int .i64 c) := fun w' _ => by
  obtain ⟨h1, rfl⟩ := ml_some h
  unfold execOp; simp [hx, hy, eqGuard, binOp, Op.intArith, wrap_rng h1]
theorem pv_quo (hx : ev e x = .int .i64 a) (hy : ev e y = .int .i64 b) (h : qt a b = some c) : PV P ⟨d, .binOp .quo t x y u, ty, pos, af, none⟩ e w (.int .i64 c) := fun w' _ => by
  unfold qt at h; split at h
  · rename_i h1
    obtain rfl := Option.some.inj h
    unfold execOp; simp [hx, hy, eqGuard, binOp, Op.intDiv, h1.1, wrap_rng h1.2]
  · cases h
theorem pv_rem (hx : ev e x = .int .i64 a) (hy : ev e y = .int .i64 b) (h : rm a b = some c) : PV P ⟨d, .binOp .rem t x y u, ty, pos, af, none⟩ e w (.int .i64 c) := fun w' _ => by
  unfold rm at h; split at h
  · rename_i h1
    obtain rfl := Option.some.inj h
    unfold execOp; simp [hx, hy, eqGuard, binOp, Op.intDiv, h1]
  · cases h
theorem pv_addW {k : IntKind} (hx : ev e x = .int k a) (hy : ev e y = .int k b) : PV P ⟨d, .binOp .add t x y u, ty, pos, af, none⟩ e w (.int k (k.wrap (a + b))) := fun w' _ => by
  unfold execOp; simp [hx, hy, eqGuard, binOp, Op.intArith]
theorem pv_subW {k : IntKind} (hx : ev e x = .int k a) (hy : ev e y = .int k b) : PV P ⟨d, .binOp .sub t x y u, ty, pos, af, none⟩ e w (.int k (k.wrap (a - b))) := fun w' _ => by
  unfold execOp; simp [hx, hy, eqGuard, binOp, Op.intArith]
theorem pv_mulW {k : IntKind} (hx : ev e x = .int k a) (hy : ev e y = .int k b) : PV P ⟨d, .binOp .mul t x y u, ty, pos, af, none⟩ e w (.int k (k.wrap (a * b))) := fun w' _ => by
  unfold execOp; simp [hx, hy, eqGuard, binOp, Op.intArith]
theorem pv_eql {k : IntKind} (hx : ev e x = .int k a) (hy : ev e y = .int k b) : PV P ⟨d, .binOp .eql t x y u, ty, pos, af, none⟩ e w (.bool (a == b)) := fun w' _ => by
  unfold execOp; simp [hx, hy, eqGuard, binOp, Op.intCmp]
theorem pv_neq {k : IntKind} (hx : ev e x = .int k a) (hy : ev e y = .int k b) : PV P ⟨d, .binOp .neq t x y u, ty, pos, af, none⟩ e w (.bool (a != b)) := fun w' _ => by
  unfold execOp; simp [hx, hy, eqGuard, binOp, Op.intCmp]
theorem pv_lss {k : IntKind} (hx : ev e x = .int k a) (hy : ev e y = .int k b) : PV P ⟨d, .binOp .lss t x y u, ty, pos, af, none⟩ e w (.bool (decide (a < b))) := fun w' _ => by
  unfold execOp; simp [hx, hy, eqGuard, binOp, Op.intCmp]
theorem pv_leq {k : IntKind} (hx : ev e x = .int k a) (hy : ev e y = .int k b) : PV P ⟨d, .binOp .leq t x y u, ty, pos, af, none⟩ e w (.bool (decide (a ≤ b))) := fun w' _ => by
  unfold execOp; simp [hx, hy, eqGuard, binOp, Op.intCmp]
theorem pv_gtr {k : IntKind} (hx : ev e x = .int k a) (hy : ev e y = .int k b) : PV P ⟨d, .binOp .gtr t x y u, ty, pos, af, none⟩ e w (.bool (decide (b < a))) := fun w' _ => by
  unfold execOp; simp [hx, hy, eqGuard, binOp, Op.intCmp]
theorem pv_geq {k : IntKind} (hx : ev e x = .int k a) (hy : ev e y = .int k b) : PV P ⟨d, .binOp .geq t x y u, ty, pos, af, none⟩ e w (.bool (decide (b ≤ a))) := fun w' _ => by
  unfold execOp; simp [hx, hy, eqGuard, binOp, Op.intCmp]
end
def eqS (s r : ByteArray) : Bool := s.toList == r.toList
def ltS (s r : ByteArray) : Bool := Op.bytesLess s.toList r.toList
section
variable {t u : TypeId} {s r : ByteArray}
theorem pv_eqlS (hx : ev e x = .string s) (hy : ev e y = .string r) : PV P ⟨d, .binOp .eql t x y u, ty, pos, af, none⟩ e w (.bool (eqS s r)) := fun w' _ => by
  unfold execOp eqS; simp [hx, hy, eqGuard, binOp, Op.stringOp]
theorem pv_neqS (hx : ev e x = .string s) (hy : ev e y = .string r) : PV P ⟨d, .binOp .neq t x y u, ty, pos, af, none⟩ e w (.bool (!(eqS s r))) := fun w' _ => by
  unfold execOp eqS; simp [hx, hy, eqGuard, binOp, Op.stringOp]
theorem pv_lssS (hx : ev e x = .string s) (hy : ev e y = .string r) : PV P ⟨d, .binOp .lss t x y u, ty, pos, af, none⟩ e w (.bool (ltS s r)) := fun w' _ => by
  unfold execOp ltS; simp [hx, hy, eqGuard, binOp, Op.stringOp]
theorem pv_geqS (hx : ev e x = .string s) (hy : ev e y = .string r) : PV P ⟨d, .binOp .geq t x y u, ty, pos, af, none⟩ e w (.bool (!(ltS s r))) := fun w' _ => by
  unfold execOp ltS; simp [hx, hy, eqGuard, binOp, Op.stringOp]
end
theorem run_eqIn (k : Nat) {t : TypeId} (ht : P.underlying t = some .bool) (a b : Bool) (w : World) : (Op.equalIn (k + 1) t (.bool a) (.bool b)).run P w = .ok (a == b) w := by
  simp only [Op.equalIn, Sem.run_bind, run_underlying ht, Result.andThen_ok, Sem.run_pure]
theorem run_eqB {t : TypeId} (ht : P.underlying t = some .bool) (a b : Bool) (w : World) : (Op.equal t (.bool a) (.bool b)).run P w = .ok (a == b) w := run_eqIn 9999 ht a b w
theorem pv_eqlB {t u : TypeId} {a b : Bool} (ht : P.underlying t = some .bool) (hx : ev e x = .bool a) (hy : ev e y = .bool b) : PV P ⟨d, .binOp .eql t x y u, ty, pos, af, none⟩ e w (.bool (a == b)) := fun w' _ => by
  have h1 : (eqGuard .eql t x y (.bool a) (.bool b)).run P w' = .ok () w' := by simp [eqGuard]
  have h2 : (binOp .eql t (.bool a) (.bool b)).run P w' = .ok (.bool (a == b)) w' := by
    show (do pure (.bool (← Op.equal t (.bool a) (.bool b))) : Sem Value).run P w' = _
    simp only [Sem.run_bind, run_eqB ht, Result.andThen_ok, Sem.run_pure]
  unfold execOp
  simp only [hx, hy, Sem.run_bind, h1, h2, Result.andThen_ok, Sem.run_pure]
theorem pv_neqB {t u : TypeId} {a b : Bool} (ht : P.underlying t = some .bool) (hx : ev e x = .bool a) (hy : ev e y = .bool b) : PV P ⟨d, .binOp .neq t x y u, ty, pos, af, none⟩ e w (.bool (a != b)) := fun w' _ => by
  have h1 : (eqGuard .neq t x y (.bool a) (.bool b)).run P w' = .ok () w' := by simp [eqGuard]
  have h2 : (binOp .neq t (.bool a) (.bool b)).run P w' = .ok (.bool (a != b)) w' := by
    show (do pure (.bool (!(← Op.equal t (.bool a) (.bool b)))) : Sem Value).run P w' = _
    simp only [Sem.run_bind, run_eqB ht, Result.andThen_ok, Sem.run_pure]
    rfl
  unfold execOp
  simp only [hx, hy, Sem.run_bind, h1, h2, Result.andThen_ok, Sem.run_pure]
theorem pv_extract {k : Nat} {vs : Array Value} {v : Value} (hx : ev e x = .tuple vs) (h : vs[k]? = some v) : PV P ⟨d, .extract x k, ty, pos, af, none⟩ e w v := fun w' _ => by
  unfold execOp; simp [hx, Instr.extract, h]
theorem pv_convI {s t : TypeId} {k k2 : IntKind} {a : Int} {u : TypeDesc} (hs : P.underlying s = some u) (ht : P.underlying t = some (.int k2)) (hx : ev e x = .int k a) : PV P ⟨d, .convert s t x, ty, pos, af, none⟩ e w (.int k2 (k2.wrap a)) := fun w' _ => by
  unfold execOp; simp [hx, convert, run_underlying ht, run_underlying hs, Conv.intToInt]
theorem pv_lenS {t : TypeId} {s : ByteArray} (ht : P.underlying t = some .string) (hx : ev e x = .string s) : PV P ⟨d, .call ⟨.builtin .len, #[x], #[t]⟩, ty, pos, af, none⟩ e w (.int .i64 s.size) := fun w' _ => by
  unfold execOp; simp [resolve, invoke, builtin, hx, Builtin.len_, run_underlying ht, goInt]
def imn (a b : Int) : Int := if b < a then b else a
def imx (a b : Int) : Int := if a < b then b else a
theorem pv_nilCheck {p : Addr} (hx : ev e x = .pointer (some p)) : PV P ⟨d, .nilCheck x, ty, pos, af, none⟩ e w (.pointer (some p)) := fun w' _ => by
  unfold execOp; simp [hx]
theorem pv_min {t t2 : TypeId} {a b : Int} (hx : ev e x = .int .i64 a) (hy : ev e y = .int .i64 b) : PV P ⟨d, .call ⟨.builtin .min, #[x, y], #[t, t2]⟩, ty, pos, af, none⟩ e w (.int .i64 (imn a b)) := fun w' _ => by
  unfold execOp imn; simp [resolve, invoke, builtin, hx, hy, Builtin.min_, Builtin.min2]
theorem pv_max {t t2 : TypeId} {a b : Int} (hx : ev e x = .int .i64 a) (hy : ev e y = .int .i64 b) : PV P ⟨d, .call ⟨.builtin .max, #[x, y], #[t, t2]⟩, ty, pos, af, none⟩ e w (.int .i64 (imx a b)) := fun w' _ => by
  unfold execOp imx; simp [resolve, invoke, builtin, hx, hy, Builtin.max_, Builtin.max2]
theorem pv_bx {t : TypeId} {s : ByteArray} {i : Int} {k : IntKind} {b : Int} (ht : P.underlying t = some .string) (hx : ev e x = .string s) (hy : ev e y = .int k i) (h : bx s i = some b) : PV P ⟨d, .index t x y, ty, pos, af, none⟩ e w (.int .u8 b) := fun w' _ => by
  unfold bx at h
  split at h
  · rename_i h0
    cases hb : s[i.toNat]? with
    | none => simp [hb] at h
    | some c =>
      simp [hb] at h; subst h
      unfold execOp; simp [hx, hy, Instr.index, asIntOf, run_underlying ht, h0, hb]
  · cases h
/-- the address of a field: the struct's table -/
class FldT (P : Program) (t : TypeId) (k : Nat) (off : outParam Nat) : Prop where
  h : ∃ fs f, P.underlying t = some (.struct fs) ∧ fs[k]? = some f ∧ f.offset = off ∧ ((P.info? f.type).map fun i => Nat.beq i.size 0) = some false
theorem pv_fieldAddr {t : TypeId} {k off b o : Nat} [ht : FldT P t k off] (hx : ev e x = .pointer (some ⟨b, o, none⟩)) : PV P ⟨d, .fieldAddr t x k, ty, pos, af, none⟩ e w (.pointer (some ⟨b, o + off, none⟩)) := fun w' _ => by
  obtain ⟨fs, f, h1, h2, h3, h4⟩ := ht.h
  cases hi : P.info? f.type with
  | none => simp [hi] at h4
  | some i =>
    have h5 : ¬ i.size = 0 := by
      intro e0
      simp [hi, e0] at h4
    unfold execOp
    simp [hx, Instr.fieldAt, run_underlying h1, h2, Instr.sureAddr, fieldPlace, sizeOf, typeInfo, hi, h5, h3, Addr.add_lit]
theorem cell_up' {w w' : World} {p : Addr} {c : Value} (hE : Ext w w') (h : w.cell? p = some c) : w'.cell? p = some c := by rw [hE.cell (block_lt_of_cell h)]; exact h
theorem cells_up {w w' : World} {b off : Nat} {ec : List Value} (hE : Ext w w') (h : ∀ j c, ec[j]? = some c → w.cell? ⟨b, off + j, none⟩ = some c) : ∀ j c, ec[j]? = some c → w'.cell? ⟨b, off + j, none⟩ = some c :=
  fun j c hj => cell_up' hE (h j c hj)
theorem pv_loadc {t : TypeId} [PlainT P t] {p : Addr} {c : Value} (hx : ev e x = .pointer (some p)) (hc : w.cell? p = some c) : PV P ⟨d, .load t x, ty, pos, af, none⟩ e w c := fun w' hw' => by
  unfold execOp
  simp only [hx, Instr.loadAt, Instr.sureAddr, Sem.run_bind, Sem.run_pure, Result.andThen_ok, run_loadVar_plain (cell_up' hw' hc)]
theorem pv_loada {t : TypeId} {n b off : Nat} [AggT P t n] {cs : List Value} (hx : ev e x = .pointer (some ⟨b, off, none⟩)) (hn : cs.length = n) (hc : ∀ j c, cs[j]? = some c → w.cell? ⟨b, off + j, none⟩ = some c) :
    PV P ⟨d, .load t x, ty, pos, af, none⟩ e w (.agg cs.toArray) := fun w' hw' => by
  unfold execOp
  simp only [hx, Instr.loadAt, Instr.sureAddr, Sem.run_bind, Sem.run_pure, Result.andThen_ok, run_loadVar_agg hn (cells_up hw' hc)]
/-- loads out of a box -/
theorem pv_load1 {t : TypeId} [PlainT P t] (hS : Sat w0 w Γ) {b j : Nat} (hx : ev e x = .pointer (some ⟨b, j, none⟩)) {E : TypeId} {cs : List Value} [AtBox Γ b E cs rΓ] {c : Value} (hj : cs[j]? = some c) : PV P ⟨d, .load t x, ty, pos, af, none⟩ e w c :=
  pv_loadc hx (hS.boxCell j c hj)
theorem pv_loadn {t : TypeId} {n : Nat} [AggT P t n] (hS : Sat w0 w Γ) {b j : Nat} (hx : ev e x = .pointer (some ⟨b, j, none⟩)) {E : TypeId} {cs : List Value} [AtBox Γ b E cs rΓ] {cs' : List Value} (hj : (cs.drop j).take n = cs') (hn : cs'.length = n) :
    PV P ⟨d, .load t x, ty, pos, af, none⟩ e w (.agg cs'.toArray) := by
  refine pv_loada hx hn (fun i c hi => hS.boxCell (j + i) c ?_)
  rw [← hj, List.getElem?_take] at hi
  split at hi
  · rw [List.getElem?_drop] at hi; exact hi
  · cases hi
theorem pv_len {α : Type} {R : Rep α} {E E' : TypeId} {t : TypeId} [ht : SliceT P t E'] {wA : World} {v : Value} {xs : List α} (hx : ev e x = v) (hr : (sliceR R E).rd wA [v] xs) :
    PV P ⟨d, .call ⟨.builtin .len, #[x], #[t]⟩, ty, pos, af, none⟩ e w (.int .i64 xs.length) := fun w' _ => by
  obtain ⟨ao, cap, rfl⟩ := sliceR_shape hr
  unfold execOp; simp [resolve, invoke, builtin, hx, Builtin.len_, run_underlying ht.h, goInt]
/-- the address of an element -/
theorem pv_index {α : Type} {R : Rep α} {E E' : TypeId} {t : TypeId} [ht : SliceT P t E'] {zz : List Value} {n bytes : Nat} [hz : ElemT P E' zz n bytes] {wA : World} {v : Value} {xs : List α} (hs : ev e x = v) (hr : (sliceR R E).rd wA [v] xs)
    (hn : R.sz = n) (hpos : 0 < n) {k : IntKind} {i : Int} (hi : ev e y = .int k i) {u : α} (h : ix xs i = some u) :
    ∃ b off ec, R.rd wA ec u ∧ (∀ j c, ec[j]? = some c → wA.cell? ⟨b, off + j, none⟩ = some c) ∧ ∀ w, PV P ⟨d, .indexAddr t x y, ty, pos, af, none⟩ e w (.pointer (some ⟨b, off, none⟩)) := by
  obtain ⟨k', rfl, hk, rfl⟩ := ix_some h
  obtain ⟨ao, cap, ccs, hv, h1, h2, h3, h4, h5⟩ := hr
  obtain rfl : v = .slice ao xs.length cap := by simpa using hv
  obtain ⟨ec, hec, hcc⟩ := rdL_at h4 k' hk
  have hz := hz.h
  have hlen := rdL_len h4
  cases hq : P.info? E' with
  | none => simp [hq] at hz
  | some inf =>
    simp [hq] at hz
    obtain ⟨b, off, rfl, hc⟩ : ∃ b off, ao = some ⟨b, off, none⟩ ∧ ∀ j c, ccs[j]? = some c → wA.cell? ⟨b, off + j, none⟩ = some c := by
      rcases h5 with rfl | ⟨b, off, rfl, hc⟩
      · have : 0 < xs.length * R.sz := Nat.mul_pos (by omega) (by omega)
        simp at hlen
        omega
      · exact ⟨b, off, rfl, hc⟩
    have hsz : inf.size = R.sz := by rw [hn]; exact hz.2.1
    refine ⟨b, off + k' * R.sz, ec, hec, fun j c hj => by rw [Nat.add_assoc]; exact hc _ _ (hcc j c hj), fun w w' _ => ?_⟩
    unfold execOp
    simp [hs, hi, Instr.indexAt, asIntOf, run_underlying ht.h, sizeOf, typeInfo, hq, hk, Addr.add_lit, hsz]
end

section
variable {P : Program} {n : Nat} {ops : Array Oper} {K : Env → World → Prop} {KQ : Env → Prop} {rest : List Oper} {e : Env} {w w0 wA : World} {v : Value} {d : Nat} {ty : TypeId} {pos : String} {af : Array Edge} {Γ rΓ : List Asn} {x y : Operand} {α : Type} {R : Rep α} {E E' : TypeId}
theorem el_index {t : TypeId} [SliceT P t E'] {zz : List Value} {m bytes : Nat} [ElemT P E' zz m bytes] {xs : List α} (hs : ev e x = v) (hr : (sliceR R E).rd wA [v] xs)
    (hn : R.sz = m) (hpos : 0 < m) {k : IntKind} {i : Int} (hi : ev e y = .int k i) {u : α} (h : ix xs i = some u) (hd : d < n)
    (hK : ∀ b off ec, R.rd wA ec u → (∀ j c, ec[j]? = some c → wA.cell? ⟨b, off + j, none⟩ = some c) → EL P n ops K rest (upd e d (.pointer (some ⟨b, off, none⟩))) w) : EL P n ops K (⟨some d, .indexAddr t x y, ty, pos, af, none⟩ :: rest) e w := by
  obtain ⟨b, off, ec, h1, h2, h3⟩ := pv_index (P := P) (d := some d) (ty := ty) (pos := pos) (af := af) (t := t) hs hr hn hpos hi h
  exact el_pv (h3 _) hd (hK b off ec h1 h2)
theorem ql_index {t : TypeId} [SliceT P t E'] {zz : List Value} {m bytes : Nat} [ElemT P E' zz m bytes] {xs : List α} (hs : ev e x = v) (hr : (sliceR R E).rd wA [v] xs)
    (hn : R.sz = m) (hpos : 0 < m) {k : IntKind} {i : Int} (hi : ev e y = .int k i) {u : α} (h : ix xs i = some u) (hd : d < n)
    (hK : ∀ b off ec, R.rd wA ec u → (∀ j c, ec[j]? = some c → wA.cell? ⟨b, off + j, none⟩ = some c) → QL P n ops w KQ rest (upd e d (.pointer (some ⟨b, off, none⟩)))) : QL P n ops w KQ (⟨some d, .indexAddr t x y, ty, pos, af, none⟩ :: rest) e := by
  obtain ⟨b, off, ec, h1, h2, h3⟩ := pv_index (P := P) (d := some d) (ty := ty) (pos := pos) (af := af) (t := t) hs hr hn hpos hi h
  exact ql_pv (h3 _) hd (hK b off ec h1 h2)
/-! what makes or writes memory -/
theorem el_box {t : TypeId} (cs : List Value) (hx : (ev e x).cells = cs.toArray) (hS : Sat w0 w Γ) (hd : d < n)
    (hK : ∀ w' b, Sat w0 w' (Box b t cs :: Γ) → Ext w w' → EL P n ops K rest (upd e d (.pointer (some ⟨b, 0, none⟩))) w') : EL P n ops K (⟨some d, .box t x, ty, pos, af, none⟩ :: rest) e w :=
  fun a ha => wpl_box rfl rfl cs (by rw [ha.eval]; exact hx) hS fun w' b h1 h2 => hK w' b h1 h2 _ (ha.put hd _)
theorem el_alloc {t : TypeId} {cs : List Value} {m bytes : Nat} [ElemT P t cs m bytes] (hS : Sat w0 w Γ) (hd : d < n)
    (hK : ∀ w' b, Sat w0 w' (Box b t cs :: Γ) → Ext w w' → EL P n ops K rest (upd e d (.pointer (some ⟨b, 0, none⟩))) w') : EL P n ops K (⟨some d, .alloc t, ty, pos, af, none⟩ :: rest) e w :=
  fun _ ha => wpl_alloc rfl rfl hS fun w' b h1 h2 => hK w' b h1 h2 _ (ha.put hd _)
theorem el_storev {t : TypeId} {z : List Value} {m bytes : Nat} [ElemT P t z m bytes] (hS : Sat w0 w Γ) {b j : Nat} (hx : ev e x = .pointer (some ⟨b, j, none⟩))
    {E : TypeId} {cs : List Value} [AtBox Γ b E cs rΓ] (vs : List Value) (hy : (ev e y).cells = vs.toArray) (hn : vs.length = m) (hl : j + m ≤ cs.length) (h1 : vs.all (·.oneCell') = true)
    (hK : ∀ w', Sat w0 w' (Box b E (cs.take j ++ vs ++ cs.drop (j + m)) :: rΓ) → EL P n ops K rest e w') : EL P n ops K (⟨none, .store t x y, ty, pos, af, none⟩ :: rest) e w :=
  fun _ ha => wpl_storev rfl rfl hS (by rw [ha.eval]; exact hx) vs (by rw [ha.eval]; exact hy) hn hl h1 fun w' h1 => hK w' h1 _ ha
/-- an element of a slice of the call's own is set -/
theorem el_storeo {t : TypeId} {z : List Value} {m bytes : Nat} [ElemT P t z m bytes] (hn : R.sz = m) {ec : List Value} {yv : α} {xs ys : List α} {g ln cap : Nat}
    (hS : Sat w0 w (Own R ec yv :: Own (sliceR R E) [.slice (some ⟨g, 0, none⟩) ln cap] xs :: Γ)) (k off : Nat) {i : Int} (hi : i = (k : Int)) (h : sto xs i yv = some ys) (hoff : off = k * m) (hx : ev e x = .pointer (some ⟨g, off, none⟩)) (hy : (ev e y).cells = ec.toArray)
    (hK : ∀ w', Sat w0 w' (Own (sliceR R E) [.slice (some ⟨g, 0, none⟩) ln cap] ys :: Γ) → EL P n ops K rest e w') : EL P n ops K (⟨none, .store t x y, ty, pos, af, none⟩ :: rest) e w := by
  intro a ha
  subst hi
  unfold sto at h
  split at h
  · rename_i h0
    obtain rfl := Option.some.inj h
    simp only [Int.toNat_natCast] at h0 hK
    exact wpl_storeo rfl rfl hn hS k off h0.2 hoff (by rw [ha.eval]; exact hx) (by rw [ha.eval]; exact hy) fun w' h1 => hK w' h1 _ ha
  · cases h
theorem el_append {t : TypeId} [SliceT P t E] {z : List Value} {m bytes : Nat} [ElemT P E z m bytes] (hn : R.sz = m) (hpos : 0 < m) (hzl : z.length = m) (hb0 : 0 < bytes)
    {xs : List α} {ccs : List Value} {ys zs : List α} (hS : Sat w0 w (OwnL R ccs ys :: Own (sliceR R E) [v] xs :: Γ)) (hs : ev e x = v)
    {ao : Option Addr} {ln c : Nat} (hx : ev e y = .slice ao ln c) (hm : ln = ys.length) (hnone : ao = none → c = 0) (hrow : rowAt w ao ccs) (h : apd bytes xs ys = some zs) (hd : d < n)
    (hK : ∀ w' v', Sat w0 w' (Own (sliceR R E) [v'] zs :: Γ) → EL P n ops K rest (upd e d v') w') : EL P n ops K (⟨some d, .call ⟨.builtin .append, #[x, y], #[t, t]⟩, ty, pos, af, none⟩ :: rest) e w := by
  intro a ha
  unfold apd at h
  split at h
  · rename_i hby
    obtain rfl := Option.some.inj h
    exact wpl_append rfl rfl hn hpos hzl hb0 hS (by rw [ha.eval]; exact hs) (by rw [ha.eval]; exact hx) hm hnone hrow hby fun v' w' h1 => hK w' v' h1 _ (ha.put hd _)
  · cases h
theorem el_make {t : TypeId} [SliceT P t E] {z : List Value} {m bytes : Nat} [ElemT P E z m bytes] (hn : R.sz = m) (hpos : 0 < m) (hzl : z.length = m) {x0 : α} (hx0 : ∀ w, R.own w z x0 []) {i : Int} {xs : List α}
    (hl : ev e x = .int .i64 i) (hc : ev e y = .int .i64 i) (h : mk bytes x0 i = some xs) (hS : Sat w0 w Γ) (hd : d < n)
    (hK : ∀ w' g k, Sat w0 w' (Own (sliceR R E) [.slice (some ⟨g, 0, none⟩) k k] xs :: Γ) → Ext w w' → xs.length = k → EL P n ops K rest (upd e d (.slice (some ⟨g, 0, none⟩) k k)) w') : EL P n ops K (⟨some d, .makeSlice t x y, ty, pos, af, none⟩ :: rest) e w := by
  intro a ha
  unfold mk at h
  split at h
  · rename_i h0
    obtain rfl := Option.some.inj h
    exact wpl_make rfl rfl hn hpos hzl hx0 (by rw [ha.eval]; exact hl) (by rw [ha.eval]; exact hc) i.toNat (by omega) (by omega) h0.2.1 h0.2.2 hS fun w' g h1 h2 => hK w' g _ h1 h2 (by simp) _ (ha.put hd _)
  · cases h
theorem el_buildSlice1 {t u : TypeId} [SliceT P t u] {z : List Value} {m bytes : Nat} [ElemT P u z m bytes] (cs : List Value) (hcs : (ev e x).cells = cs.toArray) (hl : cs.length = m) (hpos : 0 < m) (hzl : z.length = m) (hn : m ≤ 16)
    (hS : Sat w0 w Γ) (hd : d < n) (hK : ∀ w' b, Sat w0 w' (Box b u cs :: Γ) → Ext w w' → EL P n ops K rest (upd e d (.slice (some ⟨b, 0, none⟩) 1 1)) w') : EL P n ops K (⟨some d, .buildSlice t 1 #[(0, x)], ty, pos, af, none⟩ :: rest) e w :=
  fun _ ha => wpl_buildSlice1 rfl rfl (by rw [ha.eval]; exact hcs) hl hpos hzl hn hS fun w' b h1 h2 => hK w' b h1 h2 _ (ha.put hd _)
theorem el_buildSlice0 (R : Rep α) {t : TypeId} [SliceT P t E] {z : List Value} {m bytes : Nat} [ElemT P E z m bytes] (hS : Sat w0 w Γ) (hd : d < n)
    (hK : ∀ w' v, Sat w0 w' (Own (sliceR R E) [v] [] :: Γ) → Ext w w' → EL P n ops K rest (upd e d v) w') : EL P n ops K (⟨some d, .buildSlice t 0 #[], ty, pos, af, none⟩ :: rest) e w :=
  fun _ ha => wpl_buildSlice0 R rfl rfl hS fun w' b h1 h2 => hK w' _ h1 h2 _ (ha.put hd _)
/-- 'xs[lo:hi]' -/
theorem pv_slice {t : TypeId} {lo hi : Option Operand} [ht : SliceT P t E'] {z : List Value} {m bytes : Nat} [hz : ElemT P E' z m bytes] (hn : R.sz = m) {d : Option Nat}
    (hx : ev e x = v) {xs ys : List α} (hr : (sliceR R E).rd wA [v] xs) {l h : Int} (hlo : (lo.map (ev e) = some (.int .i64 l)) ∨ (lo = none ∧ l = 0)) (hhi : (hi.map (ev e) = some (.int .i64 h)) ∨ (hi = none ∧ h = xs.length)) (hq : slc xs l h = some ys) :
    ∃ v', (sliceR R E).rd wA [v'] ys ∧ ∀ w, PV P ⟨d, .slice t x lo hi none, ty, pos, af, none⟩ e w v' := by
  unfold slc at hq
  split at hq
  case isFalse => cases hq
  rename_i h0
  obtain rfl := Option.some.inj hq
  obtain ⟨l', rfl⟩ := Int.eq_ofNat_of_zero_le h0.1
  obtain ⟨h', rfl⟩ := Int.eq_ofNat_of_zero_le (Int.le_trans h0.1 h0.2.1)
  obtain ⟨_, hlh, hh⟩ := h0
  replace hlh : l' ≤ h' := by omega
  replace hh : h' ≤ xs.length := by omega
  simp only [Int.toNat_natCast]
  obtain ⟨ao, cap, ccs, hv, h1, h2, h3, h4, h5⟩ := hr
  obtain rfl : v = .slice ao xs.length cap := by simpa using hv
  have hz := hz.h
  cases hq : P.info? E' with
  | none => simp [hq] at hz
  | some inf =>
    simp [hq] at hz
    have hcap : h' ≤ cap := by omega
    have hsz : inf.size = R.sz := by rw [hn]; exact hz.2.1
    have hlen : ((xs.take h').drop l').length = h' - l' := by simp; omega
    have hccl := rdL_len h4
    have hrd := (rdL_split l' (rdL_split h' h4).1).2
    refine ⟨.slice (if cap = l' then ao else ao.map (·.add (l' * inf.size))) (h' - l') (cap - l'), ⟨_, cap - l', _, by rw [hlen], by rw [hlen]; omega, by omega, ?_, hrd, ?_⟩, fun w w' _ => ?_⟩
    · intro e
      split at e
      · omega
      · cases ao with
        | none => have := h3 rfl; omega
        | some _ => simp at e
    · by_cases hcl : cap = l'
      · left
        have : h' = l' := by omega
        subst this
        apply List.eq_nil_of_length_eq_zero
        simp
      · rw [if_neg hcl]
        rcases h5 with rfl | ⟨b, off, rfl, h5⟩
        · left; simp
        · right
          refine ⟨b, off + l' * R.sz, by rw [hsz]; simp [Addr.add_lit], fun j c hj => ?_⟩
          rw [List.getElem?_drop, List.getElem?_take] at hj
          split at hj
          · rw [Nat.add_assoc]; exact h5 _ c hj
          · cases hj
    · have hb : (Instr.sliceBounds true xs.length cap (lo.map (ev e)) (hi.map (ev e)) none).run P w' = .ok (l', h', cap) w' := by
        rcases hlo with e1 | ⟨e1, e1'⟩ <;> rcases hhi with e2 | ⟨e2, e2'⟩
        all_goals
          (try rw [e1]); (try rw [e2])
          first
            | (simp [Instr.sliceBounds, Instr.sliceBound, asIntOf, hcap, hlh]; done)
            | (have : l' = 0 := by omega
               subst this
               simp [Instr.sliceBounds, Instr.sliceBound, asIntOf, hcap, hlh]; done)
            | (have : h' = xs.length := by omega
               subst this
               simp [Instr.sliceBounds, Instr.sliceBound, asIntOf, hcap, hlh]; done)
            | (have : l' = 0 := by omega
               have : h' = xs.length := by omega
               subst_vars
               simp [Instr.sliceBounds, Instr.sliceBound, asIntOf])
      unfold execOp
      simp only [hx, Instr.sliceAt, Sem.run_bind, run_underlying ht.h, Result.andThen_ok, Instr.slice, hb, sizeOf, typeInfo, hq, run_program, Sem.run_pure, Option.map_none]
theorem el_slice {t : TypeId} {lo hi : Option Operand} [SliceT P t E'] {z : List Value} {m bytes : Nat} [ElemT P E' z m bytes] (hn : R.sz = m)
    (hx : ev e x = v) {xs ys : List α} (hr : (sliceR R E).rd wA [v] xs) {l h : Int} (hlo : (lo.map (ev e) = some (.int .i64 l)) ∨ (lo = none ∧ l = 0)) (hhi : (hi.map (ev e) = some (.int .i64 h)) ∨ (hi = none ∧ h = xs.length)) (hq : slc xs l h = some ys) (hd : d < n)
    (hK : ∀ v', (sliceR R E).rd wA [v'] ys → EL P n ops K rest (upd e d v') w) : EL P n ops K (⟨some d, .slice t x lo hi none, ty, pos, af, none⟩ :: rest) e w := by
  obtain ⟨v', h1, h2⟩ := pv_slice (P := P) (d := some d) (ty := ty) (pos := pos) (af := af) (t := t) hn hx hr hlo hhi hq
  exact el_pv (h2 _) hd (hK v' h1)
theorem ql_slice {t : TypeId} {lo hi : Option Operand} [SliceT P t E'] {z : List Value} {m bytes : Nat} [ElemT P E' z m bytes] (hn : R.sz = m)
    (hx : ev e x = v) {xs ys : List α} (hr : (sliceR R E).rd wA [v] xs) {l h : Int} (hlo : (lo.map (ev e) = some (.int .i64 l)) ∨ (lo = none ∧ l = 0)) (hhi : (hi.map (ev e) = some (.int .i64 h)) ∨ (hi = none ∧ h = xs.length)) (hq : slc xs l h = some ys) (hd : d < n)
    (hK : ∀ v', (sliceR R E).rd wA [v'] ys → QL P n ops w KQ rest (upd e d v')) : QL P n ops w KQ (⟨some d, .slice t x lo hi none, ty, pos, af, none⟩ :: rest) e := by
  obtain ⟨v', h1, h2⟩ := pv_slice (P := P) (d := some d) (ty := ty) (pos := pos) (af := af) (t := t) hn hx hr hlo hhi hq
  exact ql_pv (h2 _) hd (hK v' h1)
end
/-! results -/
section
variable {P : Program} {fn : Func} {n : Nat} {e : Env} {w : World} {R : Ending → World → Prop}
theorem fin1 {t : Tmp} (h : fn.results = #[.tmp t]) {v : Value} (ht : e t = v) (hR : R (.returned v) w) : Fin P fn n R .ret e w :=
  ⟨v, fun a ha => by rw [results_tmp h, ha.get, ht], hR⟩
theorem fin_n (h : Fin P fn n R .ret e w) : Fin P fn n R .normal e w := h
theorem fin2 {t u : Tmp} (h : fn.results = #[.tmp t, .tmp u]) {v v2 : Value} (ht : e t = v) (hu : e u = v2) (hR : R (.returned (.tuple #[v, v2])) w) : Fin P fn n R .ret e w :=
  ⟨_, fun a ha => by rw [results_tmp2 h, ha.get, ha.get, ht, hu], hR⟩
theorem fin3 {t u s : Tmp} (h : fn.results = #[.tmp t, .tmp u, .tmp s]) {v v2 v3 : Value} (ht : e t = v) (hu : e u = v2) (hs : e s = v3) (hR : R (.returned (.tuple #[v, v2, v3])) w) : Fin P fn n R .ret e w := by
  refine ⟨_, fun a ha => ?_, hR⟩
  have h1 := ha.get t; have h2 := ha.get u; have h3 := ha.get s
  simp only [ht, hu, hs] at h1 h2 h3
  have h1' : a.tmps[t]?.getD undef = v := by simpa using h1
  have h2' : a.tmps[u]?.getD undef = v2 := by simpa using h2
  have h3' : a.tmps[s]?.getD undef = v3 := by simpa using h3
  simp [results, h, h1', h2', h3']
theorem finC {p : Tmp} {ty : TypeId} {m : Nat} [AggT P ty m] (h : fn.results = #[.cell p ty]) {b off : Nat} {cs : List Value} (hp : e p = .pointer (some ⟨b, off, none⟩)) (hm : cs.length = m) (hc : ∀ j c, cs[j]? = some c → w.cell? ⟨b, off + j, none⟩ = some c) (hR : R (.returned (.agg cs.toArray)) w) :
    Fin P fn n R .ret e w := by
  refine ⟨_, fun a ha => ?_, hR⟩
  have h1 : a.tmps.getD p undef = .pointer (some ⟨b, off, none⟩) := by rw [ha.get, hp]
  have h1' : a.tmps[p]?.getD undef = .pointer (some ⟨b, off, none⟩) := by simpa using h1
  simp [results, h, h1', asAddr, run_loadVar_agg (P := P) (t := ty) hm hc]
theorem finCT {p t : Tmp} {ty : TypeId} {m : Nat} [AggT P ty m] (h : fn.results = #[.cell p ty, .tmp t]) {b off : Nat} {cs : List Value} {v2 : Value} (hp : e p = .pointer (some ⟨b, off, none⟩)) (hm : cs.length = m) (hc : ∀ j c, cs[j]? = some c → w.cell? ⟨b, off + j, none⟩ = some c) (ht : e t = v2) (hR : R (.returned (.tuple #[.agg cs.toArray, v2])) w) :
    Fin P fn n R .ret e w := by
  refine ⟨_, fun a ha => ?_, hR⟩
  have h1 : a.tmps.getD p undef = .pointer (some ⟨b, off, none⟩) := by rw [ha.get, hp]
  have h1' : a.tmps[p]?.getD undef = .pointer (some ⟨b, off, none⟩) := by simpa using h1
  have h2 : a.tmps.getD t undef = v2 := by rw [ha.get, ht]
  have h2' : a.tmps[t]?.getD undef = v2 := by simpa using h2
  simp [results, h, h1', h2', asAddr, run_loadVar_agg (P := P) (t := ty) hm hc]
theorem finCTT {p t u : Tmp} {ty : TypeId} {m : Nat} [AggT P ty m] (h : fn.results = #[.cell p ty, .tmp t, .tmp u]) {b off : Nat} {cs : List Value} {v2 v3 : Value} (hp : e p = .pointer (some ⟨b, off, none⟩)) (hm : cs.length = m) (hc : ∀ j c, cs[j]? = some c → w.cell? ⟨b, off + j, none⟩ = some c) (ht : e t = v2) (hu : e u = v3) (hR : R (.returned (.tuple #[.agg cs.toArray, v2, v3])) w) :
    Fin P fn n R .ret e w := by
  refine ⟨_, fun a ha => ?_, hR⟩
  have h1 : a.tmps.getD p undef = .pointer (some ⟨b, off, none⟩) := by rw [ha.get, hp]
  have h1' : a.tmps[p]?.getD undef = .pointer (some ⟨b, off, none⟩) := by simpa using h1
  have h2 : a.tmps.getD t undef = v2 := by rw [ha.get, ht]
  have h2' : a.tmps[t]?.getD undef = v2 := by simpa using h2
  have h3 : a.tmps.getD u undef = v3 := by rw [ha.get, hu]
  have h3' : a.tmps[u]?.getD undef = v3 := by simpa using h3
  simp [results, h, h1', h2', h3', asAddr, run_loadVar_agg (P := P) (t := ty) hm hc]
end
end Go.Proofs.Ytkpeabpdiffjhaa
