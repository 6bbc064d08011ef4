/- What is owned, by its place in the list; rows that are appended; loops' results. Program-independent. -/
import Derived.Test.YtkpeabpdiffjhaaP
namespace Go.Proofs.Ytkpeabpdiffjhaa
open Go.RowKit

def boolR : Rep Bool where
  sz := 1
  rd _ cs b := cs = [.bool b]
  own _ cs b fp := cs = [.bool b] ∧ fp = []
  rd_len h := by subst h; rfl
  rd_one h := by subst h; simp [Value.oneCell']
  rd_ext h _ := h
  own_rd h := h.1
  own_ext h _ := h
  own_lt h := by rw [h.2]; simp
def u8R : Rep Int where
  sz := 1
  rd _ cs n := cs = [.int .u8 n]
  own _ cs n fp := cs = [.int .u8 n] ∧ fp = []
  rd_len h := by subst h; rfl
  rd_one h := by subst h; simp [Value.oneCell']
  rd_ext h _ := h
  own_rd h := h.1
  own_ext h _ := h
  own_lt h := by rw [h.2]; simp

def lpS {R V S : Type} (s : Sum R V) (f : R → Option S) (g : V → Option S) : Option S := match s with | .inl r => f r | .inr v => g v
def lpB {V S : Type} (s : V) (g : V → Option S) : Option S := g s
theorem exA {R V S : Type} {s : Sum R V} {v : V} {f : R → Option S} {g : V → Option S} {r : S} (h : some (Sum.inr v) = some s) (hK : lpS s f g = some r) : g v = some r := by cases h; exact hK
theorem exL {R V S : Type} {s : Sum R V} {q : R} {f : R → Option S} {g : V → Option S} {r : S} (h : some (Sum.inl q) = some s) (hK : lpS s f g = some r) : f q = some r := by cases h; exact hK
theorem exB {V S : Type} {s v : V} {g : V → Option S} {r : S} (h : some v = some s) (hK : lpB s g = some r) : g v = some r := by cases h; exact hK
theorem mapc {α β : Type} {f : α → β} {a : α} {b : β} {l : List α} {m : List β} (h : f a = b) (t : l.map f = m) : (a :: l).map f = b :: m := by rw [List.map_cons, h, t]
theorem bnot_t {x : Bool} (h : x = true) : (!x) = false := by rw [h]; rfl
theorem bnot_f {x : Bool} (h : x = false) : (!x) = true := by rw [h]; rfl

theorem el_offu {P : Program} {n : Nat} {ops : Array Oper} {K : Env → World → Prop} {rest : List Oper} {e : Env} {w : World} {op : Op} {ty : TypeId} {pos : String} {af : Array Edge} {j : Nat} {b' : Bool} {d : Nat} (h : (match (ops[j]?).bind (·.dst) with | some t => e t | none => undef) = undef) (hd : d < n) (hK : EL P n ops K rest (upd e d undef) w) : EL P n ops K (⟨some d, op, ty, pos, af, some (j, b')⟩ :: rest) e w := by
  intro a ha
  have hy : yielded ops a.tmps j = none := yielded_none ha h
  unfold wpList
  rw [if_neg (by simp [Region.wanted, hy])]
  exact hK _ (ha.put hd _)
theorem ql_offu {P : Program} {n : Nat} {ops : Array Oper} {KQ : Env → Prop} {rest : List Oper} {e : Env} {w : World} {op : Op} {ty : TypeId} {pos : String} {af : Array Edge} {j : Nat} {b' : Bool} {d : Nat} (h : (match (ops[j]?).bind (·.dst) with | some t => e t | none => undef) = undef) (hd : d < n) (hK : QL P n ops w KQ rest (upd e d undef)) : QL P n ops w KQ (⟨some d, op, ty, pos, af, some (j, b')⟩ :: rest) e := by
  intro a ha
  have hy : yielded ops a.tmps j = none := yielded_none ha h
  unfold wpQuiet
  rw [if_neg (by simp [Region.wanted, hy])]
  exact hK _ (ha.put hd _)
theorem oc {w : World} {α : Type} {R : Rep α} {E : TypeId} {v : Value} {xs : List α} (h : (sliceR R E).rd w [v] xs) : v.oneCell' = true := (sliceR R E).rd_one h v (List.mem_singleton.2 rfl)
theorem cells_of {e : Env} {x : Operand} {v : Value} (h : ev e x = v) (h1 : v.oneCell' = true) : (ev e x).cells = [v].toArray := by rw [h]; exact cells_one h1
theorem all_cons {α : Type} {p : α → Bool} {a : α} {l : List α} (h : p a = true) (t : l.all p = true) : (a :: l).all p = true := by simp [h, t]
theorem cells_sub {w : World} {b off : Nat} {cs : List Value} (h : ∀ j c, cs[j]? = some c → w.cell? ⟨b, off + j, none⟩ = some c) (k n : Nat) : ∀ j c, ((cs.drop k).take n)[j]? = some c → w.cell? ⟨b, off + k + j, none⟩ = some c := by
  intro j c hj
  rw [List.getElem?_take] at hj
  split at hj
  · rw [List.getElem?_drop] at hj; rw [Nat.add_assoc]; exact h _ c hj
  · cases hj
section
variable {w w0 wA : World} {Γ rest : List Asn} {α : Type} {R : Rep α} {E : TypeId} {v : Value} {xs : List α}
theorem Sat.top (i : Nat) {A : Asn} (h : Sat w0 w Γ) (hi : Γ[i]? = some A) : Sat w0 w (A :: Γ.eraseIdx i) := by
  refine h.perm ?_
  clear h
  induction Γ generalizing i with
  | nil => simp at hi
  | cons B Γ ih =>
    cases i with
    | zero => simp at hi; subst hi; exact .refl _
    | succ i =>
      simp at hi
      exact (List.Perm.cons B (ih i hi)).trans (.swap _ _ _)
theorem Sat.rem (i : Nat) {A : Asn} (h : Sat w0 w Γ) (hi : Γ[i]? = some A) : Sat w0 w (Γ.eraseIdx i) := (h.top i hi).tail
theorem Sat.rdAt (i : Nat) {cs : List Value} {x : α} {R : Rep α} (h : Sat w0 w Γ) (hi : Γ[i]? = some (Own R cs x)) : R.rd w cs x := (h.top i hi).rd
theorem rd_nil : (sliceR R E).rd w [.slice none 0 0] [] := ⟨none, 0, [], rfl, Nat.le_refl _, Nat.zero_le _, fun _ => rfl, rfl, .inl rfl⟩
theorem Sat.nil (R : Rep α) (E : TypeId) (h : Sat w0 w Γ) : Sat w0 w (Own (sliceR R E) [.slice none 0 0] [] :: Γ) := h.add (.inl ⟨rfl, rfl, rfl⟩)
theorem Sat.bool (h : Sat w0 w Γ) (b : Bool) : Sat w0 w (Own boolR [.bool b] b :: Γ) := h.add ⟨rfl, rfl⟩
theorem Sat.u8 (h : Sat w0 w Γ) (n : Int) : Sat w0 w (Own u8R [.int .u8 n] n :: Γ) := h.add ⟨rfl, rfl⟩
theorem slice_one {cs : List Value} (h : (sliceR R E).rd w cs xs) : ∃ v, cs = [v] := List.length_eq_one_iff.1 ((sliceR R E).rd_len h)
theorem rd_up {cs : List Value} {x : α} (h : R.rd w0 cs x) (hx : Ext w0 w) : R.rd w cs x := R.rd_ext h hx
theorem Sat.up {cs : List Value} {x : α} (hS : Sat w0 w Γ) (h : R.rd w0 cs x) : R.rd w cs x := R.rd_ext h hS.below
theorem Sat.boxAt (i : Nat) {b : Nat} {cs : List Value} (h : Sat w0 w Γ) (hi : Γ[i]? = some (Box b E cs)) : ∀ j c, cs[j]? = some c → w.cell? ⟨b, j, none⟩ = some c := by
  have h2 := h.top i hi
  exact h2.boxCell
theorem boxc {b : Nat} {cs : List Value} (h : ∀ j c, cs[j]? = some c → w.cell? ⟨b, j, none⟩ = some c) (k n : Nat) : ∀ j c, ((cs.drop k).take n)[j]? = some c → w.cell? ⟨b, k + j, none⟩ = some c := by
  intro j c hj
  rw [List.getElem?_take] at hj
  split at hj
  · rw [List.getElem?_drop] at hj; exact h _ c hj
  · cases hj
theorem boxc0 {b : Nat} {cs : List Value} (h : ∀ j c, cs[j]? = some c → w.cell? ⟨b, j, none⟩ = some c) : ∀ j c, cs[j]? = some c → w.cell? ⟨b, 0 + j, none⟩ = some c := by
  intro j c hj; rw [Nat.zero_add]; exact h j c hj
theorem Sat.boxRow (i : Nat) {b : Nat} {cs : List Value} (h : Sat w0 w Γ) (hi : Γ[i]? = some (Box b E cs)) : rowAt w (some ⟨b, 0, none⟩) cs :=
  .inr ⟨b, 0, rfl, boxc0 (h.boxAt i hi)⟩
/-- a literal of one element, as a slice of the call's own -/
theorem Sat.lit1 {b : Nat} {cs : List Value} {y : α} (h : Sat w0 w (Box b E cs :: Own R cs y :: Γ)) : Sat w0 w (Own (sliceR R E) [.slice (some ⟨b, 0, none⟩) 1 1] [y] :: Γ) := by
  refine h.join ?_
  rintro f g ⟨rfl, h1⟩ h2
  have hl := R.rd_len (R.own_rd h2)
  refine .inr ⟨b, 1, cs.toArray, cs, g, rfl, h1, by simp, by unfold maxLen; omega, by simp [hl], by simp [← hl], ⟨cs, [], g, [], by simp, by simp, h2, rfl, rfl⟩, by simp⟩
theorem rdL_ints {ccs : List Value} {ys : List Int} (h : rdL intR w ccs ys) : ccs = ys.map (Value.int .i64) := by
  induction ys generalizing ccs with
  | nil => simpa [rdL] using h
  | cons y ys ih =>
    obtain ⟨ec, r, rfl, h1, h2⟩ := h
    obtain rfl := ih h2
    have : ec = [.int .i64 y] := h1
    rw [this]; rfl
theorem row_ints {v : Value} {ys : List Int} (h : (sliceR intR E).rd w [v] ys) : ∃ ao c, v = .slice ao ys.length c ∧ (ao = none → c = 0) ∧ rowAt w ao (ys.map (Value.int .i64)) := by
  obtain ⟨ao, cap, ccs, hv, h1, h2, h3, h4, h5⟩ := h
  obtain rfl := rdL_ints h4
  exact ⟨ao, cap, by simpa using hv, h3, h5⟩
end
section
variable {P : Program} {n : Nat} {ops : Array Oper} {K : Env → World → Prop} {rest : List Oper} {e : Env} {w w0 wA : World} {v : Value} {d : Nat} {ty : TypeId} {pos : String} {af : Array Edge} {Γ rΓ : List Asn} {x y : Operand} {α : Type} {R : Rep α} {E E' : TypeId}
/-- the address of an element of a slice of the call's own -/
theorem el_indexO {t : TypeId} [ht : SliceT P t E] {zz : List Value} {m bytes : Nat} [hz : ElemT P E zz m bytes] {xs : List α} (hS : Sat w0 w (Own (sliceR R E) [v] xs :: Γ)) (hs : ev e x = v)
    (hn : R.sz = m) (hpos : 0 < m) {k : IntKind} {i : Int} (hi : ev e y = .int k i) {u : α} (h : ix xs i = some u) (hd : d < n)
    (hK : ∀ g cap ec, v = .slice (some ⟨g, 0, none⟩) xs.length cap → R.rd w ec u → (∀ j c, ec[j]? = some c → w.cell? ⟨g, i.toNat * m + j, none⟩ = some c) → EL P n ops K rest (upd e d (.pointer (some ⟨g, i.toNat * m, none⟩))) w) :
    EL P n ops K (⟨some d, .indexAddr t x y, ty, pos, af, none⟩ :: rest) e w := by
  obtain ⟨k', rfl, hk, rfl⟩ := ix_some h
  obtain ⟨fp, hv, _⟩ := hS.head
  rcases hv with ⟨_, h2, _⟩ | ⟨g, cap, cur, ccs, f2, hv, hg, h1, h2, h3, h4, h5, rfl⟩
  · subst h2; simp at hk
  obtain rfl : v = .slice (some ⟨g, 0, none⟩) xs.length cap := by simpa using hv
  obtain ⟨ec, hec, hcc⟩ := rdL_at (ownL_rdL h5) k' hk
  have hz := hz.h
  cases hq : P.info? E with
  | none => simp [hq] at hz
  | some inf =>
    simp [hq] at hz
    have hsz : inf.size = m := hz.2.1
    refine el_pv (v := .pointer (some ⟨g, k' * m, none⟩)) ?_ hd ?_
    · intro w' _
      unfold execOp
      simp [hs, hi, Instr.indexAt, asIntOf, run_underlying ht.h, sizeOf, typeInfo, hq, hk, Addr.add_lit, hsz]
    · refine hK g cap ec rfl hec ?_
      intro j c hj
      have h0 := hcc j c hj
      simp only [Int.toNat_natCast]
      rw [cell_of_row w g _ cur E (0, 0) hg, ← Array.getElem?_toList]
      rw [← h4, List.getElem?_take] at h0
      rw [← hn]
      split at h0
      · exact h0
      · cases h0
theorem el_storeO {t : TypeId} {z : List Value} {m bytes : Nat} [ElemT P t z m bytes] (hn : R.sz = m) {ec : List Value} {yv : α} {xs ys : List α} {g ln cap : Nat} (hv : v = .slice (some ⟨g, 0, none⟩) ln cap)
    (hS : Sat w0 w (Own R ec yv :: Own (sliceR R E) [v] xs :: Γ)) {i : Int} (h : sto xs i yv = some ys) (hx : ev e x = .pointer (some ⟨g, i.toNat * m, none⟩)) (hy : (ev e y).cells = ec.toArray)
    (hK : ∀ w', Sat w0 w' (Own (sliceR R E) [v] ys :: Γ) → EL P n ops K rest e w') : EL P n ops K (⟨none, .store t x y, ty, pos, af, none⟩ :: rest) e w := by
  subst hv
  have h0 : 0 ≤ i := by
    unfold sto at h; split at h
    · rename_i h1; exact h1.1
    · cases h
  exact el_storeo hn hS i.toNat (i.toNat * m) (by omega) h rfl hx hy hK
end
/-! a struct, built of its fields -/
class BldT (P : Program) (t : TypeId) (pl : outParam (Array (Nat × Nat))) : Prop where
  h : ∃ fs, P.underlying t = some (.struct fs) ∧ ∀ w, (fs.mapM (fun f => do pure (f.offset, ← sizeOf f.type)) : Sem (Array (Nat × Nat))).run P w = .ok pl w
def fillC (place : Nat → Option (Nat × Nat)) (cells : List Value) : List (Nat × List Value) → Option (List Value)
  | [] => some cells
  | (i, v) :: rest => match place i with
    | none => none
    | some (off, size) => bif Nat.beq v.length size && Nat.ble (off + v.length) cells.length then fillC place (cells.take off ++ v ++ cells.drop (off + v.length)) rest else none
theorem foldl_set : ∀ (v : List Value) (off k : Nat) (cells : List Value), off + k + v.length ≤ cells.length →
    ((v.zipIdx k).foldl (fun (cs : Array Value) (c : Value × Nat) => cs.setIfInBounds (off + c.2) c.1) cells.toArray) = (cells.take (off + k) ++ v ++ cells.drop (off + k + v.length)).toArray
  | [], off, k, cells, h => by simp
  | x :: v, off, k, cells, h => by
    simp only [List.length_cons] at h
    have hi : off + k < cells.length := by omega
    simp only [List.zipIdx_cons, List.foldl_cons, List.setIfInBounds_toArray]
    rw [foldl_set v off (k + 1) (cells.set (off + k) x) (by simp; omega)]
    have e1 : (cells.set (off + k) x).take (off + (k + 1)) = cells.take (off + k) ++ [x] := by
      rw [show off + (k + 1) = (off + k) + 1 by omega, List.take_set, List.take_succ_eq_append_getElem hi, List.set_append_right _ _ (by simp; omega)]
      simp [show min (off + k) cells.length = off + k by omega]
    have e2 : (cells.set (off + k) x).drop (off + (k + 1) + v.length) = cells.drop (off + k + (x :: v).length) := by
      rw [List.drop_set_of_lt (by omega)]
      congr 1
      simp only [List.length_cons]; omega
    rw [e1, e2]; simp
theorem fill_eq (place : Nat → Option (Nat × Nat)) : ∀ (ps : List (Nat × Value)) (qs : List (Nat × List Value)) (cells : List Value) {r : List Value}, ps.map (fun p => (p.1, p.2.cells)) = qs.map (fun q => (q.1, q.2.toArray)) → fillC place cells qs = some r → Instr.fill place cells.toArray ps = some r.toArray
  | [], [], cells, r, _, h => by simp only [fillC, Option.some.injEq] at h; subst h; rfl
  | [], _ :: _, _, _, h, _ => by simp at h
  | _ :: _, [], _, _, h, _ => by simp at h
  | (i, v) :: ps, (j, c) :: qs, cells, r, h, hf => by
    simp only [List.map_cons, List.cons.injEq, Prod.mk.injEq] at h
    obtain ⟨⟨rfl, hc⟩, ht⟩ := h
    unfold fillC at hf
    unfold Instr.fill
    cases hp : place i with
    | none => simp [hp] at hf
    | some os =>
      obtain ⟨off, size⟩ := os
      simp only [hp] at hf ⊢
      cases hb : (Nat.beq c.length size && Nat.ble (off + c.length) cells.length) with
      | false => rw [hb] at hf; cases hf
      | true =>
        rw [hb] at hf
        simp only [Bool.and_eq_true] at hb
        have h1 := Nat.eq_of_beq_eq_true hb.1
        have h2 := Nat.le_of_ble_eq_true hb.2
        rw [hc]
        have hn : (decide (c.toArray.size ≠ size) || decide (off + c.toArray.size > cells.toArray.size)) = false := by simp; omega
        rw [if_neg (by simp only [hn]; simp)]
        have := foldl_set c off 0 cells (by omega)
        simp only [Nat.add_zero] at this
        have e : c.toArray.zipIdx.foldl (fun cs (c, j) => cs.setIfInBounds (off + j) c) cells.toArray = (cells.take off ++ c ++ cells.drop (off + c.length)).toArray := by
          rw [← this]
          simp
        rw [e]
        exact fill_eq place ps qs _ ht hf
theorem pv_build {P : Program} {e : Env} {w : World} {d : Option Nat} {ty : TypeId} {pos : String} {af : Array Edge} {t : TypeId} {z : List Value} {n bytes : Nat} {pl : Array (Nat × Nat)} [hz : ElemT P t z n bytes] [hb : BldT P t pl] {parts : Array (Nat × Operand)} (qs : List (Nat × List Value)) (r : List Value)
    (hp : parts.toList.map (fun p => (p.1, (ev e p.2).cells)) = qs.map (fun q => (q.1, q.2.toArray))) (hf : fillC (pl[·]?) z qs = some r) : PV P ⟨d, .build t parts, ty, pos, af, none⟩ e w (.agg r.toArray) := fun w' _ => by
  have hz := hz.h
  obtain ⟨fs, h1, h2⟩ := hb.h
  cases hi : P.info? t with
  | none => simp [hi] at hz
  | some i =>
  cases hzz : i.zero with
  | none => simp [hi, hzz] at hz
  | some zv =>
  simp [hi, hzz] at hz
  have hzc : zv.cells = z.toArray := by rw [← hz.1]
  have hff := fill_eq (pl[·]?) (parts.toList.map fun p => (p.1, ev e p.2)) qs z (by rw [List.map_map]; exact hp) hf
  unfold execOp
  simp only [Instr.build, zeroValue, typeInfo, hi, hzz, Sem.run_bind, Sem.run_pure, run_program, Result.andThen_ok, run_underlying h1, h2, hzc, Array.toList_map]
  rw [hff]
  simp
theorem partc {e : Env} {i : Nat} {x : Operand} {c : List Value} {l : List (Nat × Operand)} {m : List (Nat × List Value)} (h : (ev e x).cells = c.toArray) (t : l.map (fun p => (p.1, (ev e p.2).cells)) = m.map (fun q => (q.1, q.2.toArray))) :
    ((i, x) :: l).map (fun p => (p.1, (ev e p.2).cells)) = ((i, c) :: m).map (fun q => (q.1, q.2.toArray)) := by
  rw [List.map_cons, List.map_cons, t, h]
theorem Sat.pair3 {w0 w : World} {Γ : List Asn} {α β γ : Type} {R : Rep α} {S : Rep β} {T : Rep γ} {c d f : List Value} {x : α} {y : β} {z : γ} (h : Sat w0 w (Own R c x :: Own S d y :: Own T f z :: Γ)) : Sat w0 w (Own (pairR R (pairR S T)) (c ++ (d ++ f)) (x, y, z) :: Γ) := by
  have h1 : Sat w0 w (Own S d y :: Own T f z :: Own R c x :: Γ) := h.perm (List.Perm.trans (.swap _ _ _) (List.Perm.cons _ (.swap _ _ _)))
  have h2 := h1.pair
  exact (h2.perm (.swap _ _ _)).pair
end Go.Proofs.Ytkpeabpdiffjhaa
