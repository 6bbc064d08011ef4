/- What a walk begins anew from (all so far is only read); rows that are only read; slices cut from the front, whose first element is handed on; functions given as values; bits. Program-independent. -/
import Derived.Test.YtkpeabpdiffjhaaM
import Derived.Laws.BytesString
namespace Go.Proofs.Ytkpeabpdiffjhaa
open Go.RowKit

theorem Sat.rebase {a b w : World} {Γ : List Asn} (h : Sat b w Γ) (hx : Ext a b) : Sat a w Γ := by
  obtain ⟨hb, fp, h1, h2, h3⟩ := h
  exact ⟨Ext.trans hx hb, fp, h1, h2, fun x hx' => Nat.le_trans hx.size (h3 x hx')⟩
theorem Sat.drop {w0 w : World} {Γ Δ : List Asn} (h : Sat w0 w (Γ ++ Δ)) : Sat w0 w Δ := by
  induction Γ with
  | nil => simpa using h
  | cons A Γ ih => exact ih h.tail
/-- it reads so since W -/
def roR {α : Type} (W : World) (R : Rep α) : Rep α where
  sz := R.sz
  rd _ cs x := R.rd W cs x
  own _ cs x fp := R.rd W cs x ∧ fp = []
  rd_len h := R.rd_len h
  rd_one h := R.rd_one h
  rd_ext h _ := h
  own_rd h := h.1
  own_ext h _ := h
  own_lt h := by rw [h.2]; simp
section
variable {α : Type} {R : Rep α} {W w w0 w' : World} {E : TypeId} {Γ : List Asn} {v : Value} {xs : List α}
theorem rdL_ro (hx : Ext W w) : ∀ {xs : List α} {ccs : List Value}, rdL (roR W R) w ccs xs → rdL R w ccs xs
  | [], _, h => h
  | x :: xs, _, h => by
    obtain ⟨ec, rest, rfl, h1, h2⟩ := h
    exact ⟨ec, rest, rfl, R.rd_ext h1 hx, rdL_ro hx h2⟩
theorem ro_rd {cs : List Value} (hx : Ext W w) (h : (sliceR (roR W R) E).rd w cs xs) : (sliceR R E).rd w cs xs := by
  obtain ⟨ao, cap, ccs, h1, h2, h3, h4, h5, h6⟩ := h
  exact ⟨ao, cap, ccs, h1, h2, h3, h4, rdL_ro hx h5, h6⟩
theorem Sat.roOne {cs : List Value} {x : α} (hS : Sat w0 w Γ) (h : R.rd W cs x) : Sat w0 w (Own (roR W R) cs x :: Γ) := hS.add ⟨h, rfl⟩
theorem ownL_ro {w2 : World} : ∀ {xs : List α} {ccs : List Value}, rdL (roR W R) w ccs xs → ownL (roR W R) w2 ccs xs []
  | [], _, h => ⟨h, rfl⟩
  | x :: xs, _, h => by
    obtain ⟨ec, rest, rfl, h1, h2⟩ := h
    exact ⟨ec, rest, [], [], rfl, rfl, ⟨h1, rfl⟩, ownL_ro h2⟩
theorem rdL_toro : ∀ {xs : List α} {ccs : List Value}, rdL R W ccs xs → rdL (roR W R) w ccs xs
  | [], _, h => h
  | x :: xs, _, h => by
    obtain ⟨ec, rest, rfl, h1, h2⟩ := h
    exact ⟨ec, rest, rfl, h1, rdL_toro h2⟩
/-- rows that are only read, to be appended -/
theorem row_ro (h : (sliceR (roR W R) E).rd w [v] xs) : ∃ ao c ccs, v = .slice ao xs.length c ∧ (ao = none → c = 0) ∧ rowAt w ao ccs ∧ rdL (roR W R) w ccs xs := by
  obtain ⟨ao, cap, ccs, hv, h1, h2, h3, h4, h5⟩ := h
  exact ⟨ao, cap, ccs, by simpa using hv, h3, h5, h4⟩
theorem Sat.roL {ccs : List Value} {w2 : World} (hS : Sat w0 w Γ) (h : rdL (roR W R) w2 ccs xs) : Sat w0 w (OwnL (roR W R) ccs xs :: Γ) := hS.add (ownL_ro h)
theorem rd_toro {cs : List Value} (hx : Ext W w) (h : (sliceR R E).rd W cs xs) : (sliceR (roR W R) E).rd w cs xs := by
  obtain ⟨ao, cap, ccs, h1, h2, h3, h4, h5, h6⟩ := h
  refine ⟨ao, cap, ccs, h1, h2, h3, h4, rdL_toro h5, ?_⟩
  rcases h6 with h6 | ⟨b, off, rfl, h6⟩
  · exact .inl h6
  · exact .inr ⟨b, off, rfl, fun j c hj => by have := h6 j c hj; rw [hx.cell (block_lt_of_cell this)]; exact this⟩

/-! ### slices cut from the front -/
def tailAt (w : World) (E : TypeId) (ao : Option Addr) (ccs : List Value) (fp f2 : List Nat) : Prop :=
  (ccs = [] ∧ fp = f2) ∨ ∃ g off cur, ao = some ⟨g, off, none⟩ ∧ w.heap[g]? = some (.cells cur E (0, 0)) ∧ (∀ j c, ccs[j]? = some c → cur[off + j]? = some c) ∧ fp = g :: f2
/-- a slice of the call's own that may begin within its block -/
def tailR {α : Type} (R : Rep α) (E : TypeId) : Rep (List α) where
  sz := 1
  rd w cs xs := (sliceR R E).rd w cs xs
  own w cs xs fp := ∃ ao cap ccs f2, cs = [.slice ao xs.length cap] ∧ xs.length ≤ cap ∧ cap ≤ maxLen ∧ (ao = none → cap = 0) ∧ ownL R w ccs xs f2 ∧ tailAt w E ao ccs fp f2
  rd_len h := (sliceR R E).rd_len h
  rd_one h := (sliceR R E).rd_one h
  rd_ext h he := (sliceR R E).rd_ext h he
  own_rd h := by
    obtain ⟨ao, cap, ccs, f2, rfl, h1, h2, h3, h4, h5⟩ := h
    refine ⟨ao, cap, ccs, rfl, h1, h2, h3, ownL_rdL h4, ?_⟩
    rcases h5 with ⟨rfl, _⟩ | ⟨g, off, cur, rfl, hg, hc, _⟩
    · exact .inl rfl
    · refine .inr ⟨g, off, rfl, fun j c hj => ?_⟩
      rw [cell_of_row _ g _ cur E (0, 0) hg]; exact hc j c hj
  own_ext h he := by
    obtain ⟨ao, cap, ccs, f2, rfl, h1, h2, h3, h4, h5⟩ := h
    rcases h5 with ⟨hc, rfl⟩ | ⟨g, off, cur, rfl, hg, hc, rfl⟩
    · exact ⟨ao, cap, ccs, _, rfl, h1, h2, h3, ownL_ext h4 he, .inl ⟨hc, rfl⟩⟩
    · exact ⟨_, cap, ccs, f2, rfl, h1, h2, h3, ownL_ext h4 (fun b hb => he b (by simp [hb])), .inr ⟨g, off, cur, rfl, by rw [he g (by simp)]; exact hg, hc, rfl⟩⟩
  own_lt h := by
    obtain ⟨ao, cap, ccs, f2, rfl, h1, h2, h3, h4, h5⟩ := h
    rcases h5 with ⟨hc, rfl⟩ | ⟨g, off, cur, rfl, hg, hc, rfl⟩
    · exact ownL_lt h4
    · intro b hb
      rcases List.mem_cons.1 hb with rfl | hb
      · exact (Array.getElem?_eq_some_iff.1 hg).1
      · exact ownL_lt h4 b hb
theorem Sat.toTail (hS : Sat w0 w (Own (sliceR R E) [v] xs :: Γ)) : Sat w0 w (Own (tailR R E) [v] xs :: Γ) := by
  refine hS.conv fun f hf => ?_
  rcases hf with ⟨hv, rfl, rfl⟩ | ⟨g, cap, cur, ccs, f2, hv, hg, h1, h2, h3, h4, h5, rfl⟩
  · exact ⟨none, 0, [], [], hv, Nat.le_refl _, Nat.zero_le _, fun _ => rfl, ⟨rfl, rfl⟩, .inl ⟨rfl, rfl⟩⟩
  · refine ⟨_, cap, ccs, f2, hv, h1, h2, by simp, h5, .inr ⟨g, 0, cur, rfl, hg, fun j c hj => ?_, rfl⟩⟩
    rw [Nat.zero_add, ← Array.getElem?_toList]
    rw [← h4, List.getElem?_take] at hj
    split at hj
    · exact hj
    · cases hj
/-- what is left of it when its first element is handed on -/
def Beheaded (R : Rep α) (E : TypeId) (v : Value) (xs : List α) : Asn where
  holds w fp := ∃ ao cap ec rest f2, v = .slice ao xs.length cap ∧ xs.length ≤ cap ∧ cap ≤ maxLen ∧ (ao = none → cap = 0) ∧ ec.length = R.sz ∧ ownL R w rest xs.tail f2 ∧ tailAt w E ao (ec ++ rest) fp f2
  ext h he := by
    obtain ⟨ao, cap, ec, rest, f2, rfl, h1, h2, h3, hl, h4, h5⟩ := h
    rcases h5 with ⟨hc, rfl⟩ | ⟨g, off, cur, rfl, hg, hc, rfl⟩
    · exact ⟨ao, cap, ec, rest, _, rfl, h1, h2, h3, hl, ownL_ext h4 he, .inl ⟨hc, rfl⟩⟩
    · exact ⟨_, cap, ec, rest, f2, rfl, h1, h2, h3, hl, ownL_ext h4 (fun b hb => he b (by simp [hb])), .inr ⟨g, off, cur, rfl, by rw [he g (by simp)]; exact hg, hc, rfl⟩⟩
  lt h := by
    obtain ⟨ao, cap, ec, rest, f2, rfl, h1, h2, h3, hl, h4, h5⟩ := h
    rcases h5 with ⟨hc, rfl⟩ | ⟨g, off, cur, rfl, hg, hc, rfl⟩
    · exact ownL_lt h4
    · intro b hb
      rcases List.mem_cons.1 hb with rfl | hb
      · exact (Array.getElem?_eq_some_iff.1 hg).1
      · exact ownL_lt h4 b hb
theorem Sat.behead {u : α} {ec : List Value} {m b off : Nat} (hS : Sat w0 w (Own (tailR R E) [v] xs :: Γ)) (h : ix xs 0 = some u) (hn : R.sz = m) (hpos : 0 < m) (hl : ec.length = m)
    (hv : ∃ ln cap, v = .slice (some ⟨b, off, none⟩) ln cap) (hm : ∀ j c, ec[j]? = some c → w.cell? ⟨b, off + j, none⟩ = some c) : Sat w0 w (Own R ec u :: Beheaded R E v xs :: Γ) := by
  subst hn
  refine hS.splitp fun f hf => ?_
  obtain ⟨ao, cap, ccs, f2, hcs, h1, h2, h3, h4, h5⟩ := hf
  cases xs with
  | nil => simp [ix] at h
  | cons x xs =>
    obtain rfl : x = u := by simpa [ix] using h
    obtain ⟨ec', rest, g1, g2, rfl, rfl, k1, k2⟩ := h4
    have hl' := R.rd_len (R.own_rd k1)
    obtain ⟨ln, cap', rfl⟩ := hv
    simp only [List.cons.injEq, and_true, Value.slice.injEq] at hcs
    obtain ⟨rfl, rfl, rfl⟩ := hcs
    rcases h5 with ⟨hc, rfl⟩ | ⟨g, off', cur, hao, hg, hc, rfl⟩
    · rw [List.append_eq_nil_iff] at hc; rw [hc.1] at hl'; simp at hl'; omega
    · simp only [Option.some.injEq, Addr.mk.injEq, and_true] at hao
      obtain ⟨rfl, rfl⟩ := hao
      have hec : ec = ec' := by
        refine List.ext_getElem (by omega) fun j hj1 hj2 => ?_
        have e1 := hm j ec[j] (List.getElem?_eq_getElem hj1)
        have e2 := hc j ec'[j] (by rw [List.getElem?_append_left hj2]; exact List.getElem?_eq_getElem hj2)
        rw [cell_of_row w b _ cur E (0, 0) hg, e2] at e1
        exact (Option.some.inj e1).symm
      subst hec
      exact ⟨g1, b :: g2, List.perm_middle, k1, _, _, ec, rest, g2, rfl, h1, h2, h3, hl, k2, .inr ⟨b, off, cur, rfl, hg, hc, rfl⟩⟩
/-- the first element is let go -/
theorem Sat.behead' (hS : Sat w0 w (Own (tailR R E) [v] xs :: Γ)) (h : 0 < xs.length) : Sat w0 w (Beheaded R E v xs :: Γ) := by
  obtain ⟨ao, hao⟩ : ∃ A, A = Asn.mk (fun w fp => True ∧ ∀ b ∈ fp, b < w.heap.size) (fun h he => ⟨trivial, fun b hb => by
    have h1 := h.2 b hb
    have h2 := he b hb
    rw [Array.getElem?_eq_getElem h1] at h2
    exact (Array.getElem?_eq_some_iff.1 h2).1⟩) (fun h => h.2) := ⟨_, rfl⟩
  refine Sat.tail (A := ao) ?_
  refine hS.splitp fun f hf => ?_
  obtain ⟨ao', cap, ccs, f2, hcs, h1, h2, h3, h4, h5⟩ := hf
  cases xs with
  | nil => simp at h
  | cons x xs =>
    obtain ⟨ec', rest, g1, g2, rfl, rfl, k1, k2⟩ := h4
    have hl' := R.rd_len (R.own_rd k1)
    have hv : v = .slice ao' (x :: xs).length cap := by simpa using hcs
    subst hao
    rcases h5 with ⟨hc, rfl⟩ | ⟨g, off', cur, hao, hg, hc, rfl⟩
    · exact ⟨g1, g2, .refl _, ⟨trivial, R.own_lt k1⟩, ao', cap, ec', rest, g2, hv, h1, h2, h3, hl', k2, .inl ⟨hc, rfl⟩⟩
    · exact ⟨g1, g :: g2, List.perm_middle, ⟨trivial, R.own_lt k1⟩, ao', cap, ec', rest, g2, hv, h1, h2, h3, hl', k2, .inr ⟨g, off', cur, hao, hg, hc, rfl⟩⟩
end
section
variable {P : Program} {n : Nat} {ops : Array Oper} {K : Env → World → Prop} {rest : List Oper} {e : Env} {w w0 : World} {v : Value} {d : Nat} {ty : TypeId} {pos : String} {af : Array Edge} {Γ : List Asn} {x y : Operand} {α : Type} {R : Rep α} {E : TypeId}
/-- 'xs[1:]', the first element gone -/
theorem el_tail {t : TypeId} {lo : Operand} [ht : SliceT P t E] {z : List Value} {m bytes : Nat} [hz : ElemT P E z m bytes] (hn : R.sz = m) (hpos : 0 < m) {xs ys : List α} (hS : Sat w0 w (Beheaded R E v xs :: Γ)) (hx : ev e x = v) (hlo : ev e lo = .int .i64 1) (hq : slc xs 1 (xs.length : Int) = some ys) (hd : d < n)
    (hK : ∀ v', Sat w0 w (Own (tailR R E) [v'] ys :: Γ) → EL P n ops K rest (upd e d v') w) : EL P n ops K (⟨some d, .slice t x (some lo) none none, ty, pos, af, none⟩ :: rest) e w := by
  have hlen : 1 ≤ xs.length ∧ ys = xs.tail := by
    unfold slc at hq
    split at hq
    · rename_i h0
      refine ⟨by omega, ?_⟩
      have := Option.some.inj hq
      rw [← this]; simp
    · cases hq
  obtain ⟨hl1, rfl⟩ := hlen
  obtain ⟨fp, ⟨ao, cap, ec, rs, f2, rfl, h1, h2, h3, hl, h4, h5⟩, _⟩ := hS.head
  have hz := hz.h
  cases hq' : P.info? E with
  | none => simp [hq'] at hz
  | some inf =>
    simp [hq'] at hz
    have hsz : inf.size = R.sz := by rw [hn]; exact hz.2.1
    refine el_pv (v := .slice (if cap = 1 then ao else ao.map (·.add (1 * inf.size))) (xs.length - 1) (cap - 1)) ?_ hd (hK _ ?_)
    · intro w' _
      have hb : (Instr.sliceBounds true xs.length cap (some (.int .i64 1)) none none).run P w' = .ok (1, xs.length, cap) w' := by
        have h9 : xs.length ≤ cap := h1
        simp [Instr.sliceBounds, Instr.sliceBound, asIntOf, h9, hl1]
        intro h; omega
      unfold execOp
      simp only [hx, Instr.sliceAt, Sem.run_bind, run_underlying ht.h, Result.andThen_ok, Instr.slice, Option.map_some, hlo, Option.map_none, hb, sizeOf, typeInfo, hq', run_program, Sem.run_pure]
    · refine hS.conv fun f hf => ?_
      obtain ⟨ao', cap', ec', rs', f2', hv, k1, k2, k3, kl, k4, k5⟩ := hf
      simp only [Value.slice.injEq] at hv
      obtain ⟨rfl, _, rfl⟩ := hv
      have hrl := rdL_len (ownL_rdL k4)
      refine ⟨(if cap = 1 then ao else ao.map (·.add (1 * inf.size))), cap - 1, rs', f2', by simp, by simp; omega, by omega, ?_, k4, ?_⟩
      · intro e0
        split at e0
        · omega
        · cases ao with
          | none => have := k3 rfl; omega
          | some _ => simp at e0
      · rcases k5 with ⟨hc, rfl⟩ | ⟨g, off, cur, rfl, hg, hc, rfl⟩
        · rw [List.append_eq_nil_iff] at hc
          exact .inl ⟨hc.2, rfl⟩
        · by_cases hc1 : cap = 1
          · -- the block is let go only where nothing is left in it
            have : xs.tail = [] := by apply List.eq_nil_of_length_eq_zero; simp; omega
            rw [if_pos hc1]
            have hr0 : rs' = [] := by apply List.eq_nil_of_length_eq_zero; rw [hrl, this]; simp
            subst hr0
            exact .inr ⟨g, off, cur, rfl, hg, by simp, rfl⟩
          · rw [if_neg hc1]
            refine .inr ⟨g, off + inf.size, cur, by simp [Addr.add_lit], hg, fun j c hj => ?_, rfl⟩
            rw [hsz, ← kl, Nat.add_assoc]
            exact hc _ c (by rw [List.getElem?_append_right (by omega), Nat.add_sub_cancel_left]; exact hj)
/-- the first element's address, in a slice that may begin within its block -/
theorem el_head {t : TypeId} [ht : SliceT P t E] {zz : List Value} {m bytes : Nat} [hz : ElemT P E zz m bytes] {xs : List α} (hS : Sat w0 w (Own (tailR R E) [v] xs :: Γ)) (hs : ev e x = v)
    (hn : R.sz = m) (hpos : 0 < m) {k : IntKind} (hi : ev e y = .int k 0) {u : α} (h : ix xs 0 = some u) (hd : d < n)
    (hK : ∀ b off ec, (∃ ln cap, v = .slice (some ⟨b, off, none⟩) ln cap) → R.rd w ec u → (∀ j c, ec[j]? = some c → w.cell? ⟨b, off + j, none⟩ = some c) → EL P n ops K rest (upd e d (.pointer (some ⟨b, off, none⟩))) w) :
    EL P n ops K (⟨some d, .indexAddr t x y, ty, pos, af, none⟩ :: rest) e w := by
  have hr : (sliceR R E).rd w [v] xs := hS.rd
  obtain ⟨ao, cap, ccs, hv, h1, h2, h3, h4, h5⟩ := hr
  obtain rfl : v = .slice ao xs.length cap := by simpa using hv
  obtain ⟨k', hk0, hk, rfl⟩ := ix_some h
  obtain rfl : k' = 0 := by omega
  obtain ⟨ec, hec, hcc⟩ := rdL_at h4 0 hk
  have hz := hz.h
  have hlen := rdL_len h4
  cases hq : P.info? E with
  | none => simp [hq] at hz
  | some inf =>
    simp [hq] at hz
    obtain ⟨b, off, rfl, hc⟩ : ∃ b off, ao = some ⟨b, off, none⟩ ∧ ∀ j c, ccs[j]? = some c → w.cell? ⟨b, off + j, none⟩ = some c := by
      rcases h5 with rfl | ⟨b, off, rfl, hc⟩
      · have : 0 < xs.length * R.sz := Nat.mul_pos (by omega) (by omega)
        simp at hlen; omega
      · exact ⟨b, off, rfl, hc⟩
    refine el_pv (v := .pointer (some ⟨b, off, none⟩)) ?_ hd (hK b off ec ⟨_, _, rfl⟩ hec fun j c hj => hc _ _ (by have := hcc j c hj; simpa using this))
    intro w' _
    unfold execOp
    simp [hs, hi, Instr.indexAt, asIntOf, run_underlying ht.h, sizeOf, typeInfo, hq, hk, Addr.add_lit]
/-- a call of a function that is at hand as a value -/
theorem el_callV {f : FuncId} {g : Operand} {args : Array Operand} {tys : Array TypeId} {vals : Array Value} {R : Ending → World → Prop} (hf : ev e g = .func (.func f) #[] #[]) (hg : Goes P f) (hc : Calls P f vals w R) (hv : (args.toList.map (ev e)).toArray = vals) (hd : d < n)
    (hK : ∀ x w', R x w' → ∃ v, x = .returned v ∧ EL P n ops K rest (upd e d v) w') : EL P n ops K (⟨some d, .call ⟨.value g, args, tys⟩, ty, pos, af, none⟩ :: rest) e w := by
  intro a ha
  refine wpList_plain rfl fun K' hK' => ?_
  unfold Oper.wp execOp
  have he : args.map (ev e) = vals := by rw [← hv]; apply Array.ext'; simp
  simp only [ha.eval, resolve, hf, Deferred.ofValue, Sem.run_bind, Sem.run_pure, Result.andThen_ok, Array.empty_append, Array.append_empty, he, invoke, hg.run, Oper.upon_enter]
  refine hc.mono fun x w' hx => ?_
  obtain ⟨v, rfl, h⟩ := hK x w' hx
  exact hK' _ _ (h _ (ha.put hd v))
end

/-! ### bits; strings -/
def iand (a b : Int) : Int := IntKind.i64.wrap ((BitVec.ofInt IntKind.i64.bits a &&& BitVec.ofInt IntKind.i64.bits b).toNat)
def ixor (a b : Int) : Int := IntKind.i64.wrap ((BitVec.ofInt IntKind.i64.bits a ^^^ BitVec.ofInt IntKind.i64.bits b).toNat)
def ior (a b : Int) : Int := IntKind.i64.wrap ((BitVec.ofInt IntKind.i64.bits a ||| BitVec.ofInt IntKind.i64.bits b).toNat)
def sr (a b : Int) : Option Int := if 0 ≤ b then some (a.fdiv (2 ^ (min b.toNat IntKind.i64.bits))) else none
def scat (s r : ByteArray) : Option ByteArray := if s.size + r.size ≤ 9223372036854775807 then some (s ++ r) else none
/-- a string out of bytes -/
def ofB (xs : List Int) : ByteArray := xs.foldl (fun r n => r.push (UInt8.ofNat n.toNat)) ByteArray.empty
theorem push_size (s : ByteArray) (b : UInt8) : (s.push b).size = s.size + 1 := by
  cases s; simp [ByteArray.push, ByteArray.size]
theorem ofB_size (xs : List Int) : (ofB xs).size = xs.length := by
  unfold ofB
  have : ∀ (xs : List Int) (s : ByteArray), (xs.foldl (fun r n => r.push (UInt8.ofNat n.toNat)) s).size = s.size + xs.length := by
    intro xs
    induction xs with
    | nil => intro s; simp
    | cons x xs ih => intro s; rw [List.foldl_cons, ih, push_size, List.length_cons]; omega
  rw [this]; simp
theorem scat_size {s r c : ByteArray} (h : scat s r = some c) : c.size ≤ 9223372036854775807 := by
  unfold scat at h
  split at h
  · rename_i h0
    obtain rfl := Option.some.inj h
    rw [ByteArray.size_append]; exact h0
  · cases h
theorem ofB_sz {w : World} {E : TypeId} {v : Value} {xs : List Int} (h : (sliceR u8R E).rd w [v] xs) : (ofB xs).size ≤ 9223372036854775807 := by
  obtain ⟨ao, cap, ccs, _, h1, h2, _⟩ := h
  rw [ofB_size]; unfold maxLen at h2; omega
section
variable {P : Program} {e : Env} {w : World} {d : Option Nat} {ty : TypeId} {pos : String} {af : Array Edge} {x y : Operand}
theorem pv_and {t u : TypeId} {a b : Int} (hx : ev e x = .int .i64 a) (hy : ev e y = .int .i64 b) : PV P ⟨d, .binOp .and t x y u, ty, pos, af, none⟩ e w (.int .i64 (iand a b)) := fun w' _ => by
  unfold execOp iand; simp [hx, hy, eqGuard, binOp, Op.intBits]
theorem pv_xor {t u : TypeId} {a b : Int} (hx : ev e x = .int .i64 a) (hy : ev e y = .int .i64 b) : PV P ⟨d, .binOp .xor t x y u, ty, pos, af, none⟩ e w (.int .i64 (ixor a b)) := fun w' _ => by
  unfold execOp ixor; simp [hx, hy, eqGuard, binOp, Op.intBits]
theorem pv_or {t u : TypeId} {a b : Int} (hx : ev e x = .int .i64 a) (hy : ev e y = .int .i64 b) : PV P ⟨d, .binOp .or t x y u, ty, pos, af, none⟩ e w (.int .i64 (ior a b)) := fun w' _ => by
  unfold execOp ior; simp [hx, hy, eqGuard, binOp, Op.intBits]
theorem pv_shr {t u : TypeId} {k2 : IntKind} {a b c : Int} (hx : ev e x = .int .i64 a) (hy : ev e y = .int k2 b) (h : sr a b = some c) : PV P ⟨d, .binOp .shr t x y u, ty, pos, af, none⟩ e w (.int .i64 c) := fun w' _ => by
  unfold sr at h
  split at h
  · rename_i h0
    obtain rfl := Option.some.inj h
    have h1 : ¬ b < 0 := by omega
    unfold execOp; simp [hx, hy, eqGuard, binOp, Op.shift, h1]
  · cases h
theorem pv_addS {t u : TypeId} {s r c : ByteArray} (hx : ev e x = .string s) (hy : ev e y = .string r) (h : scat s r = some c) : PV P ⟨d, .binOp .add t x y u, ty, pos, af, none⟩ e w (.string c) := fun w' _ => by
  unfold scat at h
  split at h
  · rename_i h0
    obtain rfl := Option.some.inj h
    have h1 : ¬ (((s.size + r.size : Nat) : Int) > IntKind.i64.max) := by
      have : IntKind.i64.max = 9223372036854775807 := by decide
      rw [this]; omega
    unfold execOp; simp only [hx, hy, eqGuard, binOp, Op.stringOp, Sem.run_bind, Sem.run_pure, Result.andThen_ok, if_neg h1]
    simp
  · cases h
theorem pv_bytes {t u E : TypeId} [ht : SliceT P t E] (he : P.underlying E = some (.int .u8)) (hu : P.underlying u = some .string) {v : Value} (hx : ev e x = v) {xs : List Int} (hr : (sliceR u8R E).rd w [v] xs) : PV P ⟨d, .convert t u x, ty, pos, af, none⟩ e w (.string (ofB xs)) := fun w' hw' => by
  obtain ⟨ao, cap, ccs, hv, h1, h2, h3, h4, h5⟩ := hr
  obtain rfl : v = .slice ao xs.length cap := by simpa using hv
  have hcc : ccs = xs.map (Value.int .u8) := by
    clear hv h1 h2 h3 h5 hx
    induction xs generalizing ccs with
    | nil => simpa [rdL] using h4
    | cons y ys ih =>
      obtain ⟨ec, r, rfl, h6, h7⟩ := h4
      obtain rfl := ih _ h7
      have : ec = [.int .u8 y] := h6
      rw [this]; rfl
  unfold execOp
  simp only [hx, Sem.run_bind, run_convert_bytes_string w' t u E ao xs.length cap ht.h he hu]
  cases ao with
  | none =>
    have : xs = [] := by apply List.eq_nil_of_length_eq_zero; have := h3 rfl; omega
    subst this
    simp [Conv.bytesToString, ofB]
  | some a =>
    have hl : (loadCells a xs.length).run P w' = .ok (xs.map (Value.int .u8)).toArray w' := by
      rcases h5 with h5 | ⟨b, off, hao, h5⟩
      · rw [hcc, List.map_eq_nil_iff] at h5; subst h5
        simp [loadCells, loadCellsFrom]
      · obtain rfl := Option.some.inj hao
        have := run_loadCells_list (P := P) w' ⟨b, off, none⟩ (xs.map (Value.int .u8)) (fun j c hj => by rw [Addr.add_lit]; have := h5 j c (by rw [hcc]; exact hj); rw [hw'.cell (block_lt_of_cell this)]; exact this)
        simpa using this
    rw [run_bytesToString w' a xs.length cap xs hl]
    simp [ofB]
end
/-! literals of several parts -/
theorem fillC_seq : ∀ (vs : List Value) (i : Nat) (cells : List Value), cells.length = i + vs.length → fillC (fun i => some (i * 1, 1)) cells ((vs.zipIdx i).map fun p => (p.2, [p.1])) = some (cells.take i ++ vs)
  | [], i, cells, h => by
    simp only [List.length_nil, Nat.add_zero] at h
    show some cells = some (cells.take i ++ [])
    rw [List.append_nil, List.take_of_length_le (by omega)]
  | v :: vs, i, cells, h => by
    simp only [List.length_cons] at h
    have e1 : i * 1 = i := Nat.mul_one i
    simp only [List.zipIdx_cons, List.map_cons, fillC, List.length_singleton, e1]
    rw [show Nat.beq 1 1 = true from rfl, Bool.true_and]
    have hb : Nat.ble (i + 1) cells.length = true := by rw [Nat.ble_eq]; omega
    rw [hb, cond_true, fillC_seq vs (i + 1) _ (by simp; omega)]
    congr 1
    rw [List.take_append_of_le_length (by simp; omega), List.take_of_length_le (by simp; omega)]
    simp
section
variable {P : Program} {n : Nat} {ops : Array Oper} {K : Env → World → Prop} {rest : List Oper} {e : Env} {w w0 : World} {d : Nat} {ty : TypeId} {pos : String} {af : Array Edge} {Γ : List Asn} {E : TypeId} {α : Type} {R : Rep α}
theorem el_buildSliceN {t : TypeId} [ht : SliceT P t E] {z : List Value} {bytes : Nat} [hz : ElemT P E z 1 bytes] {parts : Array (Nat × Operand)} {k : Nat} (vs : List Value) {xs : List α} (hsz : R.sz = 1) (hk : vs.length = k) (hxl : xs.length = k) (hk1 : Nat.ble k 16777216 = true)
    (hp : parts.toList.map (fun p => (p.1, (ev e p.2).cells)) = ((vs.zipIdx 0).map fun p => (p.2, [p.1].toArray))) (hown : ∀ w, ownL R w vs xs []) (hS : Sat w0 w Γ) (hd : d < n)
    (hK : ∀ w' v, Sat w0 w' (Own (sliceR R E) [v] xs :: Γ) → Ext w w' → EL P n ops K rest (upd e d v) w') : EL P n ops K (⟨some d, .buildSlice t k parts, ty, pos, af, none⟩ :: rest) e w := by
  intro a ha
  refine wpList_plain rfl fun K' hK' => ?_
  have hz := hz.h
  cases hi : P.info? E with
  | none => simp [hi] at hz
  | some i =>
  cases hzz : i.zero with
  | none => simp [hi, hzz] at hz
  | some zv =>
  simp [hi, hzz] at hz
  obtain ⟨hz1, hz2, hz3⟩ := hz
  have hk' : ¬ (k * 1 > 2 ^ 24) := by have := Nat.le_of_ble_eq_true hk1; omega
  have hfill : ∀ A : Array Value, A.size = k → Instr.fill (fun i => some (i * 1, 1)) A (parts.toList.map fun p => (p.1, ev e p.2)) = some vs.toArray := by
    intro A hA
    have := fill_eq (fun i => some (i * 1, 1)) (parts.toList.map fun p => (p.1, ev e p.2)) ((vs.zipIdx 0).map fun p => (p.2, [p.1])) A.toList (r := vs) (by
      rw [List.map_map, List.map_map]; exact hp) (by rw [fillC_seq vs 0 A.toList (by simp; omega)]; simp)
    simpa using this
  have hr : (Instr.buildSlice t k (parts.map fun p => (p.1, ev e p.2))).run P w = .ok (.slice (some ⟨w.heap.size, 0, none⟩) k k) (w.alloc (.cells vs.toArray E)) := by
    unfold Instr.buildSlice
    simp only [run_underlying ht.h, sizeOf, typeInfo, hi, hz2, Sem.run_bind, Sem.run_pure, run_program, Result.andThen_ok, if_neg hk', Sem.run_ite, Array.toList_map]
    by_cases h0 : k * 1 = 0
    · simp only [h0, if_true, Sem.run_pure, Result.andThen_ok]
      have hk0 : k = 0 := by omega
      rw [hfill _ (by simp; omega)]
      simp [newRow, hk0]
    · simp only [h0, if_false, zeroValue, typeInfo, hi, hzz, Sem.run_bind, Sem.run_pure, run_program, Result.andThen_ok]
      rw [hfill _ (by simp)]
      simp [newRow]
  unfold Oper.wp execOp
  simp only [ha.eval, hr, Sem.run_bind, Sem.run_pure, Result.andThen_ok, Oper.upon_value]
  refine hK' _ _ (hK _ _ ?_ (ext_alloc _ _) _ (ha.put hd _))
  refine (hS.box E vs).conv fun f hf => ?_
  obtain ⟨rfl, hf⟩ := hf
  have h2 := Nat.le_of_ble_eq_true hk1
  exact .inr ⟨w.heap.size, k, vs.toArray, vs, [], by rw [hxl], hf, by omega, by unfold maxLen; omega, by simp [hsz, hk], by rw [hsz, hxl, Nat.mul_one]; exact List.take_of_length_le (by simp; omega), hown _, by simp⟩
theorem own_ints (xs : List Int) (w : World) : ownL intR w (xs.map (Value.int .i64)) xs [] := by
  induction xs with
  | nil => exact ⟨rfl, rfl⟩
  | cons x xs ih => exact ⟨[.int .i64 x], _, [], [], rfl, rfl, ⟨rfl, rfl⟩, ih⟩
theorem own_u8s (xs : List Int) (w : World) : ownL u8R w (xs.map (Value.int .u8)) xs [] := by
  induction xs with
  | nil => exact ⟨rfl, rfl⟩
  | cons x xs ih => exact ⟨[.int .u8 x], _, [], [], rfl, rfl, ⟨rfl, rfl⟩, ih⟩
theorem own_strs {xs : List ByteArray} (h : xs.all (fun s => Nat.ble s.size 1000000) = true) (w : World) : ownL strR w (xs.map Value.string) xs [] := by
  induction xs with
  | nil => exact ⟨rfl, rfl⟩
  | cons x xs ih =>
    rw [List.all_cons, Bool.and_eq_true] at h
    exact ⟨[.string x], _, [], [], rfl, rfl, ⟨⟨rfl, by have := Nat.le_of_ble_eq_true h.1; omega⟩, rfl⟩, ih h.2⟩
end
/-! ### a field of an element set -/
def FieldUp {α : Type} (R : Rep α) (j : Nat) (c : Value) (u y : α) : Prop := ∀ w ec f, R.own w ec u f → j < ec.length ∧ R.own w (ec.set j c) y f
theorem fu_int (n x : Int) : FieldUp intR 0 (.int .i64 n) x n := fun w ec f h => by obtain ⟨rfl, rfl⟩ := h; exact ⟨by simp, rfl, rfl⟩
theorem fu_bool (n x : Bool) : FieldUp boolR 0 (.bool n) x n := fun w ec f h => by obtain ⟨rfl, rfl⟩ := h; exact ⟨by simp, rfl, rfl⟩
theorem fu_str {s : ByteArray} (hs : s.size ≤ 9223372036854775807) (x : ByteArray) : FieldUp strR 0 (.string s) x s := fun w ec f h => by obtain ⟨⟨rfl, _⟩, rfl⟩ := h; exact ⟨by simp, ⟨rfl, hs⟩, rfl⟩
theorem fu_fst {α β : Type} {R : Rep α} {S : Rep β} {j : Nat} {c : Value} {x : α × β} {y : α} (h : FieldUp R j c x.1 y) : FieldUp (pairR R S) j c x (y, x.2) := fun w ec f hf => by
  obtain ⟨c1, c2, f1, f2, rfl, rfl, h1, h2⟩ := hf
  obtain ⟨k1, k2⟩ := h w c1 f1 h1
  exact ⟨by simp; omega, c1.set j c, c2, f1, f2, List.set_append_left _ _ k1, rfl, k2, h2⟩
theorem fu_snd {α β : Type} {R : Rep α} {S : Rep β} {j k : Nat} {c : Value} {x : α × β} {y : β} (h : FieldUp S j c x.2 y) (hk : k = R.sz + j) : FieldUp (pairR R S) k c x (x.1, y) := fun w ec f hf => by
  obtain ⟨c1, c2, f1, f2, rfl, rfl, h1, h2⟩ := hf
  obtain ⟨k1, k2⟩ := h w c2 f2 h2
  have hl := R.rd_len (R.own_rd h1)
  refine ⟨by simp; omega, c1, c2.set j c, f1, f2, ?_, rfl, h1, k2⟩
  rw [List.set_append_right _ _ (by omega)]; congr 2; omega
theorem ownL_upd {α : Type} {R : Rep α} {w : World} {j : Nat} {c : Value} {y : α} : ∀ {xs : List α} {ccs : List Value} {f : List Nat}, ownL R w ccs xs f → ∀ (k : Nat) (hk : k < xs.length), FieldUp R j c xs[k] y → ownL R w (ccs.set (k * R.sz + j) c) (xs.set k y) f
  | [], _, _, _, k, hk, _ => absurd hk (by simp)
  | x :: xs, _, _, h, k, hk, hu => by
    obtain ⟨ec, rest, f1, f2, rfl, rfl, h1, h2⟩ := h
    cases k with
    | zero =>
      obtain ⟨k1, k2⟩ := hu w ec f1 h1
      exact ⟨ec.set j c, rest, f1, f2, by rw [Nat.zero_mul, Nat.zero_add, List.set_append_left _ _ k1], rfl, k2, h2⟩
    | succ k =>
      have hl := R.rd_len (R.own_rd h1)
      refine ⟨ec, rest.set (k * R.sz + j) c, f1, f2, ?_, rfl, h1, ownL_upd h2 k (by simpa using hk) (by simpa using hu)⟩
      rw [List.set_append_right _ _ (by rw [Nat.succ_mul]; omega)]
      congr 2; rw [Nat.succ_mul]; omega
section
variable {P : Program} {n : Nat} {ops : Array Oper} {K : Env → World → Prop} {rest : List Oper} {e : Env} {w w0 : World} {v : Value} {ty : TypeId} {pos : String} {af : Array Edge} {Γ : List Asn} {x y : Operand} {α : Type} {R : Rep α} {E : TypeId}
theorem el_storeF {t : TypeId} {z : List Value} {bytes : Nat} [hz : ElemT P t z 1 bytes] {xs ys : List α} {g ln cap o j m : Nat} {u yv : α} {c : Value} (hv : v = .slice (some ⟨g, 0, none⟩) ln cap)
    (hS : Sat w0 w (Own (sliceR R E) [v] xs :: Γ)) {i : Int} (hix : ix xs i = some u) (h : sto xs i yv = some ys) (hn : R.sz = m) (ho : o = i.toNat * m + j) (hx : ev e x = .pointer (some ⟨g, o, none⟩)) (hy : (ev e y).cells = [c].toArray) (h1 : c.oneCell' = true)
    (hup : FieldUp R j c u yv) (hK : ∀ w', Sat w0 w' (Own (sliceR R E) [v] ys :: Γ) → EL P n ops K rest e w') : EL P n ops K (⟨none, .store t x y, ty, pos, af, none⟩ :: rest) e w := by
  intro a ha
  refine wpList_plain rfl fun K' hK' => ?_
  obtain ⟨k, rfl, hk, rfl⟩ := ix_some hix
  have hys : ys = xs.set k yv := by
    unfold sto at h; split at h
    · simpa using (Option.some.inj h).symm
    · cases h
  subst hys hv hn ho
  simp only [Int.toNat_natCast] at hx
  have hz := hz.h
  cases hi : P.info? t with
  | none => simp [hi] at hz
  | some inf =>
    simp [hi] at hz
    obtain ⟨fp, hv, _⟩ := hS.head
    obtain ⟨cur, hh, hcs⟩ : ∃ cur, w.heap[g]? = some (.cells cur E (0, 0)) ∧ xs.length * R.sz ≤ cur.size := by
      rcases hv with ⟨h, _⟩ | ⟨g', cap', cur, ccs, f2, h, hg', h1, h2, h3, _⟩
      · simp at h
      · simp at h
        obtain ⟨rfl, _⟩ := h
        exact ⟨cur, hg', by rw [h3]; exact Nat.mul_le_mul_right _ h1⟩
    have hjm : j < R.sz := by
      rcases hv with ⟨_, h, _⟩ | ⟨g', cap', cur, ccs, f2, _, _, _, _, _, _, h5, _⟩
      · subst h; simp at hk
      · obtain ⟨ec, f1, f2, f3, k1, _, _, _⟩ := ownL_at h5 k hk
        have := (hup w ec f2 k1).1
        rw [R.rd_len (R.own_rd k1)] at this; exact this
    have hkk : k * R.sz + R.sz ≤ xs.length * R.sz := by have := Nat.mul_le_mul_right R.sz hk; rw [Nat.succ_mul] at this; exact this
    have hh' : w.heap[g]? = some (.cells cur.toList.toArray E (0, 0)) := by simpa using hh
    obtain ⟨w', hr, hnew, hc⟩ := run_storeCells_box (P := P) [c] (k * R.sz + j) 0 cur.toList w hh' (by simp; omega) (by simpa using h1)
    have hsz : ¬ ([c].toArray.size ≠ inf.size) := by simp; omega
    unfold Oper.wp execOp
    simp only [ha.eval, hx, Instr.storeAt, Instr.sureAddr, storeVar, sizeOf, typeInfo, hi, hy, Sem.run_bind, Sem.run_pure, run_program, Result.andThen_ok, hsz, if_false, Sem.run_ite, List.toList_toArray, hr, Oper.upon_skip]
    refine hK' _ _ (hK w' ?_ _ ha)
    refine hS.upd ?_
    intro fp2 hv2 hnd2
    rcases hv2 with ⟨h, _⟩ | ⟨g', cap', cur', ccs, f2, h, hg', h1, h2, h3, h4, h5, rfl⟩
    · simp at h
    · simp at h
      obtain ⟨rfl, rfl, rfl⟩ := h
      obtain ⟨rfl⟩ : cur' = cur := by rw [hh] at hg'; simpa using hg'.symm
      have h6 := ownL_upd h5 k hk hup
      have hoth : ∀ x, x ≠ g → x < w.heap.size → w'.heap[x]? = w.heap[x]? := fun x hx hlt => hc.block x hlt (by simpa using hx)
      have hgn : g ∉ f2 := (List.nodup_cons.1 hnd2).1
      have hcl : ccs.length = xs.length * R.sz := rdL_len (ownL_rdL h5)
      refine ⟨g :: f2, .inr ⟨g, cap, _, ccs.set (k * R.sz + j) c, f2, by simp, hnew, by simpa using h1, h2, ?_, ?_, ownL_ext h6 (fun b hb => hoth b (fun e => hgn (e ▸ hb)) (ownL_lt h5 b hb)), rfl⟩, hnd2, hc.mono (by simp), fun b hb => .inl hb⟩
      · simp only [List.size_toArray, List.length_append, List.length_take, List.length_drop, Array.length_toList, List.length_singleton, Nat.add_zero]
        omega
      · rw [← h4, List.length_set]
        have := splice_take cur.toList [c] (k * R.sz + j) 1 (xs.length * R.sz) (by omega) (by simpa using hcs) rfl
        simp only [Nat.add_zero, List.length_singleton] at this ⊢
        rw [this, List.set_eq_take_append_cons_drop, if_pos (by simp; omega)]
        simp
end
/-! ### two operations that may both come next; a region whose ends are brought to one -/
theorem al_two {P : Program} {n : Nat} {ops : Array Oper} {X : List Nat} {C : World → Prop} {K : Env → World → Prop} (i j : Nat) {f : Nat} {L : Array Bool} {e : Env} {w : World} {o o' : Oper} (hr : Region.ready .any ops L = [i, j]) (ho : ops[i]? = some o) (ho' : ops[j]? = some o')
    (h : EL P n ops (fun e' w' => (X.contains i = true → C w') ∧ AL P n ops X C K f (L.setIfInBounds i true) e' w') [o] e w) (h' : EL P n ops (fun e' w' => (X.contains j = true → C w') ∧ AL P n ops X C K f (L.setIfInBounds j true) e' w') [o'] e w) : AL P n ops X C K (f + 1) L e w :=
  ⟨fun h0 => (by rw [h0] at hr; cases hr), fun k hk => by
    rw [hr] at hk
    rcases List.mem_cons.1 hk with rfl | hk
    · exact ⟨o, ho, h⟩
    · obtain rfl : k = j := by simpa using hk
      exact ⟨o', ho', h'⟩⟩
theorem al_three {P : Program} {n : Nat} {ops : Array Oper} {X : List Nat} {C : World → Prop} {K : Env → World → Prop} (i j k : Nat) {f : Nat} {L : Array Bool} {e : Env} {w : World} {o o' o'' : Oper} (hr : Region.ready .any ops L = [i, j, k]) (ho : ops[i]? = some o) (ho' : ops[j]? = some o') (ho'' : ops[k]? = some o'')
    (h : EL P n ops (fun e' w' => (X.contains i = true → C w') ∧ AL P n ops X C K f (L.setIfInBounds i true) e' w') [o] e w) (h' : EL P n ops (fun e' w' => (X.contains j = true → C w') ∧ AL P n ops X C K f (L.setIfInBounds j true) e' w') [o'] e w)
    (h'' : EL P n ops (fun e' w' => (X.contains k = true → C w') ∧ AL P n ops X C K f (L.setIfInBounds k true) e' w') [o''] e w) : AL P n ops X C K (f + 1) L e w :=
  ⟨fun h0 => (by rw [h0] at hr; cases hr), fun k2 hk => by
    rw [hr] at hk
    rcases List.mem_cons.1 hk with rfl | hk
    · exact ⟨o, ho, h⟩
    rcases List.mem_cons.1 hk with rfl | hk
    · exact ⟨o', ho', h'⟩
    · obtain rfl : k2 = k := by simpa using hk
      exact ⟨o'', ho'', h''⟩⟩
theorem cw_mid {P : Program} {n : Nat} {c : Code} {Q : Exit → Env → World → Prop} {e : Env} {w : World} (I : Env → World → Prop) (h1 : CW P n c (fun x e w => x = .normal ∧ I e w) e w) (h2 : ∀ e w, I e w → Q .normal e w) : CW P n c Q e w := by
  intro a ha
  refine wp_mono (h1 a ha) ?_
  rintro x' a' w' ⟨e', he', rfl, hI⟩
  exact ⟨e', he', h2 _ _ hI⟩
/-! ### entries brought to the front, or let go, several at once -/
def memN (k : Nat) : List Nat → Bool
  | [] => false
  | a :: l => bif Nat.beq a k then true else memN k l
/-- without these places, among the first n -/
def dropI (idx : List Nat) : Nat → Nat → List Asn → List Asn
  | 0, _, Γ => Γ
  | _ + 1, _, [] => []
  | n + 1, k, A :: Γ => bif memN k idx then dropI idx n (k + 1) Γ else A :: dropI idx n (k + 1) Γ
def pickI (Γ : List Asn) : List Nat → List Asn
  | [] => []
  | i :: l => match Γ[i]? with | some A => A :: pickI Γ l | none => pickI Γ l
def okI_ (n : Nat) : List Nat → Bool
  | [] => true
  | a :: l => Nat.blt a n && (!memN a l && okI_ n l)
theorem memN_cons {k a : Nat} {l : List Nat} (h : a ≠ k) : memN k (a :: l) = memN k l := by
  show (bif Nat.beq a k then true else memN k l) = _
  rw [beq_ne h]; rfl
theorem dropI_miss (i : Nat) (idx : List Nat) : ∀ (n k : Nat) (Γ : List Asn), i < k → dropI (i :: idx) n k Γ = dropI idx n k Γ
  | 0, _, _, _ => rfl
  | _ + 1, _, [], _ => rfl
  | n + 1, k, A :: Γ, h => by
    unfold dropI
    rw [memN_cons (by omega), dropI_miss i idx n (k + 1) Γ (by omega)]
theorem dropI_cons {i : Nat} {idx : List Nat} (hi : memN i idx = false) {A : Asn} : ∀ (n k : Nat) (Γ : List Asn), k ≤ i → i < k + n → Γ[i - k]? = some A → (dropI idx n k Γ).Perm (A :: dropI (i :: idx) n k Γ)
  | 0, k, Γ, h1, h2, _ => by omega
  | n + 1, k, [], h1, h2, h3 => by simp at h3
  | n + 1, k, B :: Γ, h1, h2, h3 => by
    unfold dropI
    by_cases e : i = k
    · subst e
      rw [Nat.sub_self] at h3
      have : B = A := by simpa using h3
      subst this
      have hm : memN i (i :: idx) = true := by unfold memN; simp
      rw [hi, hm, cond_false, cond_true, dropI_miss i idx n (i + 1) Γ (by omega)]
    · have h4 : Γ[i - (k + 1)]? = some A := by
        rw [show i - k = (i - (k + 1)) + 1 by omega] at h3; simpa using h3
      have ih := dropI_cons hi n (k + 1) Γ (by omega) (by omega) h4
      rw [memN_cons e]
      cases memN k idx
      · exact (List.Perm.cons B ih).trans (.swap _ _ _)
      · exact ih
theorem sel_perm (Γ : List Asn) (n : Nat) : ∀ (idx : List Nat), okI_ n idx = true → ∃ Θ, Γ.Perm ((pickI Γ idx ++ dropI idx n 0 Γ) ++ Θ)
  | [], _ => ⟨[], by
    have : ∀ (n k : Nat) (Γ : List Asn), dropI [] n k Γ = Γ := by
      intro n
      induction n with
      | zero => intro k Γ; rfl
      | succ n ih => intro k Γ; cases Γ with
        | nil => rfl
        | cons A Γ => show A :: dropI [] n (k + 1) Γ = _; rw [ih]
    simp [pickI, this]⟩
  | i :: idx, h => by
    simp only [okI_, Bool.and_eq_true, Bool.not_eq_true'] at h
    obtain ⟨h1, h2, h3⟩ := h
    obtain ⟨Θ, hp⟩ := sel_perm Γ n idx h3
    have hin : i < n := by simp [Nat.blt] at h1; omega
    cases hi : Γ[i]? with
    | none =>
      refine ⟨Θ, ?_⟩
      have : dropI (i :: idx) n 0 Γ = dropI idx n 0 Γ := by
        have : ∀ (n k : Nat) (Γ : List Asn), Γ.length + k ≤ i → dropI (i :: idx) n k Γ = dropI idx n k Γ := by
          intro n
          induction n with
          | zero => intro k Γ h; rfl
          | succ n ih => intro k Γ h; cases Γ with
            | nil => rfl
            | cons A Γ =>
              simp only [List.length_cons] at h
              unfold dropI
              rw [memN_cons (by omega), ih (k + 1) Γ (by omega)]
        exact this n 0 Γ (by have := List.getElem?_eq_none_iff.1 hi; omega)
      have e : pickI Γ (i :: idx) = pickI Γ idx := by show (match Γ[i]? with | some A => A :: pickI Γ idx | none => pickI Γ idx) = _; rw [hi]
      rw [e, this]; exact hp
    | some A =>
      refine ⟨Θ, hp.trans (List.Perm.append_right Θ ?_)⟩
      have e : pickI Γ (i :: idx) = A :: pickI Γ idx := by show (match Γ[i]? with | some A => A :: pickI Γ idx | none => pickI Γ idx) = _; rw [hi]
      rw [e]
      refine (List.Perm.append_left _ (dropI_cons h2 n 0 Γ (Nat.zero_le _) (by omega) hi)).trans ?_
      exact List.perm_middle
theorem Sat.tops {w0 w : World} {Γ : List Asn} (n : Nat) (idx : List Nat) (h : Sat w0 w Γ) (hk : okI_ n idx = true) : Sat w0 w (pickI Γ idx ++ dropI idx n 0 Γ) := by
  obtain ⟨Θ, hp⟩ := sel_perm Γ n idx hk
  exact h.take _ Θ hp
theorem Sat.rems {w0 w : World} {Γ : List Asn} (n : Nat) (idx : List Nat) (h : Sat w0 w Γ) (hk : okI_ n idx = true) : Sat w0 w (dropI idx n 0 Γ) :=
  Sat.drop (h.tops n idx hk)
/-! ### a part of a slice, as a value -/
def slcV (m : Nat) : Value → Int → Int → Value
  | .slice ao _ cap, lo, hi => .slice (if cap = lo.toNat then ao else ao.map (·.add (lo.toNat * m))) (hi.toNat - lo.toNat) (cap - lo.toNat)
  | v, _, _ => v
section
variable {α : Type} {R : Rep α} {E : TypeId} {w w0 : World} {v : Value} {xs ys : List α} {Γ : List Asn}
theorem slc_some {xs ys : List α} {lo hi : Int} (h : slc xs lo hi = some ys) : ∃ l k : Nat, lo = (l : Int) ∧ hi = (k : Int) ∧ l ≤ k ∧ k ≤ xs.length ∧ ys = (xs.take k).drop l := by
  unfold slc at h
  split at h
  · rename_i h0
    exact ⟨lo.toNat, hi.toNat, by omega, by omega, by omega, by omega, (Option.some.inj h).symm⟩
  · cases h
theorem rd_slc {m : Nat} {lo hi : Int} (hn : R.sz = m) (hr : (sliceR R E).rd w [v] xs) (hq : slc xs lo hi = some ys) : (sliceR R E).rd w [slcV m v lo hi] ys := by
  obtain ⟨l, h, rfl, rfl, hlh, hh, rfl⟩ := slc_some hq
  obtain ⟨ao, cap, ccs, hv, h1, h2, h3, h4, h5⟩ := hr
  obtain rfl : v = .slice ao xs.length cap := by simpa using hv
  have hlen : ((xs.take h).drop l).length = h - l := by simp; omega
  have hrd := (rdL_split l (rdL_split h h4).1).2
  have hccl := rdL_len h4
  subst hn
  refine ⟨if cap = l then ao else ao.map (·.add (l * R.sz)), cap - l, _, by simp [slcV, hlen], by rw [hlen]; omega, by omega, ?_, hrd, ?_⟩
  · intro e
    split at e
    · omega
    · cases ao with
      | none => have := h3 rfl; omega
      | some _ => simp at e
  · by_cases hcl : cap = l
    · left
      have : h = l := by omega
      subst this
      apply List.eq_nil_of_length_eq_zero
      simp
    · rw [if_neg hcl]
      rcases h5 with rfl | ⟨b, off, rfl, h5⟩
      · left; simp
      · right
        refine ⟨b, off + l * R.sz, by simp [Addr.add_lit], fun j c hj => ?_⟩
        rw [List.getElem?_drop, List.getElem?_take] at hj
        split at hj
        · rw [Nat.add_assoc]; exact h5 _ c hj
        · cases hj
theorem ownL_take {w : World} : ∀ (k : Nat) {xs : List α} {ccs : List Value} {f : List Nat}, ownL R w ccs xs f → ∃ f1 f2, f = f1 ++ f2 ∧ ownL R w (ccs.take (k * R.sz)) (xs.take k) f1 ∧ (∀ b ∈ f2, b < w.heap.size)
  | 0, xs, ccs, f, h => ⟨[], f, rfl, by simp [ownL], ownL_lt h⟩
  | k + 1, [], ccs, f, h => by
    obtain ⟨rfl, rfl⟩ := h
    exact ⟨[], [], rfl, ⟨by simp, rfl⟩, by simp⟩
  | k + 1, x :: xs, ccs, f, h => by
    obtain ⟨ec, rest, g1, g2, rfl, rfl, h1, h2⟩ := h
    obtain ⟨f1, f2, rfl, h3, h4⟩ := ownL_take k h2
    refine ⟨g1 ++ f1, f2, by simp, ⟨ec, rest.take (k * R.sz), g1, f1, ?_, rfl, h1, h3⟩, h4⟩
    have e : (k + 1) * R.sz = ec.length + k * R.sz := by rw [R.rd_len (R.own_rd h1), Nat.add_mul]; omega
    rw [e, List.take_append, List.take_of_length_le (by omega), Nat.add_sub_cancel_left]
/-- what lies behind is let go -/
theorem Sat.prefix {m : Nat} {hi : Int} (hn : R.sz = m) (hS : Sat w0 w (Own (sliceR R E) [v] xs :: Γ)) (hq : slc xs 0 hi = some ys) : Sat w0 w (Own (sliceR R E) [slcV m v 0 hi] ys :: Γ) := by
  obtain ⟨l, k, hl, rfl, hlk, hk, rfl⟩ := slc_some hq
  obtain rfl : l = 0 := by omega
  subst hn
  obtain ⟨ao, hao⟩ : ∃ A, A = Asn.mk (fun w fp => True ∧ ∀ b ∈ fp, b < w.heap.size) (fun h he => ⟨trivial, fun b hb => by
    have h1 := h.2 b hb
    have h2 := he b hb
    rw [Array.getElem?_eq_getElem h1] at h2
    exact (Array.getElem?_eq_some_iff.1 h2).1⟩) (fun h => h.2) := ⟨_, rfl⟩
  refine Sat.tail (A := ao) ?_
  refine hS.splitp fun f hf => ?_
  subst hao
  rcases hf with ⟨hv, rfl, rfl⟩ | ⟨g, cap, cur, ccs, f2, hv, hg, h1, h2, h3, h4, h5, rfl⟩
  · obtain rfl : v = .slice none 0 0 := by simpa using hv
    simp only [List.length_nil, Nat.le_zero] at hk
    subst hk
    exact ⟨[], [], .refl _, ⟨trivial, by simp⟩, .inl ⟨by simp [slcV], by simp, rfl⟩⟩
  · obtain rfl : v = .slice (some ⟨g, 0, none⟩) xs.length cap := by simpa using hv
    obtain ⟨f1, f3, rfl, h6, h7⟩ := ownL_take k h5
    refine ⟨f3, g :: f1, ?_, ⟨trivial, h7⟩, .inr ⟨g, cap, cur, _, f1, ?_, hg, ?_, h2, h3, ?_, h6, rfl⟩⟩
    · exact List.perm_middle.trans (.cons _ List.perm_append_comm)
    · have hl : (xs.take k).length = k := by simp; omega
      simp only [List.drop_zero, hl, slcV, Int.toNat_natCast]
      by_cases hc : cap = 0
      · simp [hc]
      · simp [hc, Addr.add_lit]
    · simp; omega
    · rw [← h4]
      simp only [List.drop_zero, List.length_take, List.take_take]
      congr 1
      rw [Nat.min_eq_left hk]
      exact (Nat.min_eq_left (Nat.mul_le_mul_right _ hk)).symm
end
theorem pv_slcV {P : Program} {e : Env} {w wA : World} {d : Option Nat} {ty : TypeId} {pos : String} {af : Array Edge} {x : Operand} {v : Value} {α : Type} {R : Rep α} {E E' : TypeId} {t : TypeId} {lo hi : Option Operand} [ht : SliceT P t E'] {z : List Value} {m bytes : Nat} [hz : ElemT P E' z m bytes]
    (hx : ev e x = v) {xs ys : List α} (hr : (sliceR R E).rd wA [v] xs) {l h : Int} (hlo : (lo.map (ev e) = some (.int .i64 l)) ∨ (lo = none ∧ l = 0)) (hhi : (hi.map (ev e) = some (.int .i64 h)) ∨ (hi = none ∧ h = xs.length)) (hq : slc xs l h = some ys) :
    PV P ⟨d, .slice t x lo hi none, ty, pos, af, none⟩ e w (slcV m v l h) := fun w' _ => by
  obtain ⟨l', h', rfl, rfl, hlh, hh, _⟩ := slc_some hq
  obtain ⟨ao, cap, ccs, hv, h1, h2, h3, h4, h5⟩ := hr
  obtain rfl : v = .slice ao xs.length cap := by simpa using hv
  have hz := hz.h
  cases hq' : P.info? E' with
  | none => simp [hq'] at hz
  | some inf =>
    simp [hq'] at hz
    have hcap : h' ≤ cap := by omega
    have hsz : inf.size = m := hz.2.1
    have hb : (Instr.sliceBounds true xs.length cap (lo.map (ev e)) (hi.map (ev e)) none).run P w' = .ok (l', h', cap) w' := by
      rcases hlo with e1 | ⟨e1, e1'⟩ <;> rcases hhi with e2 | ⟨e2, e2'⟩
      all_goals
        (try rw [e1]); (try rw [e2])
        first
          | (simp [Instr.sliceBounds, Instr.sliceBound, asIntOf, hcap, hlh]; done)
          | (have : l' = 0 := by omega
             subst this
             simp [Instr.sliceBounds, Instr.sliceBound, asIntOf, hcap, hlh]; done)
          | (have : h' = xs.length := by omega
             subst this
             simp [Instr.sliceBounds, Instr.sliceBound, asIntOf, hcap, hlh]; done)
          | (have : l' = 0 := by omega
             have : h' = xs.length := by omega
             subst_vars
             simp [Instr.sliceBounds, Instr.sliceBound, asIntOf])
    unfold execOp
    simp only [hx, Instr.sliceAt, Sem.run_bind, run_underlying ht.h, Result.andThen_ok, Instr.slice, hb, sizeOf, typeInfo, hq', run_program, Sem.run_pure, Option.map_none, slcV, hsz, Int.toNat_natCast]
theorem slcV_one (m : Nat) {v : Value} (h : v.oneCell' = true) (l k : Int) : (slcV m v l k).oneCell' = true := by cases v <;> first | rfl | exact h
theorem tail_rd {α : Type} {R : Rep α} {E : TypeId} {w : World} {cs : List Value} {xs : List α} (h : (tailR R E).rd w cs xs) : (sliceR R E).rd w cs xs := h
theorem slc1_pos {α : Type} {xs ys : List α} {hi : Int} (h : slc xs 1 hi = some ys) : 0 < xs.length := by
  obtain ⟨l, k, h1, h2, h3, h4, _⟩ := slc_some h; omega
theorem ql_callV {P : Program} {n : Nat} {ops : Array Oper} {KQ : Env → Prop} {rest : List Oper} {e : Env} {w : World} {d : Nat} {ty : TypeId} {pos : String} {af : Array Edge} {f : FuncId} {g : Operand} {args : Array Operand} {tys : Array TypeId} {vals : Array Value} (v : Value) (hf : ev e g = .func (.func f) #[] #[]) (hg : Goes P f)
    (hc : ∀ w', Ext w w' → Calls P f vals w' fun x w'' => x = .returned v ∧ Ext w' w'') (hv : (args.toList.map (ev e)).toArray = vals) (hd : d < n)
    (hK : QL P n ops w KQ rest (upd e d v)) : QL P n ops w KQ (⟨some d, .call ⟨.value g, args, tys⟩, ty, pos, af, none⟩ :: rest) e := by
  intro a ha
  unfold wpQuiet
  rw [if_pos (by rfl)]
  refine ⟨v, fun w' hw' => ?_, hK _ (ha.put hd v)⟩
  unfold Oper.quietAt execOp
  have he : args.map (ev e) = vals := by rw [← hv]; apply Array.ext'; simp
  simp only [ha.eval, resolve, hf, Deferred.ofValue, Sem.run_bind, Sem.run_pure, Result.andThen_ok, Array.empty_append, Array.append_empty, he, invoke, hg.run]
  exact ⟨rfl, (hc w' hw').mono fun x w'' ⟨h1, h2⟩ => ⟨h1, hw'.trans h2⟩⟩
/-! ### what is owned and only read from here on -/
theorem cell_congr {w W : World} {b o : Nat} (h : w.heap[b]? = W.heap[b]?) : w.cell? ⟨b, o, none⟩ = W.cell? ⟨b, o, none⟩ := by
  unfold World.cell?; simp [h]
/-- the blocks F are as they were at W -/
def Frz (W : World) (F : List Nat) : Asn where
  holds w fp := fp = F ∧ (∀ b ∈ F, w.heap[b]? = W.heap[b]?) ∧ ∀ b ∈ F, b < W.heap.size
  ext h he := by obtain ⟨rfl, h1, h2⟩ := h; exact ⟨rfl, fun b hb => (he b hb).trans (h1 b hb), h2⟩
  lt h := by
    obtain ⟨rfl, h1, h2⟩ := h
    intro b hb
    have := h1 b hb
    rw [Array.getElem?_eq_getElem (h2 b hb)] at this
    exact (Array.getElem?_eq_some_iff.1 this).1
section
variable {α : Type} {R : Rep α} {W w w0 : World} {Γ : List Asn} {F F' : List Nat} {cs : List Value} {x : α}
theorem Sat.frz (hS : Sat w0 w (Own R cs x :: Γ)) : ∃ F, R.own w cs x F ∧ Sat w0 w (Frz w F :: Γ) := by
  obtain ⟨hb, _, ⟨f1, f2, rfl, h1, h2⟩, hn, h3⟩ := hS
  exact ⟨f1, h1, hb, _, ⟨f1, f2, rfl, ⟨rfl, fun _ _ => rfl, R.own_lt h1⟩, h2⟩, hn, h3⟩
theorem Sat.frzEq (i : Nat) (hS : Sat w0 w Γ) (hi : Γ[i]? = some (Frz W F)) : ∀ b ∈ F, w.heap[b]? = W.heap[b]? := by
  obtain ⟨fp, ⟨rfl, h, _⟩, _⟩ := (hS.top i hi).head
  exact h
theorem Sat.frzRd (i : Nat) (hS : Sat w0 w Γ) (hi : Γ[i]? = some (Frz W F)) (h : R.own W cs x F') (hs : ∀ b ∈ F', b ∈ F) : R.rd w cs x :=
  R.own_rd (R.own_ext h (fun b hb => hS.frzEq i hi b (hs b hb)))
theorem Sat.frzCells (i : Nat) (hS : Sat w0 w Γ) (hi : Γ[i]? = some (Frz W F)) {b off : Nat} {ec : List Value} (hb : b ∈ F) (hm : ∀ j c, ec[j]? = some c → W.cell? ⟨b, off + j, none⟩ = some c) : ∀ j c, ec[j]? = some c → w.cell? ⟨b, off + j, none⟩ = some c :=
  fun j c hj => by rw [cell_congr (hS.frzEq i hi b hb)]; exact hm j c hj
end
section
variable {P : Program} {n : Nat} {ops : Array Oper} {X : List Nat} {C : World → Prop} {K : Env → World → Prop} {KQ : Env → Prop} {rest : List Oper} {e : Env} {w W : World} {v : Value} {d : Nat} {ty : TypeId} {pos : String} {af : Array Edge} {x y : Operand} {α : Type} {R : Rep α} {E : TypeId} {F : List Nat} {fuel : Nat} {L : Array Bool}
theorem pv_indexZ {d : Option Nat} {t : TypeId} [ht : SliceT P t E] {zz : List Value} {m bytes : Nat} [hz : ElemT P E zz m bytes] {xs : List α} (hs : ev e x = v) (hr : (sliceR R E).own W [v] xs F)
    (hn : R.sz = m) {k : IntKind} {i : Int} (hi : ev e y = .int k i) {u : α} (h : ix xs i = some u) :
    ∃ b off ec F2, R.own W ec u F2 ∧ (∀ q ∈ F2, q ∈ F) ∧ b ∈ F ∧ (∀ j c, ec[j]? = some c → W.cell? ⟨b, off + j, none⟩ = some c) ∧ ∀ w, PV P ⟨d, .indexAddr t x y, ty, pos, af, none⟩ e w (.pointer (some ⟨b, off, none⟩)) := by
  obtain ⟨k', rfl, hk, rfl⟩ := ix_some h
  rcases hr with ⟨_, h2, _⟩ | ⟨g, cap, cur, ccs, f2, hv, hg, h1, h2, h3, h4, h5, rfl⟩
  · subst h2; simp at hk
  obtain rfl : v = .slice (some ⟨g, 0, none⟩) xs.length cap := by simpa using hv
  obtain ⟨ec, f1, f2', f3, k1, rfl, k3, _⟩ := ownL_at h5 k' hk
  have hz := hz.h
  cases hq : P.info? E with
  | none => simp [hq] at hz
  | some inf =>
    simp [hq] at hz
    have hsz : inf.size = m := hz.2.1
    refine ⟨g, k' * m, ec, f2', k1, fun q hq => by simp [hq], by simp, fun j c hj => ?_, fun w w' _ => ?_⟩
    · have h0 := k3 j c hj
      rw [cell_of_row W g _ cur E (0, 0) hg, ← Array.getElem?_toList]
      rw [← h4, List.getElem?_take] at h0
      rw [← hn]
      split at h0
      · exact h0
      · cases h0
    · unfold execOp
      simp [hs, hi, Instr.indexAt, asIntOf, run_underlying ht.h, sizeOf, typeInfo, hq, hk, Addr.add_lit, hsz]
theorem el_indexZ {t : TypeId} [SliceT P t E] {zz : List Value} {m bytes : Nat} [ElemT P E zz m bytes] {xs : List α} (hs : ev e x = v) (hr : (sliceR R E).own W [v] xs F) (hn : R.sz = m) {k : IntKind} {i : Int} (hi : ev e y = .int k i) {u : α} (h : ix xs i = some u) (hd : d < n)
    (hK : ∀ b off ec F2, R.own W ec u F2 → (∀ q ∈ F2, q ∈ F) → b ∈ F → (∀ j c, ec[j]? = some c → W.cell? ⟨b, off + j, none⟩ = some c) → EL P n ops K rest (upd e d (.pointer (some ⟨b, off, none⟩))) w) : EL P n ops K (⟨some d, .indexAddr t x y, ty, pos, af, none⟩ :: rest) e w := by
  obtain ⟨b, off, ec, F2, h1, h2, h3, h4, h5⟩ := pv_indexZ (P := P) (d := some d) (ty := ty) (pos := pos) (af := af) (t := t) hs hr hn hi h
  exact el_pv (h5 _) hd (hK b off ec F2 h1 h2 h3 h4)
theorem ql_indexZ {t : TypeId} [SliceT P t E] {zz : List Value} {m bytes : Nat} [ElemT P E zz m bytes] {xs : List α} (hs : ev e x = v) (hr : (sliceR R E).own W [v] xs F) (hn : R.sz = m) {k : IntKind} {i : Int} (hi : ev e y = .int k i) {u : α} (h : ix xs i = some u) (hd : d < n)
    (hK : ∀ b off ec F2, R.own W ec u F2 → (∀ q ∈ F2, q ∈ F) → b ∈ F → (∀ j c, ec[j]? = some c → W.cell? ⟨b, off + j, none⟩ = some c) → QL P n ops w KQ rest (upd e d (.pointer (some ⟨b, off, none⟩)))) : QL P n ops w KQ (⟨some d, .indexAddr t x y, ty, pos, af, none⟩ :: rest) e := by
  obtain ⟨b, off, ec, F2, h1, h2, h3, h4, h5⟩ := pv_indexZ (P := P) (d := some d) (ty := ty) (pos := pos) (af := af) (t := t) hs hr hn hi h
  exact ql_pv (h5 _) hd (hK b off ec F2 h1 h2 h3 h4)
theorem al_indexZ (hsel : noSel ops = true) (i' : Nat) {t : TypeId} [SliceT P t E] {zz : List Value} {m bytes : Nat} [ElemT P E zz m bytes] {xs : List α} (hi' : ops[i']? = some ⟨some d, .indexAddr t x y, ty, pos, af, none⟩) (hC : C w) (hf : free ops X L i' ⟨some d, .indexAddr t x y, ty, pos, af, none⟩ = true) (hrd : (Region.ready .any ops L).contains i' = true)
    (hs : ev e x = v) (hr : (sliceR R E).own W [v] xs F) (hn : R.sz = m) {k : IntKind} {i : Int} (hi : ev e y = .int k i) {u : α} (h : ix xs i = some u) (hd : d < n)
    (hK : ∀ b off ec F2, R.own W ec u F2 → (∀ q ∈ F2, q ∈ F) → b ∈ F → (∀ j c, ec[j]? = some c → W.cell? ⟨b, off + j, none⟩ = some c) → AL P n ops X C K fuel (L.setIfInBounds i' true) (upd e d (.pointer (some ⟨b, off, none⟩))) w) : AL P n ops X C K (fuel + 1) L e w := by
  obtain ⟨b, off, ec, F2, h1, h2, h3, h4, h5⟩ := pv_indexZ (P := P) (d := some d) (ty := ty) (pos := pos) (af := af) (t := t) hs hr hn hi h
  exact al_p hsel i' hi' rfl hd hC hf hrd (sv_on rfl fun w' _ => h5 w') (hK b off ec F2 h1 h2 h3 h4)
theorem al_indexZg (hsel : noSel ops = true) (i' : Nat) {t : TypeId} [SliceT P t E] {zz : List Value} {m bytes : Nat} [ElemT P E zz m bytes] {xs : List α} {j' : Nat} {bb cc : Bool} (hi' : ops[i']? = some ⟨some d, .indexAddr t x y, ty, pos, af, some (j', bb)⟩) (hC : C w) (hf : free ops X L i' ⟨some d, .indexAddr t x y, ty, pos, af, some (j', bb)⟩ = true) (hrd : (Region.ready .any ops L).contains i' = true)
    (hy' : yld ops e j' = some cc) (hcc : cc = bb) (hs : ev e x = v) (hr : (sliceR R E).own W [v] xs F) (hn : R.sz = m) {k : IntKind} {i : Int} (hi : ev e y = .int k i) {u : α} (h : ix xs i = some u) (hd : d < n)
    (hK : ∀ b off ec F2, R.own W ec u F2 → (∀ q ∈ F2, q ∈ F) → b ∈ F → (∀ j c, ec[j]? = some c → W.cell? ⟨b, off + j, none⟩ = some c) → AL P n ops X C K fuel (L.setIfInBounds i' true) (upd e d (.pointer (some ⟨b, off, none⟩))) w) : AL P n ops X C K (fuel + 1) L e w := by
  obtain ⟨b, off, ec, F2, h1, h2, h3, h4, h5⟩ := pv_indexZ (P := P) (d := some d) (ty := ty) (pos := pos) (af := af) (t := t) hs hr hn hi h
  exact al_p hsel i' hi' rfl hd hC hf hrd (sv_g hy' hcc fun w' _ => h5 w') (hK b off ec F2 h1 h2 h3 h4)
end
/-- a list's elements, without the list -/
theorem Sat.unlist {α : Type} {R : Rep α} {E : TypeId} {w w0 : World} {v : Value} {xs : List α} {Γ : List Asn} (hS : Sat w0 w (Own (sliceR R E) [v] xs :: Γ)) : ∃ ao c ccs, v = .slice ao xs.length c ∧ (ao = none → c = 0) ∧ rowAt w ao ccs ∧ Sat w0 w (OwnL R ccs xs :: Γ) := by
  obtain ⟨hb, _, ⟨f1, f2, rfl, h1, h2⟩, hn, h3⟩ := hS
  rcases h1 with ⟨hv, rfl, rfl⟩ | ⟨g, cap, cur, ccs, f3, hv, hg, k1, k2, k3, k4, k5, rfl⟩
  · exact ⟨none, 0, [], by simpa using hv, fun _ => rfl, .inl rfl, hb, _, ⟨[], f2, rfl, ⟨rfl, rfl⟩, h2⟩, hn, h3⟩
  · refine ⟨some ⟨g, 0, none⟩, cap, ccs, by simpa using hv, by simp, .inr ⟨g, 0, rfl, fun j c hj => ?_⟩, hb, f3 ++ f2, ⟨f3, f2, rfl, k5, h2⟩, (List.nodup_cons.1 hn).2, fun b hb' => h3 b (List.mem_cons_of_mem _ hb')⟩
    rw [Nat.zero_add, cell_of_row _ g j cur E (0, 0) hg, ← Array.getElem?_toList]
    rw [← k4, List.getElem?_take] at hj
    split at hj
    · exact hj
    · cases hj
theorem fin0 {P : Program} {fn : Func} {n : Nat} {e : Env} {w : World} {R : Ending → World → Prop} (h : fn.results = #[]) (hR : R (.returned (.tuple #[])) w) : Fin P fn n R .ret e w :=
  ⟨_, fun a ha => by simp [results, h], hR⟩
end Go.Proofs.Ytkpeabpdiffjhaa
