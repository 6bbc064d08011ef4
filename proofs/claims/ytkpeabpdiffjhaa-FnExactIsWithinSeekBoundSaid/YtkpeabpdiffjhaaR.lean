/- Regions that draw their order and hold operations that make or write memory: what only reads is taken first. Program-independent. -/
import Derived.Test.YtkpeabpdiffjhaaQ
namespace Go.Proofs.Ytkpeabpdiffjhaa
open Go.RowKit

/-- whatever order is picked from here on; the operations of X leave a world of the class C -/
def AL (P : Program) (n : Nat) (ops : Array Oper) (X : List Nat) (C : World → Prop) (K : Env → World → Prop) : Nat → Array Bool → Env → World → Prop
  | 0, L, e, w => Region.ready .any ops L = [] ∧ K e w
  | f + 1, L, e, w => (Region.ready .any ops L = [] → K e w) ∧
    ∀ i ∈ Region.ready .any ops L, ∃ o, ops[i]? = some o ∧ EL P n ops (fun e' w' => (X.contains i = true → C w') ∧ AL P n ops X C K f (L.setIfInBounds i true) e' w') [o] e w

section
variable {P : Program} {n : Nat} {ops : Array Oper} {X : List Nat} {C : World → Prop} {K : Env → World → Prop}
theorem wp_nrm {o : Oper} {a : Act} {w : World} {N N2 : Act → World → Prop} {K1 K2 : Env → World → Prop} (h : ∀ a w, N a w → N2 a w) (hh : o.wp P a w N (nrm n K1)) : o.wp P a w N2 (nrm n K2) := by
  unfold Oper.wp at *
  generalize (execOp a.eval o).run P w = r at *
  cases r with
  | ok m w' =>
    cases m <;> simp only [Oper.upon] at hh ⊢ <;>
      first
        | exact h _ _ hh
        | exact Calls.mono hh (fun e w'' he => by
            cases e with
            | returned v => exact h _ _ he
            | panicked ch => exact absurd he.1 (by simp)
            | outgrown => obtain ⟨_, _, hx, _⟩ := he; exact absurd hx (by simp))
        | exact Rows.mono hh (fun _ _ he => h _ _ he)
  | halt x w' =>
    cases x <;> simp only [Oper.upon] at hh ⊢
    exact absurd hh.1 (by simp)
theorem no_out {K : Env → World → Prop} : ¬ LetsOut (nrm n K) := by
  rintro ⟨_, _, h, _⟩; exact absurd h (by simp)
theorem AL.any : ∀ (f : Nat) (L : Array Bool) (e : Env) (a : Act) (w : World), Mt n e a → AL P n ops X C K f L e w → wpAny P .any ops (nrm n K) f L a w
  | 0, _, e, a, _, ha, h => ⟨h.1, rfl, e, ha, h.2⟩
  | f + 1, L, e, a, w, ha, h => by
    refine ⟨fun h0 => ⟨rfl, e, ha, h.1 h0⟩, fun i hi => ?_⟩
    obtain ⟨o, ho, hE⟩ := h.2 i hi
    have := hE a ha
    unfold wpOp
    simp only [ho]
    unfold wpList at this
    have key : ∀ a w, wpList P ops (nrm n fun e' w' => (X.contains i = true → C w') ∧ AL P n ops X C K f (L.setIfInBounds i true) e' w') [] a w → wpAny P .any ops (nrm n K) f (L.setIfInBounds i true) a w := by
      rintro a w ⟨_, e', ha', _, h2⟩
      exact AL.any f _ e' a w ha' h2
    split
    · rename_i hw
      rw [if_pos hw] at this
      rcases this with h1 | ⟨_, h1⟩
      · exact .inl (wp_nrm key h1)
      · exact absurd h1 no_out
    · rename_i hw
      rw [if_neg hw] at this
      exact key _ _ this
theorem cw_regb {id : Nat} {l : List Oper} {Q : Exit → Env → World → Prop} {e : Env} {w : World} (X : List Nat) (C : World → Prop) (hm : P.follows .mixedOrders = true)
    (hx : ∀ w', Ext w w' → AL P n l.toArray X C (fun e w => Q .normal e w) l.length (Array.replicate l.length false) e w') : CW P n (.region id l.toArray true) Q e w := by
  intro a ha
  have h2 := hx { w with drawn := w.drawn + 1 } ⟨rfl, rfl, rfl, Nat.le_refl _, fun _ _ => rfl⟩
  have := AL.any _ _ _ a _ ha h2
  refine wp_mono (wp_region_any (Q := nrm n fun e w => Q .normal e w) hm (by simpa using this)) ?_
  rintro x a w ⟨rfl, e, he, hk⟩
  exact ⟨e, he, hk⟩

/-- operation o, in every world of the class, yields v and leaves the world alone; or it is not wanted -/
def SV (P : Program) (n : Nat) (ops : Array Oper) (C : World → Prop) (o : Oper) (e : Env) (v : Value) : Prop :=
  ∀ a, Mt n e a → (Region.wanted o (yielded ops a.tmps) = true ∧ ∀ w', C w' → (execOp a.eval o).run P w' = .ok (.value v) w') ∨ (Region.wanted o (yielded ops a.tmps) = false ∧ v = undef)
/-- who need not wait for i: is apart from it, and is of X -/
def free (ops : Array Oper) (X : List Nat) (L : Array Bool) (i : Nat) (o : Oper) : Bool :=
  (List.range ops.size).all fun j => Nat.beq j i || L.getD j true || (match ops[j]? with
    | some oj => oj.after.any (fun e => Region.binds .any e && Nat.beq e.on i) || (o.apart ops oj && X.contains j)
    | none => true)
theorem ready_iff {L : Array Bool} {i : Nat} : i ∈ Region.ready .any ops L ↔ L.getD i true = false ∧ ∃ o, ops[i]? = some o ∧ ∀ e ∈ o.after, Region.binds .any e = true → L.getD e.on false = true := by
  unfold Region.ready
  simp only [List.mem_filter, List.mem_range, Bool.and_eq_true, Bool.not_eq_true']
  constructor
  · rintro ⟨h1, h2, h3⟩
    refine ⟨h2, ops[i], Array.getElem?_eq_getElem h1, fun e he hb => ?_⟩
    rw [Array.getElem?_eq_getElem h1] at h3
    simp only [Option.map_some, Option.getD_some, Array.all_eq_true_iff_forall_mem] at h3
    have := h3 e he
    simpa [hb] using this
  · rintro ⟨h2, o, h1, h3⟩
    obtain ⟨hlt, rfl⟩ := Array.getElem?_eq_some_iff.1 h1
    refine ⟨hlt, h2, ?_⟩
    rw [h1]
    simp only [Option.map_some, Option.getD_some, Array.all_eq_true_iff_forall_mem]
    intro e he
    by_cases hb : Region.binds .any e = true
    · simp [h3 e he hb]
    · simp [hb]
theorem getD_set_ne {L : Array Bool} {i j : Nat} {d : Bool} (h : j ≠ i) : (L.setIfInBounds i true).getD j d = L.getD j d := by
  simp [Array.getElem?_setIfInBounds_ne (Ne.symm h)]
theorem getD_set_le {L : Array Bool} {i j : Nat} (h : L.getD j false = true) : (L.setIfInBounds i true).getD j false = true := by
  by_cases hj : j = i
  · subst hj
    have : j < L.size := by
      rcases Nat.lt_or_ge j L.size with h1 | h1
      · exact h1
      · simp [Array.getElem?_eq_none h1] at h
    simp [this]
  · rw [getD_set_ne hj]; exact h
theorem ready_set {L : Array Bool} {i j : Nat} (hij : j ≠ i) (h : j ∈ Region.ready .any ops L) : j ∈ Region.ready .any ops (L.setIfInBounds i true) := by
  obtain ⟨h1, o, h2, h3⟩ := ready_iff.1 h
  exact ready_iff.2 ⟨by rw [getD_set_ne hij]; exact h1, o, h2, fun e he hb => getD_set_le (h3 e he hb)⟩
theorem set_comm (L : Array Bool) (i j : Nat) : (L.setIfInBounds i true).setIfInBounds j true = (L.setIfInBounds j true).setIfInBounds i true := by
  by_cases h : i = j
  · subst h; rfl
  · exact Array.setIfInBounds_comm _ _ h
theorem free_set {L : Array Bool} {i j : Nat} {o : Oper} (h : free ops X L i o = true) : free ops X (L.setIfInBounds j true) i o = true := by
  unfold free at *
  rw [List.all_eq_true] at *
  intro k hk
  have := h k hk
  by_cases hkj : k = j
  · subst hkj
    have : k < ops.size := by simpa using hk
    by_cases hkl : k < L.size
    · simp [hkl]
    · have hn : L[k]? = none := Array.getElem?_eq_none (by omega)
      simp [hkl]
  · rw [getD_set_ne hkj]; exact this
def envOf (a : Act) : Env := fun t => a.tmps.getD t undef
theorem mt_of {a : Act} (h1 : a.tmps.size = n) (h2 : a.defers = []) : Mt n (envOf a) a := ⟨h1, h2, fun _ => rfl⟩
theorem Mt.uniq {a : Act} {e e' : Env} (h : Mt n e a) (h' : Mt n e' a) : e = e' := by funext t; rw [← h.get, ← h'.get]
theorem put_size (a : Act) (d : Option Nat) (v : Value) : (a.put d v).tmps.size = a.tmps.size := by cases d <;> simp [Act.put]
theorem put_def (a : Act) (d : Option Nat) (v : Value) : (a.put d v).defers = a.defers := by cases d <;> rfl
theorem yielded_eval {a b : Act} (h : ∀ t, a.tmps.getD t undef = b.tmps.getD t undef) (hs : a.tmps.size = b.tmps.size) : a.tmps = b.tmps := by
  apply Array.ext hs
  intro i h1 h2
  have := h i
  simpa [Array.getD, h1, h2] using this
theorem upon_put {o : Oper} {a a' : Act} {N N2 : Act → World → Prop} {K1 K2 : Env → World → Prop} (h : ∀ u w, N (a'.put o.dst u) w → N2 (a.put o.dst u) w) (hd : ∀ d u w, ¬ N (({ a' with defers := d :: a'.defers } : Act).put o.dst u) w) {r : Result Next}
    (hh : o.upon P a' N (nrm n K1) r) : o.upon P a N2 (nrm n K2) r := by
  cases r with
  | ok m w' =>
    cases m <;> simp only [Oper.upon] at hh ⊢ <;>
      first
        | exact h _ _ hh
        | exact absurd hh (hd _ _ _)
        | exact Calls.mono hh (fun e w'' he => by
            cases e with
            | returned v => exact h _ _ he
            | panicked ch => exact absurd he.1 (by simp)
            | outgrown => obtain ⟨_, _, hx, _⟩ := he; exact absurd hx (by simp))
        | exact Rows.mono hh (fun _ _ he => h _ _ he)
  | halt x w' =>
    cases x <;> simp only [Oper.upon] at hh ⊢
    exact absurd hh.1 (by simp)
def noSel (ops : Array Oper) : Bool := ops.all fun o => match o.op with | .select .. => false | _ => true
theorem noSel_at (h : noSel ops = true) {i : Nat} {o : Oper} (hi : ops[i]? = some o) : ∀ cs b, o.op ≠ .select cs b := by
  intro cs b e
  unfold noSel at h
  rw [Array.all_eq_true_iff_forall_mem] at h
  have := h o (Array.mem_of_getElem? hi)
  simp [e] at this
/-- what only reads is taken first -/
theorem al_pull (hsel : noSel ops = true) (i : Nat) {o : Oper} {d : Nat} {v : Value} (hi : ops[i]? = some o) (hdst : o.dst = some d) (hdn : d < n) :
    ∀ (f : Nat) (L : Array Bool) (e : Env) (w : World), C w → free ops X L i o = true → i ∈ Region.ready .any ops L → SV P n ops C o e v → AL P n ops X C K f (L.setIfInBounds i true) (upd e d v) w → AL P n ops X C K (f + 1) L e w := by
  intro f
  induction f with
  | zero =>
    intro L e w hC hf hr hy H
    refine ⟨fun h => (by rw [h] at hr; cases hr), fun j hj => ?_⟩
    by_cases hji : j = i
    · subst hji
      refine ⟨o, hi, fun a ha => ?_⟩
      unfold wpList
      rcases hy a ha with ⟨hw, hv⟩ | ⟨hw, rfl⟩
      · rw [if_pos hw]
        refine .inl ?_
        unfold Oper.wp
        rw [hv w hC]
        simp only [Oper.upon, hdst]
        exact ⟨rfl, _, ha.put hdn v, fun _ => hC, H⟩
      · rw [if_neg (by simp [hw])]
        rw [hdst]
        exact ⟨rfl, _, ha.put hdn _, fun _ => hC, H⟩
    · have := ready_set (i := i) hji hj
      rw [H.1] at this; cases this
  | succ f ih =>
    intro L e w hC hf hr hy H
    refine ⟨fun h => (by rw [h] at hr; cases hr), fun j hj => ?_⟩
    by_cases hji : j = i
    · subst hji
      refine ⟨o, hi, fun a ha => ?_⟩
      unfold wpList
      rcases hy a ha with ⟨hw, hv⟩ | ⟨hw, rfl⟩
      · rw [if_pos hw]
        refine .inl ?_
        unfold Oper.wp
        rw [hv w hC]
        simp only [Oper.upon, hdst]
        exact ⟨rfl, _, ha.put hdn v, fun _ => hC, H⟩
      · rw [if_neg (by simp [hw])]
        rw [hdst]
        exact ⟨rfl, _, ha.put hdn _, fun _ => hC, H⟩
    · obtain ⟨oj, hoj, hE⟩ := H.2 j (ready_set hji hj)
      have hjL := (ready_iff.1 hj)
      have hiL := (ready_iff.1 hr)
      have hap : o.apart ops oj = true ∧ X.contains j = true := by
        have h1 := hf
        unfold free at h1
        rw [List.all_eq_true] at h1
        have h2 := h1 j (by simp [(Array.getElem?_eq_some_iff.1 hoj).1])
        have hb : Nat.beq j i = false := beq_ne hji
        simp only [hb, hjL.1, hoj, Bool.false_or, Bool.or_eq_true, Bool.and_eq_true] at h2
        rcases h2 with h2 | h2
        · exfalso
          obtain ⟨_, h3, h4⟩ := hjL.2
          rw [hoj] at h3; obtain rfl := Option.some.inj h3
          rw [Array.any_eq_true'] at h2
          obtain ⟨ed, hm, h5⟩ := h2
          simp only [Bool.and_eq_true] at h5
          have h6 := h4 ed hm h5.1
          have h7 : ed.on = i := Nat.eq_of_beq_eq_true h5.2
          rw [h7] at h6
          have := hiL.1
          cases hx : L[i]? with
          | none => simp [Array.getD_eq_getD_getElem?, hx] at this
          | some b => simp [Array.getD_eq_getD_getElem?, hx] at this h6; simp [this] at h6
        · exact h2
      obtain ⟨h1, h2, h3⟩ := Oper.apart_spec hap.1
      have hso := noSel_at hsel hi
      have hsj := noSel_at hsel hoj
      refine ⟨oj, hoj, fun a ha => ?_⟩
      have h4 := hE _ (ha.put hdn v)
      have key : ∀ u w', nrm n (fun e' w' => (X.contains j = true → C w') ∧ AL P n ops X C K f ((L.setIfInBounds i true).setIfInBounds j true) e' w') .normal ((a.put (some d) v).put oj.dst u) w' →
          nrm n (fun e' w' => (X.contains j = true → C w') ∧ AL P n ops X C K (f + 1) (L.setIfInBounds j true) e' w') .normal (a.put oj.dst u) w' := by
        rintro u w' ⟨_, e1, he1, hc1, hA1⟩
        have hm2 : Mt n (envOf (a.put oj.dst u)) (a.put oj.dst u) := mt_of (by rw [put_size, ha.size]) (by rw [put_def, ha.defers])
        have hcm : (a.put (some d) v).put oj.dst u = (a.put oj.dst u).put (some d) v := Act.put_comm a v u (fun x hx => by
          have := h2 d hdst
          simp only [Option.some.injEq] at hx; subst hx; exact this)
        rw [hcm] at he1
        obtain rfl := he1.uniq (hm2.put hdn v)
        refine ⟨rfl, _, hm2, hc1, ih _ _ _ (hc1 hap.2) (free_set hf) (ready_set (Ne.symm hji) hr) ?_ (by rw [← set_comm]; exact hA1)⟩
        intro b hb
        have hbt : b.tmps = (a.put oj.dst u).tmps := yielded_eval (fun t => by rw [hb.get t]; rfl) (by rw [hb.size, hm2.size])
        have hbe : b.eval = (a.put oj.dst u).eval := by rw [hb.eval, hm2.eval]
        rw [hbt, hbe, execOp_put o hso a oj.dst u h3, wanted_put o a oj.dst u h3]
        exact hy a ha
      unfold wpList at h4 ⊢
      have hwe := wanted_put (ops := ops) oj a (some d) v (fun x hx => by simp only [Option.some.injEq] at hx; subst hx; exact h1 d hdst)
      have hxe := execOp_put oj hsj a (some d) v (fun x hx => by simp only [Option.some.injEq] at hx; subst hx; exact h1 d hdst)
      rw [hwe] at h4
      split
      · rename_i hw
        rw [if_pos hw] at h4
        rcases h4 with h5 | ⟨_, h5⟩
        · refine .inl ?_
          unfold Oper.wp at h5 ⊢
          rw [hxe] at h5
          refine upon_put key ?_ h5
          rintro dd u w' ⟨_, e1, he1, _⟩
          have := he1.defers
          cases hdj : oj.dst <;> simp [Act.put, hdj] at this
        · exact absurd h5 no_out
      · rename_i hw
        rw [if_neg hw] at h4
        exact key _ _ h4
theorem al_nil {f : Nat} {L : Array Bool} {e : Env} {w : World} (h : Region.ready .any ops L = []) (hK : K e w) : AL P n ops X C K f L e w := by
  cases f with
  | zero => exact ⟨h, hK⟩
  | succ f => exact ⟨fun _ => hK, fun i hi => by rw [h] at hi; cases hi⟩
theorem al_one (i : Nat) {f : Nat} {L : Array Bool} {e : Env} {w : World} {o : Oper} (hr : Region.ready .any ops L = [i]) (ho : ops[i]? = some o)
    (h : EL P n ops (fun e' w' => (X.contains i = true → C w') ∧ AL P n ops X C K f (L.setIfInBounds i true) e' w') [o] e w) : AL P n ops X C K (f + 1) L e w :=
  ⟨fun h0 => (by rw [hr] at h0; cases h0), fun j hj => by
    rw [hr] at hj
    have e : j = i := by simpa using hj
    rw [e]
    exact ⟨o, ho, h⟩⟩
theorem sv_on {o : Oper} {e : Env} {v : Value} (hg : o.guard = none) (h : ∀ w', C w' → PV P o e w' v) : SV P n ops C o e v := fun a ha => .inl ⟨by simp [Region.wanted, hg], fun w' hw' => by rw [ha.eval]; exact h w' hw' w' (Ext.refl _)⟩
theorem sv_g {dst : Option Nat} {op : Op} {ty : TypeId} {pos : String} {af : Array Edge} {j : Nat} {b c : Bool} {e : Env} {v : Value} (hy : yld ops e j = some c) (hc : c = b) (h : ∀ w', C w' → PV P ⟨dst, op, ty, pos, af, none⟩ e w' v) : SV P n ops C ⟨dst, op, ty, pos, af, some (j, b)⟩ e v := fun a ha => .inl ⟨by simp [Region.wanted, yielded_of ha hy, hc], fun w' hw' => by
  rw [ha.eval]
  exact h w' hw' w' (Ext.refl _)⟩
theorem sv_off {dst : Option Nat} {op : Op} {ty : TypeId} {pos : String} {af : Array Edge} {j : Nat} {b b' c : Bool} {e : Env} (hy : yld ops e j = some c) (hc : c = b) (hb : (b == b') = false) : SV P n ops C ⟨dst, op, ty, pos, af, some (j, b')⟩ e undef := fun a ha => .inr ⟨by simp [Region.wanted, yielded_of ha hy, hc]; simpa using hb, rfl⟩
theorem sv_offu {dst : Option Nat} {op : Op} {ty : TypeId} {pos : String} {af : Array Edge} {j : Nat} {b' : Bool} {e : Env} (h : (match (ops[j]?).bind (·.dst) with | some t => e t | none => undef) = undef) : SV P n ops C ⟨dst, op, ty, pos, af, some (j, b')⟩ e undef := fun a ha => .inr ⟨by simp [Region.wanted, yielded_none ha h], rfl⟩
/-- al_pull with its checks as computations -/
theorem al_p (hsel : noSel ops = true) (i : Nat) {o : Oper} {d : Nat} {v : Value} {f : Nat} {L : Array Bool} {e : Env} {w : World} (hi : ops[i]? = some o) (hdst : o.dst = some d) (hdn : d < n) (hC : C w) (hf : free ops X L i o = true) (hr : (Region.ready .any ops L).contains i = true)
    (hy : SV P n ops C o e v) (hK : AL P n ops X C K f (L.setIfInBounds i true) (upd e d v) w) : AL P n ops X C K (f + 1) L e w :=
  al_pull hsel i hi hdst hdn f L e w hC hf (by simpa using hr) hy hK
section
variable {wA : World} {v : Value} {d : Nat} {ty : TypeId} {pos : String} {af : Array Edge} {x y : Operand} {α : Type} {R : Rep α} {E E' : TypeId} {f : Nat} {L : Array Bool} {e : Env} {w : World}
theorem al_index (hsel : noSel ops = true) (i : Nat) {t : TypeId} [SliceT P t E'] {zz : List Value} {m bytes : Nat} [ElemT P E' zz m bytes] {xs : List α} (hi' : ops[i]? = some ⟨some d, .indexAddr t x y, ty, pos, af, none⟩) (hC : C w) (hf : free ops X L i ⟨some d, .indexAddr t x y, ty, pos, af, none⟩ = true) (hrd : (Region.ready .any ops L).contains i = true)
    (hs : ev e x = v) (hr : (sliceR R E).rd wA [v] xs) (hn : R.sz = m) (hpos : 0 < m) {k : IntKind} {j : Int} (hi : ev e y = .int k j) {u : α} (h : ix xs j = some u) (hd : d < n)
    (hK : ∀ b off ec, R.rd wA ec u → (∀ j c, ec[j]? = some c → wA.cell? ⟨b, off + j, none⟩ = some c) → AL P n ops X C K f (L.setIfInBounds i true) (upd e d (.pointer (some ⟨b, off, none⟩))) w) : AL P n ops X C K (f + 1) L e w := by
  obtain ⟨b, off, ec, h1, h2, h3⟩ := pv_index (P := P) (d := some d) (ty := ty) (pos := pos) (af := af) (t := t) hs hr hn hpos hi h
  exact al_p hsel i hi' rfl hd hC hf hrd (sv_on rfl fun w' _ => h3 w') (hK b off ec h1 h2)
theorem al_slice (hsel : noSel ops = true) (i : Nat) {t : TypeId} {lo hi : Option Operand} [SliceT P t E'] {z : List Value} {m bytes : Nat} [ElemT P E' z m bytes] (hi' : ops[i]? = some ⟨some d, .slice t x lo hi none, ty, pos, af, none⟩) (hC : C w) (hf : free ops X L i ⟨some d, .slice t x lo hi none, ty, pos, af, none⟩ = true) (hrd : (Region.ready .any ops L).contains i = true) (hn : R.sz = m)
    (hx : ev e x = v) {xs ys : List α} (hr : (sliceR R E).rd wA [v] xs) {l h : Int} (hlo : (lo.map (ev e) = some (.int .i64 l)) ∨ (lo = none ∧ l = 0)) (hhi : (hi.map (ev e) = some (.int .i64 h)) ∨ (hi = none ∧ h = xs.length)) (hq : slc xs l h = some ys) (hd : d < n)
    (hK : ∀ v', (sliceR R E).rd wA [v'] ys → AL P n ops X C K f (L.setIfInBounds i true) (upd e d v') w) : AL P n ops X C K (f + 1) L e w := by
  obtain ⟨v', h1, h2⟩ := pv_slice (P := P) (d := some d) (ty := ty) (pos := pos) (af := af) (t := t) hn hx hr hlo hhi hq
  exact al_p hsel i hi' rfl hd hC hf hrd (sv_on rfl fun w' _ => h2 w') (hK v' h1)
end
end
/-! numbers in a slice of the call's own -/
/-- cells that are told by the content alone -/
class FlatR {α : Type} (R : Rep α) (f : outParam (α → Value)) : Prop where
  h : ∀ {w : World} {cs : List Value} {x : α}, R.rd w cs x → cs = [f x]
instance : FlatR intR (Value.int .i64) := ⟨fun h => h⟩
instance : FlatR u8R (Value.int .u8) := ⟨fun h => h⟩
instance : FlatR boolR Value.bool := ⟨fun h => h⟩
section
variable {P : Program} {n : Nat} {ops : Array Oper} {K : Env → World → Prop} {KQ : Env → Prop} {rest : List Oper} {e : Env} {w w0 : World} {v : Value} {d : Nat} {ty : TypeId} {pos : String} {af : Array Edge} {Γ : List Asn} {x y : Operand} {α : Type} {R : Rep α} {E : TypeId} {f : α → Value}
theorem Sat.ownCell (i : Nat) [hf : FlatR R f] {xs : List α} (hS : Sat w0 w Γ) (hi : Γ[i]? = some (Own (sliceR R E) [v] xs)) {g cap ln : Nat} (hv : v = .slice (some ⟨g, 0, none⟩) ln cap) {j : Int} {u : α} (h : ix xs j = some u) : w.cell? ⟨g, j.toNat * 1, none⟩ = some (f u) := by
  obtain ⟨k, rfl, hk, rfl⟩ := ix_some h
  obtain ⟨fp, ho, _⟩ := (hS.top i hi).head
  rcases ho with ⟨_, h2, _⟩ | ⟨g', cap', cur, ccs, f2, hv', hg, h1, h2, h3, h4, h5, rfl⟩
  · subst h2; simp at hk
  subst hv
  simp at hv'
  obtain ⟨rfl, rfl, rfl⟩ := hv'
  obtain ⟨ec, hec, hcc⟩ := rdL_at (ownL_rdL h5) k hk
  obtain rfl := hf.h hec
  have hsz : R.sz = 1 := by have := R.rd_len hec; simpa using this.symm
  have h0 := hcc 0 _ rfl
  rw [cell_of_row w g _ cur E (0, 0) hg, ← Array.getElem?_toList]
  rw [← h4, List.getElem?_take] at h0
  simp only [Int.toNat_natCast]
  rw [hsz] at h0
  split at h0
  · simpa using h0
  · cases h0
theorem ownShape (i : Nat) {xs : List α} (hS : Sat w0 w Γ) (hi : Γ[i]? = some (Own (sliceR R E) [v] xs)) {j : Int} {u : α} (h : ix xs j = some u) : ∃ g cap, v = .slice (some ⟨g, 0, none⟩) xs.length cap := by
  obtain ⟨k, rfl, hk, rfl⟩ := ix_some h
  rcases (hS.top i hi).shape with ⟨_, h2⟩ | ⟨g, cap, h⟩
  · subst h2; simp at hk
  · exact ⟨g, cap, h⟩
theorem pv_indexF {d : Option Nat} {t : TypeId} [ht : SliceT P t E] {zz : List Value} {bytes : Nat} [hz : ElemT P E zz 1 bytes] {xs : List α} (hs : ev e x = v) {g cap : Nat} (hv : v = .slice (some ⟨g, 0, none⟩) xs.length cap) {k : IntKind} {j : Int} (hi : ev e y = .int k j) {u : α} (h : ix xs j = some u) :
    PV P ⟨d, .indexAddr t x y, ty, pos, af, none⟩ e w (.pointer (some ⟨g, j.toNat * 1, none⟩)) := fun w' _ => by
  obtain ⟨k', rfl, hk, rfl⟩ := ix_some h
  subst hv
  have hz := hz.h
  cases hq : P.info? E with
  | none => simp [hq] at hz
  | some inf =>
    simp [hq] at hz
    have hsz : inf.size = 1 := hz.2.1
    unfold execOp
    simp [hs, hi, Instr.indexAt, asIntOf, run_underlying ht.h, sizeOf, typeInfo, hq, hk, Addr.add_lit, hsz]
end
end Go.Proofs.Ytkpeabpdiffjhaa
