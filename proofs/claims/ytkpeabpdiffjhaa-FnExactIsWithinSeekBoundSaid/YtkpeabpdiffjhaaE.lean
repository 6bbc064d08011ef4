/- The walk with frames as functions: rules of control, of operations that only compute or read, of regions that draw their order, of loops and calls. Program-independent. -/
import Derived.Test.YtkpeabpdiffjhaaSp
import Derived.Deep.Quiet
import Derived.Deep.LoopGhost
namespace Go.Proofs.Ytkpeabpdiffjhaa
open Go.RowKit

abbrev Env := Nat → Value
def upd (e : Env) (d : Nat) (v : Value) : Env := fun t => bif Nat.beq t d then v else e t
def ev (e : Env) : Operand → Value
  | .tmp t => e t
  | .const v => v
  | .global g => .pointer (some ⟨g, 0, none⟩)
  | .func f => .func (.func f) #[] #[]
theorem beq_ne {a b : Nat} (h : ¬ a = b) : Nat.beq a b = false := by
  cases hb : Nat.beq a b
  · rfl
  · exact absurd (Nat.eq_of_beq_eq_true hb) h
/-- a frame of n slots, as a function -/
structure Mt (n : Nat) (e : Env) (a : Act) : Prop where
  size : a.tmps.size = n
  defers : a.defers = []
  get : ∀ t, a.tmps.getD t undef = e t
theorem Mt.eval {n : Nat} {e : Env} {a : Act} (h : Mt n e a) : a.eval = ev e := by
  funext x
  cases x <;> simp only [Act.eval, ev]
  exact h.get _
theorem Mt.put {n : Nat} {e : Env} {a : Act} (h : Mt n e a) {d : Nat} (hd : d < n) (v : Value) : Mt n (upd e d v) (a.put (some d) v) := by
  refine ⟨by simp [Act.put, h.size], by simpa [Act.put] using h.defers, fun t => ?_⟩
  have hg := h.get t
  have hs := h.size
  simp only [Act.put, upd]
  by_cases ht : t = d
  · subst ht
    simp [Array.getD, hs, hd]
  · have : Nat.beq t d = false := beq_ne ht
    rw [this]
    simp only [cond_false, ← hg, Array.getD, Array.size_setIfInBounds]
    split
    · rename_i hlt
      have := Array.getElem_setIfInBounds (xs := a.tmps) (i := d) (a := v) (j := t) (by simpa using hlt)
      rw [if_neg (fun e => ht e.symm)] at this
      exact this
    · rfl
theorem upd_self {e : Env} {d : Nat} {v : Value} (h : e d = v) : upd e d v = e := by
  funext t
  unfold upd
  by_cases ht : t = d
  · subst ht; simp [h]
  · have : Nat.beq t d = false := beq_ne ht
    rw [this]; rfl
theorem keep {e e' : Env} {d : Nat} {v : Value} (h : e' d = v) (h2 : e = e') : e = upd e' d v := by rw [upd_self h, h2]
def putE (e : Env) : Option Nat → Value → Env
  | some d, v => upd e d v
  | none, _ => e
def initE : List Value → Env
  | l => fun t => l.getD t undef

/-! ### operations that only compute or read -/
/-- in every later world the operation yields v and leaves the world alone -/
def PV (P : Program) (o : Oper) (e : Env) (w : World) (v : Value) : Prop := ∀ w', Ext w w' → (execOp (ev e) o).run P w' = .ok (.value v) w'
theorem PV.ext {P : Program} {o : Oper} {e : Env} {w w1 : World} {v : Value} (h : PV P o e w v) (hx : Ext w w1) : PV P o e w1 v := fun w' h' => h w' (hx.trans h')

def nrm (n : Nat) (K : Env → World → Prop) : Exit → Act → World → Prop := fun x a w => x = .normal ∧ ∃ e, Mt n e a ∧ K e w
/-- the operations of a region, in the text's order -/
def EL (P : Program) (n : Nat) (ops : Array Oper) (K : Env → World → Prop) (rest : List Oper) (e : Env) (w : World) : Prop := ∀ a, Mt n e a → wpList P ops (nrm n K) rest a w
/-- the operations of a region that draws its order -/
def QL (P : Program) (n : Nat) (ops : Array Oper) (w : World) (K : Env → Prop) (rest : List Oper) (e : Env) : Prop := ∀ a, Mt n e a → wpQuiet P ops (fun w' => Ext w w') (fun a' => ∃ e', Mt n e' a' ∧ K e') rest a

/-- f is a function with a body -/
structure Goes (P : Program) (f : FuncId) : Prop where
  h : ∃ fn, P.funcs[f]? = some fn ∧ (fn.name == "runtime.NumGoroutine") = false ∧ fn.body.isNone = false
theorem Goes.run {P : Program} {f : FuncId} (h : Goes P f) (args : Array Value) (w : World) : (callFunc f args).run P w = .ok (.enter f args) w := by
  obtain ⟨fn, h1, h2, h3⟩ := h.h
  simp only [callFunc, Sem.run_bind, run_program, Result.andThen_ok, h1, h2, h3, Bool.false_eq_true, if_false]
  rfl

section
variable {P : Program} {n : Nat} {ops : Array Oper} {K : Env → World → Prop} {KQ : Env → Prop} {rest : List Oper} {e : Env} {w w0 : World} {v : Value} {d : Nat} {op : Op} {ty : TypeId} {pos : String} {af : Array Edge} {Γ rΓ : List Asn}

theorem el_nil (h : K e w) : EL P n ops K [] e w := fun _ ha => ⟨rfl, e, ha, h⟩
theorem ql_nil (h : KQ e) : QL P n ops w KQ [] e := fun _ ha => ⟨e, ha, h⟩
theorem el_pv (hp : PV P ⟨some d, op, ty, pos, af, none⟩ e w v) (hd : d < n) (hK : EL P n ops K rest (upd e d v) w) : EL P n ops K (⟨some d, op, ty, pos, af, none⟩ :: rest) e w := by
  intro a ha
  refine wpList_plain rfl fun K' hK' => ?_
  unfold Oper.wp
  rw [ha.eval, hp w (Ext.refl w)]
  exact hK' _ _ (hK _ (ha.put hd v))
theorem ql_pv (hp : PV P ⟨some d, op, ty, pos, af, none⟩ e w v) (hd : d < n) (hK : QL P n ops w KQ rest (upd e d v)) : QL P n ops w KQ (⟨some d, op, ty, pos, af, none⟩ :: rest) e := by
  intro a ha
  unfold wpQuiet
  rw [if_pos (by rfl)]
  refine ⟨v, fun w' hw' => ?_, hK _ (ha.put hd v)⟩
  unfold Oper.quietAt
  rw [ha.eval, hp w' hw']
  exact ⟨rfl, rfl⟩
theorem el_call {f : FuncId} {args : Array Operand} {tys : Array TypeId} {vals : Array Value} {R : Ending → World → Prop} (hg : Goes P f) (hc : Calls P f vals w R) (hv : (args.toList.map (ev e)).toArray = vals) (hd : d < n)
    (hK : ∀ x w', R x w' → ∃ v, x = .returned v ∧ EL P n ops K rest (upd e d v) w') : EL P n ops K (⟨some d, .call ⟨.value (.func f), args, tys⟩, ty, pos, af, none⟩ :: rest) e w := by
  intro a ha
  refine wpList_plain rfl fun K' hK' => ?_
  unfold Oper.wp execOp
  have he : args.map (ev e) = vals := by rw [← hv]; apply Array.ext'; simp
  simp only [ha.eval, resolve, ev, Deferred.ofValue, Sem.run_bind, Sem.run_pure, Result.andThen_ok, Array.empty_append, Array.append_empty, he, invoke, hg.run, Oper.upon_enter]
  refine hc.mono fun x w' hx => ?_
  obtain ⟨v, rfl, h⟩ := hK x w' hx
  exact hK' _ _ (h _ (ha.put hd v))
theorem ql_call {f : FuncId} {args : Array Operand} {tys : Array TypeId} {vals : Array Value} (v : Value) (hg : Goes P f)
    (hc : ∀ w', Ext w w' → Calls P f vals w' fun x w'' => x = .returned v ∧ Ext w' w'') (hv : (args.toList.map (ev e)).toArray = vals) (hd : d < n)
    (hK : QL P n ops w KQ rest (upd e d v)) : QL P n ops w KQ (⟨some d, .call ⟨.value (.func f), args, tys⟩, ty, pos, af, none⟩ :: rest) e := by
  intro a ha
  unfold wpQuiet
  rw [if_pos (by rfl)]
  refine ⟨v, fun w' hw' => ?_, hK _ (ha.put hd v)⟩
  unfold Oper.quietAt execOp
  have he : args.map (ev e) = vals := by rw [← hv]; apply Array.ext'; simp
  simp only [ha.eval, resolve, ev, Deferred.ofValue, Sem.run_bind, Sem.run_pure, Result.andThen_ok, Array.empty_append, Array.append_empty, he, invoke, hg.run]
  exact ⟨rfl, (hc w' hw').mono fun x w'' ⟨h1, h2⟩ => ⟨h1, hw'.trans h2⟩⟩
/-! guards -/
def yld (ops : Array Oper) (e : Env) (j : Nat) : Option Bool :=
  match (ops[j]?).bind (·.dst) with
  | some t => match e t with | .bool b => some b | _ => none
  | none => none
theorem yielded_of {a : Act} (ha : Mt n e a) {j : Nat} {b : Bool} (h : yld ops e j = some b) : yielded ops a.tmps j = some b := by
  unfold yld at h
  unfold yielded
  cases hj : (ops[j]?).bind (·.dst) with
  | none => simp [hj] at h
  | some t =>
    simp only [hj] at h
    have hg := ha.get t
    simp only [Option.bind_some]
    cases hv : e t with
    | bool c =>
      rw [hv] at h hg
      simp only [Option.some.injEq] at h
      subst h
      unfold Array.getD at hg
      split at hg
      · rename_i hlt
        rw [Array.getElem?_eq_getElem hlt]
        have : a.tmps[t] = .bool c := hg
        rw [this]
      · simp [undef] at hg
    | _ => simp [hv] at h
theorem yielded_none {a : Act} (ha : Mt n e a) {j : Nat} (h : (match (ops[j]?).bind (·.dst) with | some t => e t | none => undef) = undef) : yielded ops a.tmps j = none := by
  unfold yielded
  cases hj : (ops[j]?).bind (·.dst) with
  | none => rfl
  | some t =>
    simp only [hj] at h
    have hg := ha.get t
    rw [h] at hg
    simp only [Option.bind_some]
    cases hv : a.tmps[t]? with
    | none => rfl
    | some v =>
      have : a.tmps.getD t undef = v := by
        obtain ⟨h1, h2⟩ := Array.getElem?_eq_some_iff.1 hv
        simp [Array.getD, h1, h2]
      rw [this] at hg
      subst hg
      rfl
theorem el_on {j : Nat} {b c : Bool} {dst : Option Nat} (h : yld ops e j = some c) (hc : c = b) (hK : EL P n ops K (⟨dst, op, ty, pos, af, none⟩ :: rest) e w) : EL P n ops K (⟨dst, op, ty, pos, af, some (j, b)⟩ :: rest) e w := by
  subst hc
  intro a ha
  have := hK a ha
  unfold wpList at this ⊢
  rw [if_pos (by simp [Region.wanted])] at this
  rw [if_pos (by simp [Region.wanted, yielded_of ha h])]
  exact this
theorem el_off {j : Nat} {b b' c : Bool} {d : Nat} (h : yld ops e j = some c) (hc : c = b) (hb : (b == b') = false) (hd : d < n) (hK : EL P n ops K rest (upd e d undef) w) : EL P n ops K (⟨some d, op, ty, pos, af, some (j, b')⟩ :: rest) e w := by
  subst hc
  intro a ha
  unfold wpList
  rw [if_neg (by simp [Region.wanted, yielded_of ha h]; simpa using hb)]
  exact hK _ (ha.put hd _)
theorem ql_on {j : Nat} {b c : Bool} {dst : Option Nat} (h : yld ops e j = some c) (hc : c = b) (hK : QL P n ops w KQ (⟨dst, op, ty, pos, af, none⟩ :: rest) e) : QL P n ops w KQ (⟨dst, op, ty, pos, af, some (j, b)⟩ :: rest) e := by
  subst hc
  intro a ha
  have := hK a ha
  unfold wpQuiet at this ⊢
  rw [if_pos (by simp [Region.wanted])] at this
  rw [if_pos (by simp [Region.wanted, yielded_of ha h])]
  exact this
theorem ql_off {j : Nat} {b b' c : Bool} {d : Nat} (h : yld ops e j = some c) (hc : c = b) (hb : (b == b') = false) (hd : d < n) (hK : QL P n ops w KQ rest (upd e d undef)) : QL P n ops w KQ (⟨some d, op, ty, pos, af, some (j, b')⟩ :: rest) e := by
  subst hc
  intro a ha
  unfold wpQuiet
  rw [if_neg (by simp [Region.wanted, yielded_of ha h]; simpa using hb)]
  exact hK _ (ha.put hd _)
end

/-! ### control -/
def Lf (n : Nat) (Q : Exit → Env → World → Prop) : Exit → Act → World → Prop := fun x a w => ∃ e, Mt n e a ∧ Q x e w
def CW (P : Program) (n : Nat) (c : Code) (Q : Exit → Env → World → Prop) (e : Env) (w : World) : Prop := ∀ a, Mt n e a → c.wp P (Lf n Q) a w
def thn (K : Env → World → Prop) (Q : Exit → Env → World → Prop) : Exit → Env → World → Prop
  | .normal, e, w => K e w
  | x, e, w => Q x e w
def inb (id : Nat) (Q : Exit → Env → World → Prop) : Exit → Env → World → Prop
  | .exit id', e, w => bif Nat.beq id' id then Q .normal e w else Q (.exit id') e w
  | x, e, w => Q x e w
section
variable {P : Program} {n : Nat} {Q : Exit → Env → World → Prop} {K : Env → World → Prop} {e : Env} {w : World} {c x y : Code}
/-- what follows, under a name -/
theorem cw_gen (h : ∀ Q', (∀ x e w, Q x e w → Q' x e w) → CW P n c Q' e w) : CW P n c Q e w := h Q fun _ _ _ h => h
theorem thn_n (h : K e w) : thn K Q .normal e w := h
theorem thn_x {i : Nat} (h : Q (.exit i) e w) : thn K Q (.exit i) e w := h
theorem thn_r (h : Q .ret e w) : thn K Q .ret e w := h
theorem inb_n {i : Nat} (h : Q .normal e w) : inb i Q .normal e w := h
theorem inb_r {i : Nat} (h : Q .ret e w) : inb i Q .ret e w := h
theorem inb_s {i : Nat} (h : Q .normal e w) : inb i Q (.exit i) e w := by
  have : Nat.beq i i = true := by simp
  show (bif Nat.beq i i then _ else _)
  rw [this]; exact h
theorem inb_d {i j : Nat} (hij : Nat.beq j i = false) (h : Q (.exit j) e w) : inb i Q (.exit j) e w := by
  show (bif Nat.beq j i then _ else _)
  rw [hij]; exact h
theorem cw_seq (h : CW P n x (thn (fun e w => CW P n y Q e w) Q) e w) : CW P n (.seq x y) Q e w := by
  intro a ha
  refine wp_seq (wp_mono (h a ha) ?_)
  rintro x' a' w' ⟨e', he', hq⟩
  cases x' with
  | normal => exact hq a' he'
  | _ => exact ⟨e', he', hq⟩
theorem cw_skip (h : Q .normal e w) : CW P n .skip Q e w := fun _ ha => wp_skip ⟨e, ha, h⟩
theorem cw_exit {i : Nat} (h : Q (.exit i) e w) : CW P n (.exit i) Q e w := fun _ ha => wp_exit ⟨e, ha, h⟩
theorem cw_ret (h : Q .ret e w) : CW P n .ret Q e w := fun _ ha => wp_ret ⟨e, ha, h⟩
theorem cw_cond_t {o : Operand} {b : Bool} (hc : ev e o = .bool b) (hb : b = true) (h : CW P n x Q e w) : CW P n (.cond o x y) Q e w :=
  fun a ha => wp_cond_true (by rw [ha.eval, hc, hb]) (h a ha)
theorem cw_cond_f {o : Operand} {b : Bool} (hc : ev e o = .bool b) (hb : b = false) (h : CW P n y Q e w) : CW P n (.cond o x y) Q e w :=
  fun a ha => wp_cond_false (by rw [ha.eval, hc, hb]) (h a ha)
theorem cw_block {i : Nat} (h : CW P n c (inb i Q) e w) : CW P n (.block i c) Q e w := by
  intro a ha
  refine wp_block (wp_mono (h a ha) ?_)
  rintro x' a' w' ⟨e', he', hq⟩
  cases x' with
  | exit id' =>
    by_cases hi : id' = i
    · subst hi
      have : Nat.beq id' id' = true := by simp
      have hq' : (bif Nat.beq id' id' then Q .normal e' w' else Q (.exit id') e' w') := hq
      rw [this] at hq'
      simp only [Exit.inBlock, if_true]
      exact ⟨e', he', hq'⟩
    · have : Nat.beq id' i = false := beq_ne hi
      have hq' : (bif Nat.beq id' i then Q .normal e' w' else Q (.exit id') e' w') := hq
      rw [this] at hq'
      simp only [Exit.inBlock, hi, if_false]
      exact ⟨e', he', hq'⟩
  | _ => exact ⟨e', he', hq⟩
theorem cw_reg {id : Nat} {l : List Oper} (h : EL P n l.toArray (fun e w => Q .normal e w) l e w) : CW P n (.region id l.toArray false) Q e w := by
  intro a ha
  refine wp_mono (wp_region_lit (h a ha)) ?_
  rintro x a w ⟨rfl, e, he, hk⟩
  exact ⟨e, he, hk⟩
theorem cw_regq {id : Nat} {l : List Oper} (hm : P.follows .mixedOrders = true) (hB : Region.lexB .any l.toArray = true) (h : QL P n l.toArray w (fun e => ∀ w', Ext w w' → Q .normal e w') l e) : CW P n (.region id l.toArray true) Q e w := by
  intro a ha
  refine wp_region_quiet (C := fun w' => Ext w w') hm hB ⟨rfl, rfl, rfl, Nat.le_refl _, fun _ _ => rfl⟩ ?_
  have := h a ha
  have key : ∀ (r : List Oper) (a : Act), wpQuiet P l.toArray (fun w' => Ext w w') (fun a' => ∃ e', Mt n e' a' ∧ ∀ w', Ext w w' → Q .normal e' w') r a → wpQuiet P l.toArray (fun w' => Ext w w') (fun a' => ∀ w', Ext w w' → Lf n Q .normal a' w') r a := by
    intro r
    induction r with
    | nil => rintro a ⟨e', h1, h2⟩ w' hw'; exact ⟨e', h1, h2 w' hw'⟩
    | cons o r ih =>
      intro a h
      unfold wpQuiet at h ⊢
      split
      · rename_i hw
        rw [if_pos hw] at h
        exact Oper.quiet_mono ih h
      · rename_i hw
        rw [if_neg hw] at h
        exact ih _ h
  exact key _ _ this
theorem cw_loop (I : Nat → Env → World → Prop) (k0 : Nat) (h0 : I k0 e w)
    (hr : ∀ k e w, I k e w → CW P n c (thn (fun e w => ∃ k', k' < k ∧ I k' e w) Q) e w) : CW P n (.loop c) Q e w := by
  intro a ha
  refine wp_loop_ghost (fun k a w => ∃ e, Mt n e a ∧ I k e w) k0 ⟨e, ha, h0⟩ ?_
  rintro k a w ⟨e, he, hI⟩
  refine wp_mono (hr k e w hI a he) ?_
  rintro x' a' w' ⟨e', he', hq⟩
  cases x' with
  | normal =>
    obtain ⟨k', hk', hI'⟩ := hq
    exact ⟨k', hk', e', he', hI'⟩
  | _ => exact ⟨e', he', hq⟩
/-- the round's fuel is one less -/
theorem cw_loopS (I : Nat → Env → World → Prop) (k0 : Nat) (h0 : I k0 e w) (hz : ∀ e w, ¬ I 0 e w)
    (hr : ∀ k e w, I (k + 1) e w → CW P n c (thn (fun e w => I k e w) Q) e w) : CW P n (.loop c) Q e w := by
  refine cw_loop I k0 h0 ?_
  intro k e w hI
  cases k with
  | zero => exact absurd hI (hz e w)
  | succ k =>
    intro a ha
    refine wp_mono (hr k e w hI a ha) ?_
    rintro x' a' w' ⟨e', he', hq⟩
    cases x' with
    | normal => exact ⟨e', he', k, Nat.lt_succ_self k, hq⟩
    | _ => exact ⟨e', he', hq⟩
end

/-! ### a function's call -/
def Fin (P : Program) (fn : Func) (n : Nat) (R : Ending → World → Prop) : Exit → Env → World → Prop
  | .normal, e, w => ∃ v, (∀ a, Mt n e a → (results fn a.tmps).run P w = .ok v w) ∧ R (.returned v) w
  | .ret, e, w => ∃ v, (∀ a, Mt n e a → (results fn a.tmps).run P w = .ok v w) ∧ R (.returned v) w
  | _, _, _ => False
def argsE : List Value → Nat → Env
  | [], _ => fun _ => undef
  | v :: l, k => upd (argsE l (k + 1)) k v
theorem argsE_get : ∀ (l : List Value) (k t : Nat), argsE l k t = if k ≤ t then l.getD (t - k) undef else undef
  | [], k, t => by simp [argsE]
  | v :: l, k, t => by
    unfold argsE upd
    by_cases h : t = k
    · subst h; simp
    · have hb : Nat.beq t k = false := beq_ne h
      rw [hb, cond_false, argsE_get l (k + 1) t]
      by_cases hk : k + 1 ≤ t
      · rw [if_pos hk, if_pos (by omega), show t - k = (t - (k + 1)) + 1 by omega]
        simp
      · rw [if_neg hk]
        by_cases hk2 : k ≤ t
        · omega
        · rw [if_neg hk2]
theorem calls_E {P : Program} {f : FuncId} {fn : Func} {c : Code} {l : List Value} {w : World} {R : Ending → World → Prop} (hf : P.funcs[f]? = some fn) (hb : fn.body = some c) {n : Nat} (hn : fn.ntmps = n) (hl : l.length ≤ n)
    (h : CW P n c (Fin P fn n R) (argsE l 0) w) : Calls P f l.toArray w R := by
  refine calls_of_wp hf hb (wp_mono (h _ ?_) ?_)
  · refine ⟨by simp; omega, rfl, fun t => ?_⟩
    rw [argsE_get]
    simp only [Nat.zero_le, if_true, Nat.sub_zero, Array.getD, Array.size_append, List.size_toArray, Array.size_replicate]
    by_cases h1 : t < l.length
    · rw [dif_pos (by omega)]
      simp [h1]
    · have h2 : l.getD t undef = undef := by simp [h1]
      rw [h2]
      split
      · rename_i h3
        have := Array.getElem_append_right (xs := l.toArray) (ys := Array.replicate (fn.ntmps - l.length) undef) (i := t) (by simpa using h1) (h := by simpa using h3)
        simpa using this
      · rfl
  · rintro x a w' ⟨e, he, hq⟩
    cases x with
    | normal => obtain ⟨v, h1, h2⟩ := hq; exact bodyPost_end (h1 a he) he.defers h2
    | ret => obtain ⟨v, h1, h2⟩ := hq; exact bodyPost_ret (h1 a he) he.defers h2
    | _ => exact hq.elim
end Go.Proofs.Ytkpeabpdiffjhaa
