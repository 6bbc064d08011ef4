/- From the form's reading of an argument to my own. -/
import Derived.Test.YtkpeabpdiffjhaaGoes
import Derived.OpenShut
import Derived.Lib.SmallJoins
namespace Go.Proofs.Ytkpeabpdiffjhaa
open Go.RowKit Go.ChangeShapes Go.WideShapes Go.ChangeAt

/-- What the form reads at type T, R reads. -/
def Opens {α : Type} (P : Program) (R : Rep α) (T : TypeId) : Prop :=
  ∀ {H : Type} (enc : TypeId × Value → H) (w : World) (base : Nat) (spare : Nat → Bool) (held : Bool) (fuel : Nat) (cs : List Value) (x : DataW H × List MemPlace), DataW.trod enc P w base spare held fuel T cs = some x → ∃ y, R.rd w cs y

theorem opens_int {P : Program} {T : TypeId} (ht : P.underlying T = some (.int .i64)) : Opens P intR T := by
  intro H enc w base spare held fuel cs x h
  obtain ⟨n, rfl, _⟩ := DataW.trod_int ht h
  exact ⟨n, rfl⟩
theorem opens_str {P : Program} {T : TypeId} (ht : P.underlying T = some .string) : Opens P strR T := by
  intro H enc w base spare held fuel cs x h
  obtain ⟨s, rfl, _, hs⟩ := DataW.trod_string ht h
  exact ⟨s, rfl, by unfold maxLen at hs; omega⟩
theorem opens_slice {α : Type} {P : Program} {R : Rep α} {T e E : TypeId} (ht : P.underlying T = some (.slice e)) (hs : P.cellsOf e = R.sz) (hpos : 0 < R.sz) (ho : Opens P R e) : Opens P (sliceR R E) T := by
  intro H enc w base spare held fuel cs x h
  rcases DataW.trod_slice ht h with ⟨rfl, _⟩ | ⟨a, len, cap, elems, rst, n, _, rfl, _, hb, hlc, hm, hel, hev, _⟩
  · exact ⟨[], none, 0, [], rfl, Nat.le_refl _, Nat.zero_le _, fun _ => rfl, rfl, .inl rfl⟩
  · have hone : ∀ i, i < len → ∃ ec y, R.rd w ec y ∧ ∀ j c, ec[j]? = some c → w.cell? (a.add (i * R.sz) |>.add j) = some c := by
      intro i hi
      have h1 := hev i hi
      rw [List.getElem?_eq_getElem (by omega), hs] at h1
      obtain ⟨ec, h2, h3⟩ := Option.bind_eq_some_iff.1 h1
      obtain ⟨y, hy⟩ := ho enc w base spare held n ec _ h3
      obtain ⟨_, h4, h5⟩ := World.cells?_some h2
      exact ⟨ec, y, hy, fun j c hj => by rw [h5 j (by have := (List.getElem?_eq_some_iff.1 hj).1; omega)]; exact hj⟩
    by_cases hl0 : len = 0
    · subst hl0
      exact ⟨[], some a, cap, [], rfl, hlc, hm, by simp, rfl, .inl rfl⟩
    obtain ⟨b, off, spot⟩ := a
    have hspot : spot = none := by
      obtain ⟨ec, y, hy, hc⟩ := hone 0 (by omega)
      have hl := R.rd_len hy
      have h0 := hc 0 ec[0] (by simp)
      simp only [Nat.zero_mul, Addr.add, if_true] at h0
      cases spot with
      | none => rfl
      | some s =>
        unfold World.cell? at h0
        split at h0 <;> simp at h0
    subst hspot
    have hall : ∀ k, k ≤ len → ∃ ys ccs, ys.length = k ∧ rdL R w ccs ys ∧ ∀ j c, ccs[j]? = some c → w.cell? ⟨b, off + j, none⟩ = some c := by
      intro k
      induction k with
      | zero => intro _; exact ⟨[], [], rfl, rfl, by simp⟩
      | succ k ih =>
        intro hk
        obtain ⟨ys, ccs, h1, h2, h3⟩ := ih (by omega)
        obtain ⟨ec, y, hy, hc⟩ := hone k (by omega)
        refine ⟨ys ++ [y], ccs ++ ec, by simp [h1], rdL_append (ys := [y]) ⟨ec, [], by simp, hy, rfl⟩ h2, fun j c hj => ?_⟩
        have hcl := rdL_len h2
        by_cases hj1 : j < ccs.length
        · rw [List.getElem?_append_left hj1] at hj; exact h3 j c hj
        · rw [List.getElem?_append_right (by omega)] at hj
          have := hc (j - ccs.length) c hj
          rw [Addr.add_lit, Addr.add_lit] at this
          rw [show off + j = off + k * R.sz + (j - ccs.length) by rw [hcl, h1] at *; omega]
          exact this
    obtain ⟨ys, ccs, h1, h2, h3⟩ := hall len (Nat.le_refl _)
    exact ⟨ys, some ⟨b, off, none⟩, cap, ccs, by rw [h1], by omega, hm, by simp, h2, .inr ⟨b, off, rfl, h3⟩⟩
theorem rd_pair {α β : Type} {R : Rep α} {S : Rep β} {w : World} {cs : List Value} {x : α} {y : β} (n : Nat) (h1 : R.rd w (cs.take n) x) (h2 : S.rd w (cs.drop n) y) : (pairR R S).rd w cs (x, y) :=
  ⟨cs.take n, cs.drop n, (List.take_append_drop n cs).symm, h1, h2⟩
/-- the fields of a struct, one by one -/
theorem opens_field {α : Type} {P : Program} {R : Rep α} {T : TypeId} (ho : Opens P R T) {H : Type} {enc : TypeId × Value → H} {w : World} {base : Nat} {spare : Nat → Bool} {held : Bool} {fuel : Nat} {cs : List Value} {xs : List (DataW H × List MemPlace)} {i : Nat}
    (hi : i < xs.length) (h : DataW.trod enc P w base spare held fuel T cs = xs[i]?) : ∃ y, R.rd w cs y := by
  rw [List.getElem?_eq_getElem hi] at h
  exact ho enc w base spare held fuel cs _ h
theorem arr1 {cs : Array Value} (h : cs.size = 1) : ∃ c0, cs = #[c0] := by
  obtain ⟨l⟩ := cs
  match l, h with
  | [c0], _ => exact ⟨c0, rfl⟩
theorem arr2 {cs : Array Value} (h : cs.size = 2) : ∃ c0 c1, cs = #[c0, c1] := by
  obtain ⟨l⟩ := cs
  match l, h with
  | [c0, c1], _ => exact ⟨c0, c1, rfl⟩
theorem arr3 {cs : Array Value} (h : cs.size = 3) : ∃ c0 c1 c2, cs = #[c0, c1, c2] := by
  obtain ⟨l⟩ := cs
  match l, h with
  | [c0, c1, c2], _ => exact ⟨c0, c1, c2, rfl⟩
theorem arr4 {cs : Array Value} (h : cs.size = 4) : ∃ c0 c1 c2 c3, cs = #[c0, c1, c2, c3] := by
  obtain ⟨l⟩ := cs
  match l, h with
  | [c0, c1, c2, c3], _ => exact ⟨c0, c1, c2, c3, rfl⟩
theorem arr5 {cs : Array Value} (h : cs.size = 5) : ∃ c0 c1 c2 c3 c4, cs = #[c0, c1, c2, c3, c4] := by
  obtain ⟨l⟩ := cs
  match l, h with
  | [c0, c1, c2, c3, c4], _ => exact ⟨c0, c1, c2, c3, c4, rfl⟩
theorem arr6 {cs : Array Value} (h : cs.size = 6) : ∃ c0 c1 c2 c3 c4 c5, cs = #[c0, c1, c2, c3, c4, c5] := by
  obtain ⟨l⟩ := cs
  match l, h with
  | [c0, c1, c2, c3, c4, c5], _ => exact ⟨c0, c1, c2, c3, c4, c5, rfl⟩
theorem arr7 {cs : Array Value} (h : cs.size = 7) : ∃ c0 c1 c2 c3 c4 c5 c6, cs = #[c0, c1, c2, c3, c4, c5, c6] := by
  obtain ⟨l⟩ := cs
  match l, h with
  | [c0, c1, c2, c3, c4, c5, c6], _ => exact ⟨c0, c1, c2, c3, c4, c5, c6, rfl⟩
theorem arr8 {cs : Array Value} (h : cs.size = 8) : ∃ c0 c1 c2 c3 c4 c5 c6 c7, cs = #[c0, c1, c2, c3, c4, c5, c6, c7] := by
  obtain ⟨l⟩ := cs
  match l, h with
  | [c0, c1, c2, c3, c4, c5, c6, c7], _ => exact ⟨c0, c1, c2, c3, c4, c5, c6, c7, rfl⟩
theorem arr9 {cs : Array Value} (h : cs.size = 9) : ∃ c0 c1 c2 c3 c4 c5 c6 c7 c8, cs = #[c0, c1, c2, c3, c4, c5, c6, c7, c8] := by
  obtain ⟨l⟩ := cs
  match l, h with
  | [c0, c1, c2, c3, c4, c5, c6, c7, c8], _ => exact ⟨c0, c1, c2, c3, c4, c5, c6, c7, c8, rfl⟩
theorem open_string {H : Type} {enc : TypeId × Value → H} {P : Program} {w : World} {base : Nat} {spare : Nat → Bool} {held : Bool} {r : Reach} {b0 : Nat} {t : TypeId} {v : Value} {d : DataW H} {ps : List MemPlace} (ht : P.underlying t = some .string) (hval : Value.okWide P w r b0 t v) (hd : DataW.Trod enc P w base spare held t v d ps) :
    ∃ s : ByteArray, v = .string s ∧ d = .lit (.string s.data.toList) ∧ ps = [] ∧ s.size ≤ maxLen := by
  obtain ⟨s, rfl⟩ := okWide_string ht hval
  obtain ⟨fuel, hf⟩ := hd
  obtain ⟨s', h, hx, hs⟩ := DataW.trod_string ht hf
  simp [Value.cells] at h
  subst h
  simp only [Prod.mk.injEq] at hx
  exact ⟨s, rfl, hx.1, hx.2, hs⟩
theorem shut_string {H : Type} {enc : TypeId × Value → H} {P : Program} {w : World} {base : Nat} {spare : Nat → Bool} {held : Bool} {t : TypeId} {s : ByteArray} (ht : P.underlying t = some .string) (hs : s.size ≤ 9223372036854775807) : DataW.Trod enc P w base spare held t (.string s) (.lit (.string s.data.toList)) [] := by
  have h : s.size ≤ maxLen := by unfold maxLen; omega
  exact ⟨1, by simp [DataW.trod, Value.cells, ht, h]⟩
/-- as intR, and the number is one of 64 bits -/
def rng64 (n : Int) : Prop := -9223372036854775808 ≤ n ∧ n ≤ 9223372036854775807
def intF : Rep Int where
  sz := 1
  rd _ cs n := cs = [.int .i64 n] ∧ rng64 n
  own _ cs n fp := (cs = [.int .i64 n] ∧ rng64 n) ∧ fp = []
  rd_len h := by rw [h.1]; rfl
  rd_one h := by rw [h.1]; simp [Value.oneCell']
  rd_ext h _ := h
  own_rd h := h.1
  own_ext h _ := h
  own_lt h := by rw [h.2]; simp
theorem wf64 {n : Int} (h : (Lit.int .i64 n).wf = true) : rng64 n := by
  unfold Lit.wf at h
  simp only [Bool.and_eq_true, decide_eq_true_eq] at h
  exact ⟨h.1, h.2⟩
theorem opens_intF {P : Program} {T : TypeId} (ht : P.underlying T = some (.int .i64)) : Opens P intF T := by
  intro H enc w base spare held fuel cs x h
  obtain ⟨n, rfl, _, hw⟩ := DataW.trod_int ht h
  exact ⟨n, rfl, wf64 hw⟩
theorem rdL_F {w : World} : ∀ {xs : List Int} {ccs : List Value}, rdL intF w ccs xs → rdL intR w ccs xs ∧ ∀ v ∈ xs, rng64 v
  | [], _, h => ⟨h, by simp⟩
  | x :: xs, _, h => by
    obtain ⟨ec, rest, rfl, h1, h2⟩ := h
    obtain ⟨g1, g2⟩ := rdL_F h2
    refine ⟨⟨ec, rest, rfl, h1.1, g1⟩, fun v hv => ?_⟩
    rcases List.mem_cons.1 hv with rfl | hv
    · exact h1.2
    · exact g2 v hv
theorem slice_F {E : TypeId} {w : World} {cs : List Value} {xs : List Int} (h : (sliceR intF E).rd w cs xs) : (sliceR intR E).rd w cs xs ∧ ∀ v ∈ xs, rng64 v := by
  obtain ⟨ao, cap, ccs, rfl, h1, h2, h3, h4, h5⟩ := h
  obtain ⟨g1, g2⟩ := rdL_F h4
  exact ⟨⟨ao, cap, ccs, rfl, h1, h2, h3, g1, h5⟩, g2⟩
end Go.Proofs.Ytkpeabpdiffjhaa
