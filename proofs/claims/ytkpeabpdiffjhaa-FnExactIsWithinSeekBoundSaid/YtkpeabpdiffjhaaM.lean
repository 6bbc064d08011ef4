/- What a call writes of what it was given: an element taken out of a slice of the call's own, and put back. Program-independent. -/
import Derived.Test.YtkpeabpdiffjhaaR
namespace Go.Proofs.Ytkpeabpdiffjhaa
open Go.RowKit

theorem Sat.splitp {w0 w : World} {A B C : Asn} {Γ : List Asn} (h : Sat w0 w (A :: Γ)) (k : ∀ f, A.holds w f → ∃ p q, (p ++ q).Perm f ∧ B.holds w p ∧ C.holds w q) : Sat w0 w (B :: C :: Γ) := by
  obtain ⟨hb, _, ⟨f1, f2, rfl, h1, h2⟩, hn, h3⟩ := h
  obtain ⟨p, q, hp, k1, k2⟩ := k f1 h1
  have hpp : (p ++ (q ++ f2)).Perm (f1 ++ f2) := by rw [← List.append_assoc]; exact List.Perm.append_right _ hp
  exact ⟨hb, p ++ (q ++ f2), ⟨p, q ++ f2, rfl, k1, q, f2, rfl, k2, h2⟩, hpp.nodup_iff.2 hn, fun b hb' => h3 b (hpp.mem_iff.1 hb')⟩
theorem Sat.joinp {w0 w : World} {A B C : Asn} {Γ : List Asn} (h : Sat w0 w (A :: B :: Γ)) (k : ∀ f g, A.holds w f → B.holds w g → ∃ p, p.Perm (f ++ g) ∧ C.holds w p) : Sat w0 w (C :: Γ) := by
  obtain ⟨hb, _, ⟨f1, _, rfl, h1, f2, f3, rfl, h2, h4⟩, hn, h3⟩ := h
  obtain ⟨p, hp, k1⟩ := k f1 f2 h1 h2
  have hpp : (p ++ f3).Perm (f1 ++ (f2 ++ f3)) := by rw [← List.append_assoc]; exact List.Perm.append_right _ hp
  exact ⟨hb, p ++ f3, ⟨p, f3, rfl, k1, h4⟩, hpp.nodup_iff.2 hn, fun b hb' => h3 b (hpp.mem_iff.1 hb')⟩
section
variable {α β : Type} {R : Rep α} {S : Rep β} {w0 w : World} {Γ : List Asn} {E : TypeId} {v : Value}
/-- a slice without its element i, whose cells are ec -/
def Hole (R : Rep α) (E : TypeId) (v : Value) (xs : List α) (i : Nat) (ec : List Value) : Asn where
  holds w fp := (∀ b ∈ fp, b < w.heap.size) ∧ ∀ w' y f', (∀ b ∈ fp, w'.heap[b]? = w.heap[b]?) → R.own w' ec y f' → ∃ p, p.Perm (f' ++ fp) ∧ (sliceR R E).own w' [v] (xs.set i y) p
  ext h he := by
    refine ⟨fun b hb => ?_, fun w'' y f' he' ho => h.2 w'' y f' (fun b hb => (he' b hb).trans (he b hb)) ho⟩
    have h1 := h.1 b hb
    have h2 := he b hb
    rw [Array.getElem?_eq_getElem h1] at h2
    exact (Array.getElem?_eq_some_iff.1 h2).1
  lt h := h.1
theorem ownL_at {w : World} : ∀ {xs : List α} {ccs : List Value} {f : List Nat}, ownL R w ccs xs f → ∀ (k : Nat) (hk : k < xs.length),
    ∃ ec f1 f2 f3, R.own w ec xs[k] f2 ∧ f = f1 ++ (f2 ++ f3) ∧ (∀ j c, ec[j]? = some c → ccs[k * R.sz + j]? = some c) ∧
      ∀ w' y f', (∀ b ∈ f1 ++ f3, w'.heap[b]? = w.heap[b]?) → R.own w' ec y f' → ownL R w' ccs (xs.set k y) (f1 ++ (f' ++ f3))
  | [], _, _, _, k, hk => absurd hk (by simp)
  | x :: xs, _, _, h, k, hk => by
    obtain ⟨ec, rest, f1, f2, rfl, rfl, h1, h2⟩ := h
    cases k with
    | zero =>
      refine ⟨ec, [], f1, f2, h1, rfl, fun j c hj => ?_, fun w' y f' he ho => ?_⟩
      · have hlt : j < ec.length := (List.getElem?_eq_some_iff.1 hj).1
        rw [Nat.zero_mul, Nat.zero_add, List.getElem?_append_left hlt]; exact hj
      · exact ⟨ec, rest, f', f2, rfl, rfl, ho, ownL_ext h2 fun b hb => he b (by simpa using hb)⟩
    | succ k =>
      obtain ⟨ec', g1, g2, g3, k1, rfl, k3, k4⟩ := ownL_at h2 k (by simpa using hk)
      refine ⟨ec', f1 ++ g1, g2, g3, by simpa using k1, by simp, fun j c hj => ?_, fun w' y f' he ho => ?_⟩
      · have e : (k + 1) * R.sz + j = ec.length + (k * R.sz + j) := by rw [R.rd_len (R.own_rd h1), Nat.add_mul]; omega
        rw [e, List.getElem?_append_right (by omega), Nat.add_sub_cancel_left]
        exact k3 j c hj
      · refine ⟨ec, rest, f1, g1 ++ (f' ++ g3), rfl, by simp, R.own_ext h1 fun b hb => he b (by simp [hb]), k4 w' y f' (fun b hb => he b ?_) ho⟩
        rcases List.mem_append.1 hb with h | h
        · simp [h]
        · simp [h]
theorem Sat.takeOut {xs : List α} {g ln cap m : Nat} {i : Int} {u : α} {ec : List Value} (hS : Sat w0 w (Own (sliceR R E) [v] xs :: Γ)) (hv : v = .slice (some ⟨g, 0, none⟩) ln cap) (h : ix xs i = some u) (hn : R.sz = m) (hl : ec.length = m)
    (hm : ∀ j c, ec[j]? = some c → w.cell? ⟨g, i.toNat * m + j, none⟩ = some c) : Sat w0 w (Own R ec u :: Hole R E v xs i.toNat ec :: Γ) := by
  obtain ⟨k, rfl, hk, rfl⟩ := ix_some h
  subst hv hn
  refine hS.splitp fun f hf => ?_
  rcases hf with ⟨_, h2, _⟩ | ⟨g', cap', cur, ccs, fe, hv, hg, h1, h2, h3, h4, h5, rfl⟩
  · subst h2; simp at hk
  obtain ⟨rfl, rfl, rfl⟩ : g = g' ∧ ln = xs.length ∧ cap = cap' := by simpa using hv
  obtain ⟨ec', f1, f2, f3, k1, rfl, k3, k4⟩ := ownL_at h5 k hk
  have hec : ec = ec' := by
    refine List.ext_getElem (by rw [hl, R.rd_len (R.own_rd k1)]) fun j hj1 hj2 => ?_
    have e1 := hm j ec[j] (List.getElem?_eq_getElem hj1)
    have e2 := k3 j ec'[j] (List.getElem?_eq_getElem hj2)
    simp only [Int.toNat_natCast] at e1
    rw [cell_of_row w g _ cur E (0, 0) hg, ← Array.getElem?_toList] at e1
    rw [← h4, List.getElem?_take] at e2
    split at e2
    · rw [e1] at e2; exact Option.some.inj e2
    · cases e2
  subst hec
  refine ⟨f2, g :: (f1 ++ f3), ?_, k1, ⟨fun b hb => ?_, fun w' y f' he ho => ⟨g :: (f1 ++ (f' ++ f3)), ?_, .inr ⟨g, cap, cur, ccs, _, by simp, by rw [he g (by simp)]; exact hg, by simpa using h1, h2, h3, by simpa using h4, by
    simp only [Int.toNat_natCast]
    exact k4 w' y f' (fun b hb => he b (List.mem_cons_of_mem _ hb)) ho, rfl⟩⟩⟩⟩
  · refine List.perm_middle.trans (.cons _ ?_)
    rw [← List.append_assoc, ← List.append_assoc]
    exact List.Perm.append_right _ List.perm_append_comm
  · rcases List.mem_cons.1 hb with rfl | hb
    · exact (Array.getElem?_eq_some_iff.1 hg).1
    · refine ownL_lt h5 b ?_
      rcases List.mem_append.1 hb with h | h <;> simp [h]
  · refine .trans (.cons _ ?_) List.perm_middle.symm
    rw [← List.append_assoc, ← List.append_assoc]
    exact List.Perm.append_right _ List.perm_append_comm
theorem Sat.putBack {xs ys : List α} {i : Int} {y : α} {ec : List Value} (hS : Sat w0 w (Own R ec y :: Hole R E v xs i.toNat ec :: Γ)) (h : sto xs i y = some ys) : Sat w0 w (Own (sliceR R E) [v] ys :: Γ) := by
  have e : ys = xs.set i.toNat y := by
    unfold sto at h; split at h
    · exact (Option.some.inj h).symm
    · cases h
  subst e
  exact hS.joinp fun f g h1 h2 => h2.2 w y f (fun _ _ => rfl) h1
theorem Sat.unpair {c d : List Value} {x : α × β} (hS : Sat w0 w (Own (pairR R S) (c ++ d) x :: Γ)) (hc : c.length = R.sz) : Sat w0 w (Own R c x.1 :: Own S d x.2 :: Γ) := by
  refine hS.splitp fun f hf => ?_
  obtain ⟨c1, c2, f1, f2, hcs, rfl, h1, h2⟩ := hf
  have hl := R.rd_len (R.own_rd h1)
  obtain ⟨rfl, rfl⟩ := List.append_inj hcs (by omega)
  exact ⟨f1, f2, .refl _, h1, h2⟩
end
end Go.Proofs.Ytkpeabpdiffjhaa
