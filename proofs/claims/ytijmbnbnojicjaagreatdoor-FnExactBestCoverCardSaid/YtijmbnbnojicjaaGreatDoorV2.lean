/- Plain laws: more fuel does not change what the specification's functions hand back. Written out by wip/gen/mono.py. -/
import Derived.Test.YtijmbnbnojicjaaGreatDoorV1
namespace Go.Proofs.YtijmbnbnojicjaaGreatDoor
open Go.RowKit
def Le {α:Type} (a b:Option α):Prop:=∀ r,a=some r→b=some r
theorem Le.refl {α:Type} (a:Option α):Le a a:=fun _ h=>h
theorem Le.bind {α β:Type} {a b:Option α} {f g:α→Option β} (h:Le a b) (hf:∀ x,Le (f x) (g x)):Le (a.bind f) (b.bind g):=fun r hr=>by
 obtain ⟨x,hx,hr⟩:=ob hr
 rw [h x hx]
 exact hf x r hr
theorem Le.cond {α:Type} {c:Bool} {a b x y:Option α} (h:Le a x) (h2:Le b y):Le (bif c then a else b) (bif c then x else y):=by cases c <;> assumption
theorem Le.lpS {R V S:Type} {s:Sum R V} {f f2:R→Option S} {g g2:V→Option S} (h:∀ q,Le (f q) (f2 q)) (h2:∀ v,Le (g v) (g2 v)):Le (lpS s f g) (lpS s f2 g2):=by
 cases s
 ·exact h _
 ·exact h2 _
theorem Le.lpB {V S:Type} {s:V} {g g2:V→Option S} (h2:∀ v,Le (g v) (g2 v)):Le (lpB s g) (lpB s g2):=h2 s
section
variable {N N':Nat}
theorem kQ (hN:N≤N') (a0:Int) (a1:Int) (a2:Int):Le (cu N a0 a1 a2) (cu N' a0 a1 a2):=by
  unfold cu
  repeat' first
    | with_reducible exact Le.refl _
    | refine Le.bind ?_ fun _=>?_
    | refine Le.cond ?_ ?_
    | refine Le.lpS (fun _=>?_) (fun v=>?_)
    | refine Le.lpB (fun v=>?_)
theorem nG (hN:N≤N'):∀ k k',k≤k'→∀ x0 x1,Le (cQ N k x0 x1) (cQ N' k' x0 x1):=by
  intro k
  induction k with
  | zero=>intro k' _ x0 x1 r h;cases h
  | succ k ih =>
    intro k' hk x0 x1
    obtain ⟨k',rfl⟩:∃ j,k'=j+1:=⟨k' - 1,by omega⟩
    rw [cQ,cQ]
    repeat' first
      | with_reducible exact Le.refl _
      | exact ih _ (Nat.le_of_succ_le_succ hk) _ _
      | refine Le.bind ?_ fun _=>?_
      | refine Le.cond ?_ ?_
      | refine Le.lpS (fun _=>?_) (fun v=>?_)
      | refine Le.lpB (fun v=>?_)
theorem mg (hN:N≤N') (a0:Int) (a1:Int):Le (dT N a0 a1) (dT N' a0 a1):=by
  unfold dT
  repeat' first
    | with_reducible exact Le.refl _
    | exact nG hN _ _ hN _ _
    | refine Le.bind ?_ fun _=>?_
    | refine Le.cond ?_ ?_
    | refine Le.lpS (fun _=>?_) (fun v=>?_)
    | refine Le.lpB (fun v=>?_)
theorem cm (hN:N≤N') (a0:Int) (a1:Int):Le (ay N a0 a1) (ay N' a0 a1):=by
  unfold ay
  repeat' first
    | with_reducible exact Le.refl _
    | exact kQ hN _ _ _
    | exact mg hN _ _
    | refine Le.bind ?_ fun _=>?_
    | refine Le.cond ?_ ?_
    | refine Le.lpS (fun _=>?_) (fun v=>?_)
    | refine Le.lpB (fun v=>?_)
theorem iJ (hN:N≤N') (a0:Int) (a1:Int):Le (bG N a0 a1) (bG N' a0 a1):=by
  unfold bG
  repeat' first
    | with_reducible exact Le.refl _
    | exact kQ hN _ _ _
    | exact mg hN _ _
    | exact cm hN _ _
    | refine Le.bind ?_ fun _=>?_
    | refine Le.cond ?_ ?_
    | refine Le.lpS (fun _=>?_) (fun v=>?_)
    | refine Le.lpB (fun v=>?_)
theorem jO (hN:N≤N') (a0:Int) (a1:Int) (a2:Int) (a3:Int):Le (bJ N a0 a1 a2 a3) (bJ N' a0 a1 a2 a3):=by
  unfold bJ
  repeat' first
    | with_reducible exact Le.refl _
    | exact cm hN _ _
    | exact iJ hN _ _
    | refine Le.bind ?_ fun _=>?_
    | refine Le.cond ?_ ?_
    | refine Le.lpS (fun _=>?_) (fun v=>?_)
    | refine Le.lpB (fun v=>?_)
theorem mo (hN:N≤N') (a0:Int) (a1:Int) (a2:Int) (a3:Int):Le (dA N a0 a1 a2 a3) (dA N' a0 a1 a2 a3):=by
  unfold dA
  repeat' first
    | with_reducible exact Le.refl _
    | exact cm hN _ _
    | exact jO hN _ _ _ _
    | refine Le.bind ?_ fun _=>?_
    | refine Le.cond ?_ ?_
    | refine Le.lpS (fun _=>?_) (fun v=>?_)
    | refine Le.lpB (fun v=>?_)
theorem jL (hN:N≤N') (a0:Int) (a1:Int) (a2:Int) (a3:Int):Le (bK N a0 a1 a2 a3) (bK N' a0 a1 a2 a3):=by
  unfold bK
  repeat' first
    | with_reducible exact Le.refl _
    | exact cm hN _ _
    | exact iJ hN _ _
    | refine Le.bind ?_ fun _=>?_
    | refine Le.cond ?_ ?_
    | refine Le.lpS (fun _=>?_) (fun v=>?_)
    | refine Le.lpB (fun v=>?_)
theorem jN (hN:N≤N') (a0:Int) (a1:Int) (a2:Int) (a3:Int):Le (dh N a0 a1 a2 a3) (dh N' a0 a1 a2 a3):=by
  unfold dh
  repeat' first
    | with_reducible exact Le.refl _
    | exact cm hN _ _
    | exact iJ hN _ _
    | refine Le.bind ?_ fun _=>?_
    | refine Le.cond ?_ ?_
    | refine Le.lpS (fun _=>?_) (fun v=>?_)
    | refine Le.lpB (fun v=>?_)
theorem kO (hN:N≤N') (a0:Int) (a1:Int) (a2:Int) (a3:Int):Le (cl N a0 a1 a2 a3) (cl N' a0 a1 a2 a3):=by
  unfold cl
  repeat' first
    | with_reducible exact Le.refl _
    | exact cm hN _ _
    | refine Le.bind ?_ fun _=>?_
    | refine Le.cond ?_ ?_
    | refine Le.lpS (fun _=>?_) (fun v=>?_)
    | refine Le.lpB (fun v=>?_)
theorem lv (hN:N≤N'):∀ k k',k≤k'→∀ x0 x1 x2 x3 x4 x5 x6,Le (bz N k x0 x1 x2 x3 x4 x5 x6) (bz N' k' x0 x1 x2 x3 x4 x5 x6):=by
  intro k
  induction k with
  | zero=>intro k' _ x0 x1 x2 x3 x4 x5 x6 r h;cases h
  | succ k ih =>
    intro k' hk x0 x1 x2 x3 x4 x5 x6
    obtain ⟨k',rfl⟩:∃ j,k'=j+1:=⟨k' - 1,by omega⟩
    rw [bz,bz]
    repeat' first
      | with_reducible exact Le.refl _
      | exact jO hN _ _ _ _
      | exact jL hN _ _ _ _
      | exact ih _ (Nat.le_of_succ_le_succ hk) _ _ _ _ _ _ _
      | refine Le.bind ?_ fun _=>?_
      | refine Le.cond ?_ ?_
      | refine Le.lpS (fun _=>?_) (fun v=>?_)
      | refine Le.lpB (fun v=>?_)
theorem mL (hN:N≤N') (a0:List (Int × Int)) (a1:List (Int × Int)):Le (df N a0 a1) (df N' a0 a1):=by
  unfold df
  repeat' first
    | with_reducible exact Le.refl _
    | exact lv hN _ _ hN _ _ _ _ _ _ _
    | refine Le.bind ?_ fun _=>?_
    | refine Le.cond ?_ ?_
    | refine Le.lpS (fun _=>?_) (fun v=>?_)
    | refine Le.lpB (fun v=>?_)
theorem jD (hN:N≤N'):∀ k k',k≤k'→∀ x0 x1 x2 x3,Le (aT N k x0 x1 x2 x3) (aT N' k' x0 x1 x2 x3):=by
  intro k
  induction k with
  | zero=>intro k' _ x0 x1 x2 x3 r h;cases h
  | succ k ih =>
    intro k' hk x0 x1 x2 x3
    obtain ⟨k',rfl⟩:∃ j,k'=j+1:=⟨k' - 1,by omega⟩
    rw [aT,aT]
    repeat' first
      | with_reducible exact Le.refl _
      | exact mL hN _ _
      | exact ih _ (Nat.le_of_succ_le_succ hk) _ _ _ _
      | refine Le.bind ?_ fun _=>?_
      | refine Le.cond ?_ ?_
      | refine Le.lpS (fun _=>?_) (fun v=>?_)
      | refine Le.lpB (fun v=>?_)
theorem j7 (hN:N≤N') (a0:List (List (Int × Int))) (a1:List (Int × Int)):Le (bD N a0 a1) (bD N' a0 a1):=by
  unfold bD
  repeat' first
    | with_reducible exact Le.refl _
    | exact jD hN _ _ hN _ _ _ _
    | refine Le.bind ?_ fun _=>?_
    | refine Le.cond ?_ ?_
    | refine Le.lpS (fun _=>?_) (fun v=>?_)
    | refine Le.lpB (fun v=>?_)
theorem kn (hN:N≤N'):∀ k k',k≤k'→∀ x0 x1 x2,Le (bv N k x0 x1 x2) (bv N' k' x0 x1 x2):=by
  intro k
  induction k with
  | zero=>intro k' _ x0 x1 x2 r h;cases h
  | succ k ih =>
    intro k' hk x0 x1 x2
    obtain ⟨k',rfl⟩:∃ j,k'=j+1:=⟨k' - 1,by omega⟩
    rw [bv,bv]
    repeat' first
      | with_reducible exact Le.refl _
      | exact ih _ (Nat.le_of_succ_le_succ hk) _ _ _
      | refine Le.bind ?_ fun _=>?_
      | refine Le.cond ?_ ?_
      | refine Le.lpS (fun _=>?_) (fun v=>?_)
      | refine Le.lpB (fun v=>?_)
theorem lj (hN:N≤N') (a0:List (Int × Int)) (a1:List (Int × Int)):Le (cP N a0 a1) (cP N' a0 a1):=by
  unfold cP
  repeat' first
    | with_reducible exact Le.refl _
    | exact kn hN _ _ hN _ _ _
    | refine Le.bind ?_ fun _=>?_
    | refine Le.cond ?_ ?_
    | refine Le.lpS (fun _=>?_) (fun v=>?_)
    | refine Le.lpB (fun v=>?_)
theorem lL (hN:N≤N'):∀ k k',k≤k'→∀ x0 x1 x2 x3 x4,Le (cT N k x0 x1 x2 x3 x4) (cT N' k' x0 x1 x2 x3 x4):=by
  intro k
  induction k with
  | zero=>intro k' _ x0 x1 x2 x3 x4 r h;cases h
  | succ k ih =>
    intro k' hk x0 x1 x2 x3 x4
    obtain ⟨k',rfl⟩:∃ j,k'=j+1:=⟨k' - 1,by omega⟩
    rw [cT,cT]
    repeat' first
      | with_reducible exact Le.refl _
      | exact cm hN _ _
      | exact ih _ (Nat.le_of_succ_le_succ hk) _ _ _ _ _
      | refine Le.bind ?_ fun _=>?_
      | refine Le.cond ?_ ?_
      | refine Le.lpS (fun _=>?_) (fun v=>?_)
      | refine Le.lpB (fun v=>?_)
theorem lW (hN:N≤N'):∀ k k',k≤k'→∀ x0 x1 x2 x3,Le (cV N k x0 x1 x2 x3) (cV N' k' x0 x1 x2 x3):=by
  intro k
  induction k with
  | zero=>intro k' _ x0 x1 x2 x3 r h;cases h
  | succ k ih =>
    intro k' hk x0 x1 x2 x3
    obtain ⟨k',rfl⟩:∃ j,k'=j+1:=⟨k' - 1,by omega⟩
    rw [cV,cV]
    repeat' first
      | with_reducible exact Le.refl _
      | exact lL hN _ _ hN _ _ _ _ _
      | exact ih _ (Nat.le_of_succ_le_succ hk) _ _ _ _
      | refine Le.bind ?_ fun _=>?_
      | refine Le.cond ?_ ?_
      | refine Le.lpS (fun _=>?_) (fun v=>?_)
      | refine Le.lpB (fun v=>?_)
theorem kl (hN:N≤N') (a0:List (List (Int × Int))) (a1:Int) (a2:Int):Le (dc N a0 a1 a2) (dc N' a0 a1 a2):=by
  unfold dc
  repeat' first
    | with_reducible exact Le.refl _
    | exact lW hN _ _ hN _ _ _ _
    | refine Le.bind ?_ fun _=>?_
    | refine Le.cond ?_ ?_
    | refine Le.lpS (fun _=>?_) (fun v=>?_)
    | refine Le.lpB (fun v=>?_)
theorem j2 (hN:N≤N') (a0:List (List (Int × Int))) (a1:List (Int × Int)) (a2:List (Int × Int)):Le (bM N a0 a1 a2) (bM N' a0 a1 a2):=by
  unfold bM
  repeat' first
    | with_reducible exact Le.refl _
    | exact kQ hN _ _ _
    | exact kl hN _ _ _
    | refine Le.bind ?_ fun _=>?_
    | refine Le.cond ?_ ?_
    | refine Le.lpS (fun _=>?_) (fun v=>?_)
    | refine Le.lpB (fun v=>?_)
theorem mM (hN:N≤N'):∀ k k',k≤k'→∀ x0 x1 x2 x3 x4 x5 x6,Le (bT N k x0 x1 x2 x3 x4 x5 x6) (bT N' k' x0 x1 x2 x3 x4 x5 x6):=by
  intro k
  induction k with
  | zero=>intro k' _ x0 x1 x2 x3 x4 x5 x6 r h;cases h
  | succ k ih =>
    intro k' hk x0 x1 x2 x3 x4 x5 x6
    obtain ⟨k',rfl⟩:∃ j,k'=j+1:=⟨k' - 1,by omega⟩
    rw [bT,bT]
    repeat' first
      | with_reducible exact Le.refl _
      | exact mo hN _ _ _ _
      | exact jL hN _ _ _ _
      | exact ih _ (Nat.le_of_succ_le_succ hk) _ _ _ _ _ _ _
      | refine Le.bind ?_ fun _=>?_
      | refine Le.cond ?_ ?_
      | refine Le.lpS (fun _=>?_) (fun v=>?_)
      | refine Le.lpB (fun v=>?_)
theorem mx (hN:N≤N'):∀ k k',k≤k'→∀ x0 x1 x2,Le (cd N k x0 x1 x2) (cd N' k' x0 x1 x2):=by
  intro k
  induction k with
  | zero=>intro k' _ x0 x1 x2 r h;cases h
  | succ k ih =>
    intro k' hk x0 x1 x2
    obtain ⟨k',rfl⟩:∃ j,k'=j+1:=⟨k' - 1,by omega⟩
    rw [cd,cd]
    repeat' first
      | with_reducible exact Le.refl _
      | exact jN hN _ _ _ _
      | exact mM hN _ _ hN _ _ _ _ _ _ _
      | exact ih _ (Nat.le_of_succ_le_succ hk) _ _ _
      | refine Le.bind ?_ fun _=>?_
      | refine Le.cond ?_ ?_
      | refine Le.lpS (fun _=>?_) (fun v=>?_)
      | refine Le.lpB (fun v=>?_)
theorem oY (hN:N≤N') (a0:List (List (Int × Int))) (a1:Int):Le (fq N a0 a1) (fq N' a0 a1):=by
  unfold fq
  repeat' first
    | with_reducible exact Le.refl _
    | exact mx hN _ _ hN _ _ _
    | refine Le.bind ?_ fun _=>?_
    | refine Le.cond ?_ ?_
    | refine Le.lpS (fun _=>?_) (fun v=>?_)
    | refine Le.lpB (fun v=>?_)
theorem j1 (hN:N≤N'):∀ k k',k≤k'→∀ x0 x1 x2 x3 x4,Le (bt N k x0 x1 x2 x3 x4) (bt N' k' x0 x1 x2 x3 x4):=by
  intro k
  induction k with
  | zero=>intro k' _ x0 x1 x2 x3 x4 r h;cases h
  | succ k ih =>
    intro k' hk x0 x1 x2 x3 x4
    obtain ⟨k',rfl⟩:∃ j,k'=j+1:=⟨k' - 1,by omega⟩
    rw [bt,bt]
    repeat' first
      | with_reducible exact Le.refl _
      | exact cm hN _ _
      | exact ih _ (Nat.le_of_succ_le_succ hk) _ _ _ _ _
      | refine Le.bind ?_ fun _=>?_
      | refine Le.cond ?_ ?_
      | refine Le.lpS (fun _=>?_) (fun v=>?_)
      | refine Le.lpB (fun v=>?_)
theorem j0 (hN:N≤N'):∀ k k',k≤k'→∀ x0 x1 x2 x3,Le (bw N k x0 x1 x2 x3) (bw N' k' x0 x1 x2 x3):=by
  intro k
  induction k with
  | zero=>intro k' _ x0 x1 x2 x3 r h;cases h
  | succ k ih =>
    intro k' hk x0 x1 x2 x3
    obtain ⟨k',rfl⟩:∃ j,k'=j+1:=⟨k' - 1,by omega⟩
    rw [bw,bw]
    repeat' first
      | with_reducible exact Le.refl _
      | exact ih _ (Nat.le_of_succ_le_succ hk) _ _ _ _
      | refine Le.bind ?_ fun _=>?_
      | refine Le.cond ?_ ?_
      | refine Le.lpS (fun _=>?_) (fun v=>?_)
      | refine Le.lpB (fun v=>?_)
theorem jV (hN:N≤N'):∀ k k',k≤k'→∀ x0 x1 x2,Le (bp N k x0 x1 x2) (bp N' k' x0 x1 x2):=by
  intro k
  induction k with
  | zero=>intro k' _ x0 x1 x2 r h;cases h
  | succ k ih =>
    intro k' hk x0 x1 x2
    obtain ⟨k',rfl⟩:∃ j,k'=j+1:=⟨k' - 1,by omega⟩
    rw [bp,bp]
    repeat' first
      | with_reducible exact Le.refl _
      | exact oY hN _ _
      | exact j0 hN _ _ hN _ _ _ _
      | exact ih _ (Nat.le_of_succ_le_succ hk) _ _ _
      | refine Le.bind ?_ fun _=>?_
      | refine Le.cond ?_ ?_
      | refine Le.lpS (fun _=>?_) (fun v=>?_)
      | refine Le.lpB (fun v=>?_)
theorem jR (hN:N≤N'):∀ k k',k≤k'→∀ x0 x1 x2 x3,Le (bq N k x0 x1 x2 x3) (bq N' k' x0 x1 x2 x3):=by
  intro k
  induction k with
  | zero=>intro k' _ x0 x1 x2 x3 r h;cases h
  | succ k ih =>
    intro k' hk x0 x1 x2 x3
    obtain ⟨k',rfl⟩:∃ j,k'=j+1:=⟨k' - 1,by omega⟩
    rw [bq,bq]
    repeat' first
      | with_reducible exact Le.refl _
      | exact jN hN _ _ _ _
      | exact ih _ (Nat.le_of_succ_le_succ hk) _ _ _ _
      | refine Le.bind ?_ fun _=>?_
      | refine Le.cond ?_ ?_
      | refine Le.lpS (fun _=>?_) (fun v=>?_)
      | refine Le.lpB (fun v=>?_)
theorem kw (hN:N≤N') (a0:List (List (Int × Int))) (a1:List (Int × Int)):Le (bo N a0 a1) (bo N' a0 a1):=by
  unfold bo
  repeat' first
    | with_reducible exact Le.refl _
    | exact kl hN _ _ _
    | exact j1 hN _ _ hN _ _ _ _ _
    | exact jV hN _ _ hN _ _ _
    | exact jR hN _ _ hN _ _ _ _
    | refine Le.bind ?_ fun _=>?_
    | refine Le.cond ?_ ?_
    | refine Le.lpS (fun _=>?_) (fun v=>?_)
    | refine Le.lpB (fun v=>?_)
theorem mN (hN:N≤N'):∀ k k',k≤k'→∀ x0 x1 x2 x3 x4 x5,Le (cq N k x0 x1 x2 x3 x4 x5) (cq N' k' x0 x1 x2 x3 x4 x5):=by
  intro k
  induction k with
  | zero=>intro k' _ x0 x1 x2 x3 x4 x5 r h;cases h
  | succ k ih =>
    intro k' hk x0 x1 x2 x3 x4 x5
    obtain ⟨k',rfl⟩:∃ j,k'=j+1:=⟨k' - 1,by omega⟩
    rw [cq,cq]
    repeat' first
      | with_reducible exact Le.refl _
      | exact cm hN _ _
      | exact ih _ (Nat.le_of_succ_le_succ hk) _ _ _ _ _ _
      | refine Le.bind ?_ fun _=>?_
      | refine Le.cond ?_ ?_
      | refine Le.lpS (fun _=>?_) (fun v=>?_)
      | refine Le.lpB (fun v=>?_)
theorem mu (hN:N≤N'):∀ k k',k≤k'→∀ x0 x1 x2 x3 x4 x5 x6,Le (bR N k x0 x1 x2 x3 x4 x5 x6) (bR N' k' x0 x1 x2 x3 x4 x5 x6):=by
  intro k
  induction k with
  | zero=>intro k' _ x0 x1 x2 x3 x4 x5 x6 r h;cases h
  | succ k ih =>
    intro k' hk x0 x1 x2 x3 x4 x5 x6
    obtain ⟨k',rfl⟩:∃ j,k'=j+1:=⟨k' - 1,by omega⟩
    rw [bR,bR]
    repeat' first
      | with_reducible exact Le.refl _
      | exact kO hN _ _ _ _
      | exact ih _ (Nat.le_of_succ_le_succ hk) _ _ _ _ _ _ _
      | refine Le.bind ?_ fun _=>?_
      | refine Le.cond ?_ ?_
      | refine Le.lpS (fun _=>?_) (fun v=>?_)
      | refine Le.lpB (fun v=>?_)
theorem om (hN:N≤N') (a0:List (List (Int × Int))) (a1:List (Int × Int)) (a2:List (Int × Int)) (a3:List (Int × Int)) (a4:Int):Le (dw N a0 a1 a2 a3 a4) (dw N' a0 a1 a2 a3 a4):=by
  unfold dw
  repeat' first
    | with_reducible exact Le.refl _
    | exact j7 hN _ _
    | exact j2 hN _ _ _
    | exact mN hN _ _ hN _ _ _ _ _ _
    | exact mu hN _ _ hN _ _ _ _ _ _ _
    | refine Le.bind ?_ fun _=>?_
    | refine Le.cond ?_ ?_
    | refine Le.lpS (fun _=>?_) (fun v=>?_)
    | refine Le.lpB (fun v=>?_)
theorem lU (hN:N≤N'):∀ k k',k≤k'→∀ x0 x1 x2 x3 x4 x5 x6 x7 x8 x9 x10 x11 x12 x13 x14,Le (bQ N k x0 x1 x2 x3 x4 x5 x6 x7 x8 x9 x10 x11 x12 x13 x14) (bQ N' k' x0 x1 x2 x3 x4 x5 x6 x7 x8 x9 x10 x11 x12 x13 x14):=by
  intro k
  induction k with
  | zero=>intro k' _ x0 x1 x2 x3 x4 x5 x6 x7 x8 x9 x10 x11 x12 x13 x14 r h;cases h
  | succ k ih =>
    intro k' hk x0 x1 x2 x3 x4 x5 x6 x7 x8 x9 x10 x11 x12 x13 x14
    obtain ⟨k',rfl⟩:∃ j,k'=j+1:=⟨k' - 1,by omega⟩
    rw [bQ,bQ]
    repeat' first
      | with_reducible exact Le.refl _
      | exact ih _ (Nat.le_of_succ_le_succ hk) _ _ _ _ _ _ _ _ _ _ _ _ _ _ _
      | refine Le.bind ?_ fun _=>?_
      | refine Le.cond ?_ ?_
      | refine Le.lpS (fun _=>?_) (fun v=>?_)
      | refine Le.lpB (fun v=>?_)
theorem mc (hN:N≤N'):∀ k k',k≤k'→∀ x0 x1 x2 x3 x4 x5 x6 x7 x8 x9 x10 x11,Le (bP N k x0 x1 x2 x3 x4 x5 x6 x7 x8 x9 x10 x11) (bP N' k' x0 x1 x2 x3 x4 x5 x6 x7 x8 x9 x10 x11):=by
  intro k
  induction k with
  | zero=>intro k' _ x0 x1 x2 x3 x4 x5 x6 x7 x8 x9 x10 x11 r h;cases h
  | succ k ih =>
    intro k' hk x0 x1 x2 x3 x4 x5 x6 x7 x8 x9 x10 x11
    obtain ⟨k',rfl⟩:∃ j,k'=j+1:=⟨k' - 1,by omega⟩
    rw [bP,bP]
    repeat' first
      | with_reducible exact Le.refl _
      | exact lU hN _ _ hN _ _ _ _ _ _ _ _ _ _ _ _ _ _ _
      | exact ih _ (Nat.le_of_succ_le_succ hk) _ _ _ _ _ _ _ _ _ _ _ _
      | refine Le.bind ?_ fun _=>?_
      | refine Le.cond ?_ ?_
      | refine Le.lpS (fun _=>?_) (fun v=>?_)
      | refine Le.lpB (fun v=>?_)
theorem ma (hN:N≤N'):∀ k k',k≤k'→∀ x0 x1 x2 x3 x4 x5 x6 x7 x8 x9 x10 x11,Le (bO N k x0 x1 x2 x3 x4 x5 x6 x7 x8 x9 x10 x11) (bO N' k' x0 x1 x2 x3 x4 x5 x6 x7 x8 x9 x10 x11):=by
  intro k
  induction k with
  | zero=>intro k' _ x0 x1 x2 x3 x4 x5 x6 x7 x8 x9 x10 x11 r h;cases h
  | succ k ih =>
    intro k' hk x0 x1 x2 x3 x4 x5 x6 x7 x8 x9 x10 x11
    obtain ⟨k',rfl⟩:∃ j,k'=j+1:=⟨k' - 1,by omega⟩
    rw [bO,bO]
    repeat' first
      | with_reducible exact Le.refl _
      | exact lj hN _ _
      | exact ih _ (Nat.le_of_succ_le_succ hk) _ _ _ _ _ _ _ _ _ _ _ _
      | refine Le.bind ?_ fun _=>?_
      | refine Le.cond ?_ ?_
      | refine Le.lpS (fun _=>?_) (fun v=>?_)
      | refine Le.lpB (fun v=>?_)
theorem lP (hN:N≤N'):∀ k k',k≤k'→∀ x0 x1 x2 x3 x4 x5 x6 x7 x8,Le (bm N k x0 x1 x2 x3 x4 x5 x6 x7 x8) (bm N' k' x0 x1 x2 x3 x4 x5 x6 x7 x8):=by
  intro k
  induction k with
  | zero=>intro k' _ x0 x1 x2 x3 x4 x5 x6 x7 x8 r h;cases h
  | succ k ih =>
    intro k' hk x0 x1 x2 x3 x4 x5 x6 x7 x8
    obtain ⟨k',rfl⟩:∃ j,k'=j+1:=⟨k' - 1,by omega⟩
    rw [bm,bm]
    repeat' first
      | with_reducible exact Le.refl _
      | exact kw hN _ _
      | exact om hN _ _ _ _ _
      | exact mc hN _ _ hN _ _ _ _ _ _ _ _ _ _ _ _
      | exact ma hN _ _ hN _ _ _ _ _ _ _ _ _ _ _ _
      | exact ih _ (Nat.le_of_succ_le_succ hk) _ _ _ _ _ _ _ _ _
      | refine Le.bind ?_ fun _=>?_
      | refine Le.cond ?_ ?_
      | refine Le.lpS (fun _=>?_) (fun v=>?_)
      | refine Le.lpB (fun v=>?_)
end
theorem wz (a b:Int):ml a b=ml b a:=by unfold ml;rw [Int.mul_comm]
section
variable {N:Nat}
theorem y7 (hN:1073741824≤N) (a b:Int):bJ N a b 0 0=some ((0,0),false):=by
 unfold bJ
 rw [nY hN]
 rcases gR hN (a,b) with h | h
 ·have h:ay N a b=some true:=h
  rw [h];rfl
 ·have h:ay N a b=some false:=h
  rw [h];rfl
theorem uj (hN:1073741824≤N) {a b:aX} {u v:Int}:∀ (fuel:Nat) (x y i:Int),f6 N fuel a b u v x y (a.length:Int) i=bz N fuel a b u v x y i:=by
 intro fuel
 induction fuel with
 | zero=>intros;rfl
 | succ fuel ih =>
  intro x y i
  rw [f6,bz]
  simp only [qI,qK]
  cases decide (i<(a.length:Int)) with
  | false=>rfl
  | true =>
   simp only [cond_true]
   cases ix a i with
   | none=>rfl
   | some p =>
    cases ix b i with
    | none=>rfl
    | some q =>
     simp only [bs]
     cases hm:bK N p.1 p.2 q.1 q.2 with
     | none=>rfl
     | some r =>
      simp only [bs]
      cases hr:r.2 with
      | false =>
       have:=tC hm
       rw [hr] at this
       rcases this with ⟨h,_⟩ | ⟨_,h⟩
       ·cases h
       ·rw [h]
        simp only [y7 hN,bs,cond_false]
      | true =>
       simp only [cond_true]
       cases bJ N x y r.1.1 r.1.2 with
       | none=>rfl
       | some s =>
        simp only [bs]
        cases s.2 with
        | false=>rfl
        | true =>
         simp only [cond_true]
         cases ad i 1 with
         | none=>rfl
         | some i1=>simp only [bs];exact ih _ _ _
theorem vj (hN:1073741824≤N) (a b:aX):gT N a b=df N a b:=by
 unfold gT df
 simp only [uj hN]
theorem tB (hN:1073741824≤N) {A:bc} {x:aX}:∀ (fuel:Nat) (y:aX) (i:Int),dN N fuel x y A (A.length:Int) i=aT N fuel A x y i:=by
 intro fuel
 induction fuel with
 | zero=>intros;rfl
 | succ fuel ih =>
  intro y i
  rw [dN,aT]
  simp only [vj hN,ih]
theorem uE (hN:1073741824≤N) (A:bc) (x:aX):eE N A x=bD N A x:=by
 unfold eE bD
 simp only [tB hN]
theorem vk {A:bc} {x:aX}:∀ (fuel:Nat) (y:aX) (i:Int) (q:aX × Bool),aT N fuel A x y i=some (.inl q)→q=([],false):=by
 intro fuel
 induction fuel with
 | zero=>intro y i q h;cases h
 | succ fuel ih =>
  intro y i q h
  rw [aT] at h
  rcases oif h with ⟨_,h⟩ | ⟨_,h⟩
  ·obtain ⟨_,_,h⟩:=ob h
   obtain ⟨_,_,h⟩:=ob h
   rcases oif h with ⟨_,h⟩ | ⟨_,h⟩
   ·obtain ⟨_,_,h⟩:=ob h
    obtain ⟨_,_,h⟩:=ob h
    exact ih _ _ _ h
   ·cases h;rfl
  ·cases h
theorem um {A:bc} {x:aX} {r:aX × Bool} (h:bD N A x=some r) (hr:r.2=false):r.1=[]:=by
 unfold bD at h
 obtain ⟨s,hs,h⟩:=ob h
 cases s with
 | inl q =>
  have:=vk N [] 0 q hs
  simp only [lpS] at h
  cases h;rw [this]
 | inr v =>
  simp only [lpS] at h
  cases h;cases hr
theorem wR {x:aX} (hv:∀ i r,ix x i=some r→VR N r) {sg:Int} {A:bc} {B C:aX}:∀ (fuel:Nat) (i:Int),gA N fuel x sg A B C x (x.length:Int) i=cq N fuel x sg A B C i:=by
 intro fuel
 induction fuel with
 | zero=>intros;rfl
 | succ fuel ih =>
  intro i
  rw [gA,cq]
  cases decide (i<(x.length:Int)) with
  | false=>rfl
  | true =>
   simp only [cond_true]
   cases hx:ix x i with
   | none=>rfl
   | some r =>
    have h:ay N r.1 r.2=some true:=hv _ _ hx
    simp only [bs,h,cond_true,ih]
theorem wl {sg:Int} {A:bc} {B C y:aX} {u:Bool}:∀ (fuel:Nat) (i:Int),gH N fuel sg A B C y (y.length:Int) i=bR N fuel sg A B C y u i:=by
 intro fuel
 induction fuel with
 | zero=>intros;rfl
 | succ fuel ih =>
  intro i
  rw [gH,bR]
  simp only [uZ,ih,wz sg]
theorem tO (hN:1073741824≤N) {A:bc} {B C x:aX} {sg:Int} (h1:c7 N A B C=some true) (h2:bM N A B C=some true) (hl:x.length≤1000) (hv:∀ i r,ix x i=some r→VR N r):iy N A B C x sg=dw N A B C x sg:=by
 unfold iy dw
 rw [h1,h2]
 simp only [bs,cond_true]
 cases ((x.length:Int) != (C.length:Int)) with
 | true=>rfl
 | false =>
  simp only [cond_false,py hN hl hv,bs,cond_true,wR hv]
  cases cq N N x sg A B C 0 with
  | none=>rfl
  | some s =>
   simp only [bs]
   cases s with
   | inl q=>rfl
   | inr q =>
    simp only [lpS]
    rw [uE hN]
    cases hm:bD N A x with
    | none=>rfl
    | some r =>
     simp only [bs]
     cases hr:r.2 with
     | true=>simp only [cond_true,wl (u:=true)]
     | false =>
      have he:=um hm hr
      rw [he,cond_false]
      have:bR N N sg A B C [] false 0=some (.inr 0):=by
       obtain ⟨K,rfl⟩:∃ K,N=K+1:=⟨N-1,by omega⟩
       rw [bR];rfl
      rw [this];rfl
theorem yE (hN:1073741824≤N) {A:bc} {c:Nat} (hA:A.length≤1000) (hc:c≤1000) (hr:∀ i R,ix A i=some R→R.length=c∧∀ j r,ix R j=some r→VR N r):∀ (k i fuel:Nat),i+k=A.length→k<fuel→de N fuel (c:Int) A (A.length:Int) (i:Int)=some (.inr (A.length:Int)):=by
 intro k
 induction k with
 | zero =>
  intro i fuel hi hf
  obtain ⟨fuel,rfl⟩:∃ k',fuel=k'+1:=⟨fuel-1,by omega⟩
  rw [de,decide_eq_false (by omega),cond_false,show (i:Int)=(A.length:Int) by omega]
 | succ k ih =>
  intro i fuel hi hf
  obtain ⟨fuel,rfl⟩:∃ k',fuel=k'+1:=⟨fuel-1,by omega⟩
  have e:=ixM (m:=A) (i:=i) (by omega)
  obtain ⟨g1,g2⟩:=hr _ _ e
  have e2:(((aZ A i).length:Int) != (c:Int))=false:=by simp [g1]
  rw [de,decide_eq_true (by omega),cond_true,e,bs,e2,cond_false,py hN (by omega) g2,bs,cond_true,bF (by omega) (by omega),bs]
  exact ih (i+1) fuel (by omega) (by omega)
theorem lE {α:Type} {xs:List α} {i:Int} {x:α} (h:ix xs i=some x):x∈xs:=by
 obtain ⟨k,rfl,hk,rfl⟩:=et h
 exact List.getElem_mem hk
theorem qL (hN:1073741824≤N) {n:Nat} (i:Int) (r:cK) (h:ix (aA n) i=some r):VR N r:=by
 have:=lE h
 unfold aA at this
 rw [List.eq_of_mem_replicate this]
 exact gB hN (by decide) (by decide)
theorem rT (hN:1073741824≤N) {n:Nat} {atoms:List aY} (i:Int) (R:aX) (h:ix (aN n atoms) i=some R):R.length=atoms.length∧∀ j r,ix R j=some r→VR N r:=by
 have:=lE h
 unfold aN at this
 obtain ⟨v,_,rfl⟩:=List.mem_map.1 this
 refine ⟨by unfold dx;rw [List.length_map],fun j r hr=>?_⟩
 have:=lE hr
 unfold dx at this
 obtain ⟨a,_,rfl⟩:=List.mem_map.1 this
 exact q9 hN (jF _ _)
theorem sY (hN:1073741824≤N) {n:Nat} {atoms:List aY} (n1:1≤n) (n5:n≤5) (a1:1≤atoms.length) (a4:atoms.length≤4):c7 N (aN n atoms) (aA n) (aA atoms.length)=some true:=by
 have l1:(aA n).length=n:=by unfold aA;simp
 have l2:(aA atoms.length).length=atoms.length:=by unfold aA;simp
 unfold c7
 have e:(((aN n atoms).length:Int) != (n:Int))=false:=by simp [cg]
 have hL:=yE hN (A:=aN n atoms) (c:=atoms.length) (by rw [cg];omega) (by omega) (rT hN) (aN n atoms).length 0 N (by omega) (by rw [cg];omega)
 rw [show ((0:Nat):Int)=0 from rfl] at hL
 rw [l1,l2,eD,bs,show inR (atoms.length:Int) 1 5=true from cx.2 (by omega),cond_true,eD,bs,show inR (n:Int) 1 5=true from cx.2 (by omega),cond_true,e,cond_false,py hN (by omega) (qL hN),bs,cond_true,py hN (by omega) (qL hN),bs,cond_true,hL,bs]
 rfl
end
section
variable {N:Nat}
theorem mP {α:Type} [DecidableEq α] {a b:List α} {i:Nat} (h1:i<a.length) (h2:i<b.length):(a.drop i=b.drop i)↔(a[i]=b[i]∧a.drop (i+1)=b.drop (i+1)):=by
 rw [List.drop_eq_getElem_cons h1,List.drop_eq_getElem_cons h2,List.cons.injEq]
theorem s8 (p q:cK):(p.1 == q.1&&p.2 == q.2)=decide (p=q):=by
 obtain ⟨a,b⟩:=p;obtain ⟨c,d⟩:=q
 by_cases h:a=c <;> by_cases h2:b=d <;> simp [h,h2]
theorem xw {a b:aX} (hl:a.length=b.length) (h6:a.length≤1000):∀ (c i fuel:Nat),i+c=a.length→c<fuel→dX N fuel a b (a.length:Int) (i:Int)=some (if a.drop i=b.drop i then .inr (a.length:Int) else .inl false):=by
 intro c
 induction c with
 | zero =>
  intro i fuel hi hf
  obtain ⟨fuel,rfl⟩:∃ k',fuel=k'+1:=⟨fuel-1,by omega⟩
  rw [dX,decide_eq_false (by omega),cond_false,List.drop_eq_nil_of_le (by omega),List.drop_eq_nil_of_le (by omega),if_pos rfl,show (i:Int)=(a.length:Int) by omega]
 | succ c ih =>
  intro i fuel hi hf
  obtain ⟨fuel,rfl⟩:∃ k',fuel=k'+1:=⟨fuel-1,by omega⟩
  rw [dX,decide_eq_true (by omega),cond_true,aS (by omega),bs,aS (by omega),bs,s8]
  by_cases h:a[i]'(by omega)=b[i]'(by omega)
  ·rw [decide_eq_true h,cond_true,bF (by omega) (by omega),bs]
   have:=ih (i+1) fuel (by omega) (by omega)
   rw [show ((i:Int)+1)=((i+1:Nat):Int) by omega,this]
   have e:(a.drop i=b.drop i)↔(a.drop (i+1)=b.drop (i+1)):=by rw [mP (by omega) (by omega)];simp [h]
   simp only [e]
  ·rw [decide_eq_false h,cond_false,if_neg (by rw [mP (by omega) (by omega)];exact fun h'=>h h'.1)]
theorem yF {a b:aX} (hl:a.length=b.length) (h6:a.length≤1000):∀ (c i fuel:Nat),i+c=a.length→c<fuel→bv N fuel a b (i:Int)=some (if a.drop i=b.drop i then .inr (a.length:Int) else .inl false):=by
 intro c
 induction c with
 | zero =>
  intro i fuel hi hf
  obtain ⟨fuel,rfl⟩:∃ k',fuel=k'+1:=⟨fuel-1,by omega⟩
  rw [bv,decide_eq_false (by omega),cond_false,List.drop_eq_nil_of_le (by omega),List.drop_eq_nil_of_le (by omega),if_pos rfl,show (i:Int)=(a.length:Int) by omega]
 | succ c ih =>
  intro i fuel hi hf
  obtain ⟨fuel,rfl⟩:∃ k',fuel=k'+1:=⟨fuel-1,by omega⟩
  rw [bv,decide_eq_true (by omega),cond_true,aS (by omega),bs,aS (by omega),bs,s8]
  by_cases h:a[i]'(by omega)=b[i]'(by omega)
  ·rw [decide_eq_true h,cond_true,bF (by omega) (by omega),bs]
   have:=ih (i+1) fuel (by omega) (by omega)
   rw [show ((i:Int)+1)=((i+1:Nat):Int) by omega,this]
   have e:(a.drop i=b.drop i)↔(a.drop (i+1)=b.drop (i+1)):=by rw [mP (by omega) (by omega)];simp [h]
   simp only [e]
  ·rw [decide_eq_false h,cond_false,if_neg (by rw [mP (by omega) (by omega)];exact fun h'=>h h'.1)]
theorem wg (hN:1073741824≤N) {a b:aX} (h6:a.length≤1000):fG N a b=some (decide (a=b)):=by
 unfold fG
 by_cases hl:a.length=b.length
 ·have:=xw (N:=N) hl h6 a.length 0 N (by omega) (by omega)
  rw [show ((0:Nat):Int)=0 from rfl] at this
  rw [show ((a.length:Int) != (b.length:Int))=false by simp [hl],cond_false,this,bs,List.drop_zero,List.drop_zero]
  by_cases e:a=b
  ·rw [if_pos e,decide_eq_true e];rfl
  ·rw [if_neg e,decide_eq_false e];rfl
 ·rw [show ((a.length:Int) != (b.length:Int))=true by simp;omega,cond_true,decide_eq_false (fun e=>hl (by rw [e]))]
theorem wF (hN:1073741824≤N) {a b:aX} (h6:a.length≤1000):cP N a b=some (decide (a=b)):=by
 unfold cP
 by_cases hl:a.length=b.length
 ·have:=yF (N:=N) hl h6 a.length 0 N (by omega) (by omega)
  rw [show ((0:Nat):Int)=0 from rfl] at this
  rw [show ((a.length:Int) != (b.length:Int))=false by simp [hl],cond_false,this,bs,List.drop_zero,List.drop_zero]
  by_cases e:a=b
  ·rw [if_pos e,decide_eq_true e];rfl
  ·rw [if_neg e,decide_eq_false e];rfl
 ·rw [show ((a.length:Int) != (b.length:Int))=true by simp;omega,cond_true,decide_eq_false (fun e=>hl (by rw [e]))]
theorem z7 (hN:1073741824≤N) {sg n m i:Int} {A:bc} {B C x:aX} {L:List (List Int)} {out:bc} (ho:out.length≤100000) (hr:∀ y∈out,y.length≤1000):∀ (c k fuel:Nat) (b:Bool),k+c=out.length→c<fuel →
  bO N fuel sg A B C out n m L i x b (k:Int)=some (b||decide (x∈out.drop k),(out.length:Int)):=by
 intro c
 induction c with
 | zero =>
  intro k fuel b hk hf
  obtain ⟨fuel,rfl⟩:∃ k',fuel=k'+1:=⟨fuel-1,by omega⟩
  rw [bO,decide_eq_false (by omega),cond_false,List.drop_eq_nil_of_le (by omega),show (k:Int)=(out.length:Int) by omega]
  simp
 | succ c ih =>
  intro k fuel b hk hf
  obtain ⟨fuel,rfl⟩:∃ k',fuel=k'+1:=⟨fuel-1,by omega⟩
  have hk':k<out.length:=by omega
  rw [bO,decide_eq_true (by omega),cond_true,List.drop_eq_getElem_cons hk']
  cases b with
  | true =>
   rw [cond_true,bF (by omega) (by omega),bs]
   have:=ih (k+1) fuel true (by omega) (by omega)
   rw [show ((k:Int)+1)=((k+1:Nat):Int) by omega,this]
   simp
  | false =>
   rw [cond_false,aS hk',bs,wF hN (hr _ (List.getElem_mem hk')),bs,bF (by omega) (by omega),bs]
   have:=ih (k+1) fuel (decide (out[k]=x)) (by omega) (by omega)
   rw [show ((k:Int)+1)=((k+1:Nat):Int) by omega,this]
   have e:(x=out[k])↔(out[k]=x):=⟨Eq.symm,Eq.symm⟩
   simp only [List.mem_cons,e,Bool.false_or,Bool.decide_or]
theorem zV (hN:1073741824≤N) {rec:Int→(List Int)→Int→(List (List (Int × Int)))→(List (Int × Int))→(List (List (Int × Int)))→(List (Int × Int))→(List (Int × Int))→Int→(List (List (Int × Int)))→Option (List (List (Int × Int)))} {cs:List Int} {n sg:Int} {R A:bc} {H B C x:aX} {out:bc} (ho:out.length≤100000) (hx:x.length≤1000):∀ (c k fuel:Nat),k+c=out.length→c<fuel →
  fa rec N fuel cs n R H A B C sg out x out (out.length:Int) (k:Int)=some (if x∈out.drop k then .inl out else .inr (out.length:Int)):=by
 intro c
 induction c with
 | zero =>
  intro k fuel hk hf
  obtain ⟨fuel,rfl⟩:∃ k',fuel=k'+1:=⟨fuel-1,by omega⟩
  rw [fa,decide_eq_false (by omega),cond_false,List.drop_eq_nil_of_le (by omega),if_neg (by simp),show (k:Int)=(out.length:Int) by omega]
 | succ c ih =>
  intro k fuel hk hf
  obtain ⟨fuel,rfl⟩:∃ k',fuel=k'+1:=⟨fuel-1,by omega⟩
  have hk':k<out.length:=by omega
  rw [fa,decide_eq_true (by omega),cond_true,List.drop_eq_getElem_cons hk',aS hk',bs,wg hN hx,bs]
  by_cases e:x=out[k]
  ·rw [decide_eq_true e,cond_true,if_pos (List.mem_cons.2 (.inl e))]
  ·rw [decide_eq_false e,cond_false,bF (by omega) (by omega),bs]
   have:=ih (k+1) fuel (by omega) (by omega)
   rw [show ((k:Int)+1)=((k+1:Nat):Int) by omega,this]
   simp only [List.mem_cons,e,false_or]
def gU (N n:Nat) (atoms:List aY) (out:bc) (l:List Int):Option bc :=
 (bo N (dE (aN n atoms) n atoms.length l) (dp n l)).bind fun r =>
 bif r.2 then (dw N (aN n atoms) (aA n) (aA atoms.length) r.1 1).bind fun b =>
  bif b then (bif decide (r.1∈out) then some out else apd 24 out [r.1]) else some out
 else some out
def iQ (N n:Nat) (atoms:List aY):List (List Int)→bc→Option bc
 | [],out=>some out
 | l :: ls,out=>(gU N n atoms out l).bind (iQ N n atoms ls)
theorem pP {n:Nat} {atoms:List aY}:∀ (a b:List (List Int)) (out:bc),iQ N n atoms (a++b) out=(iQ N n atoms a out).bind (iQ N n atoms b)
 | [],_,_=>rfl
 | l :: a,b,out=>by
  show (gU N n atoms out l).bind (iQ N n atoms (a++b))=((gU N n atoms out l).bind (iQ N n atoms a)).bind (iQ N n atoms b)
  cases gU N n atoms out l with
  | none=>rfl
  | some o=>exact pP a b o
def Ok (na c:Nat) (out:bc):Prop:=out.length≤c∧∀ y∈out,y.length=na
theorem rr (hN:1073741824≤N) {n:Nat} {atoms:List aY} (a4:atoms.length≤4) {l:List Int} (hl:l.length=atoms.length) {out o:bc} {c:Nat} (ho:Ok atoms.length c out) (h:gU N n atoms out l=some o):Ok atoms.length (c+1) o:=by
 unfold gU at h
 obtain ⟨r,hr,h⟩:=ob h
 have same:some out=some o→Ok atoms.length (c+1) o:=fun h=>by cases h;exact ⟨by have:=ho.1;omega,ho.2⟩
 rcases oif h with ⟨h2,h⟩ | ⟨_,h⟩
 rotate_left
 ·exact same h
 obtain ⟨b,_,h⟩:=ob h
 rcases oif h with ⟨_,h⟩ | ⟨_,h⟩
 rotate_left
 ·exact same h
 rcases oif h with ⟨_,h⟩ | ⟨_,h⟩
 ·exact same h
 have hbl:(dp n l).length=atoms.length:=by unfold dp g7;rw [List.length_map,List.length_map,hl]
 obtain ⟨x,ok,es,hsol⟩:=kv hN (n:=atoms.length) (by omega) (m9 (n:=n) (atoms:=atoms) hl) hbl
 rw [hr] at es
 obtain rfl:=Option.some.inj es
 rw [qr h]
 refine ⟨by rw [List.length_append,List.length_singleton];have:=ho.1;omega,fun y hy=>?_⟩
 rcases List.mem_append.1 hy with h | h
 ·exact ho.2 y h
 ·rw [List.mem_singleton.1 h];exact (hsol h2).1
theorem uz (hN:1073741824≤N) {n:Nat} {atoms:List aY} (n5:n≤5) (a4:atoms.length≤4) {L:List (List Int)} (hL:L.length≤10000) (hm:∀ l∈L,l.length=atoms.length∧∀ v∈l,0≤v∧v<(n+atoms.length:Nat)):∀ (c i fuel:Nat) (out:bc) (s:bc × Int),i+c=L.length→Ok atoms.length i out →
  bm N fuel 1 (aN n atoms) (aA n) (aA atoms.length) out (atoms.length:Int) (n:Int) L (i:Int)=some s→iQ N n atoms (L.drop i) out=some s.1:=by
 intro c
 induction c with
 | zero =>
  intro i fuel out s hi ho h
  cases fuel with
  | zero=>cases h
  | succ fuel =>
   rw [bm,decide_eq_false (by omega),cond_false] at h
   cases h
   rw [List.drop_eq_nil_of_le (by omega)];rfl
 | succ c ih =>
  intro i fuel out s hi ho h
  cases fuel with
  | zero=>cases h
  | succ fuel =>
   have hiL:i<L.length:=by omega
   obtain ⟨m1,m2⟩:=hm _ (List.getElem_mem hiL)
   rw [bm,decide_eq_true (by omega),cond_true,uu hN a4 n5 cg hiL m1 m2,bs,lpB] at h
   dsimp only at h
   rw [List.drop_eq_getElem_cons hiL]
   have go:∀ o,gU N n atoms out L[i]=some o→bm N fuel 1 (aN n atoms) (aA n) (aA atoms.length) o (atoms.length:Int) (n:Int) L ((i+1:Nat):Int)=some s→(gU N n atoms out L[i]).bind (iQ N n atoms (L.drop (i+1)))=some s.1:=fun o e h=>by
    have ok:=rr hN a4 m1 ho e
    rw [e,bs]
    exact ih (i+1) fuel o s (by omega) ok h
   show (gU N n atoms out L[i]).bind (iQ N n atoms (L.drop (i+1)))=some s.1
   obtain ⟨r,hr,h⟩:=ob h
   rcases oif h with ⟨h2,h⟩ | ⟨h2,h⟩
   ·obtain ⟨b,hb,h⟩:=ob h
    rcases oif h with ⟨h3,h⟩ | ⟨h3,h⟩
    ·have hol:=ho.1
     have hd:=z7 hN (sg:=1) (n:=(atoms.length:Int)) (m:=(n:Int)) (i:=(i:Int)) (A:=aN n atoms) (B:=aA n) (C:=aA atoms.length) (x:=r.1) (L:=L) (out:=out) (by omega) (fun y hy=>by rw [ho.2 y hy];omega) out.length 0 N false (by omega) (by omega)
     rw [show ((0:Nat):Int)=0 from rfl,Bool.false_or,List.drop_zero] at hd
     rw [hd,bs,lpB] at h
     dsimp only at h
     rcases oif h with ⟨h4,h⟩ | ⟨h4,h⟩
     ·rw [bF (by omega) (by omega),bs] at h
      exact go out (by unfold gU;rw [hr,bs,h2,cond_true,hb,bs,h3,cond_true,h4,cond_true]) h
     ·obtain ⟨o,eo,h⟩:=ob h
      rw [bF (by omega) (by omega),bs] at h
      exact go o (by unfold gU;rw [hr,bs,h2,cond_true,hb,bs,h3,cond_true,h4,cond_false,eo]) h
    ·rw [bF (by omega) (by omega),bs] at h
     exact go out (by unfold gU;rw [hr,bs,h2,cond_true,hb,bs,h3,cond_false]) h
   ·rw [bF (by omega) (by omega),bs] at h
    exact go out (by unfold gU;rw [hr,bs,h2,cond_false]) h
end
def iu (n:Nat) (atoms:List aY):bc:=aN n atoms++(List.range' 0 atoms.length).map (du atoms.length)
def jT (n:Nat) (atoms:List aY):aX:=aA n++List.replicate atoms.length (0,1)
section
variable {N:Nat}
theorem wx {m i j:Nat} (h:j<(du m i).length):(du m i)[j]=bif ((i:Int) == (j:Int)) then (1,1) else (0,1):=by
 unfold du at h ⊢
 rw [List.getElem_set]
 by_cases e:i=j
 ·subst e;simp
 ·rw [if_neg e,show (((i:Nat):Int) == (j:Int))=false by simpa using fun h=>e (by omega),cond_false];simp
theorem wB (hN:1073741824≤N) {m i:Nat} (hm:m≤1000) {A R:bc} {B C H:aX} {sg:Int} :
  dz N N A B C sg (m:Int) R H (i:Int) [] 0=some (du m i,(m:Int)):=by
 have ul:=kf m i
 have h:=gQ (fun q (o:aX) v=>dz N q A B C sg (m:Int) R H (i:Int) o v) m (fun v=>(du m i).take v) (du m i,(m:Int))
  (fun q v h=>by
   show dz N (q+1) A B C sg (m:Int) R H (i:Int) ((du m i).take v) (v:Int)=dz N q A B C sg (m:Int) R H (i:Int) ((du m i).take (v+1)) ((v+1:Nat):Int)
   have hv:v<(du m i).length:=by omega
   rw [dz,dlt h,cond_true,List.take_succ_eq_append_getElem hv,wx hv]
   unfold jY
   cases ((i:Int) == (v:Int)) with
   | true=>rw [cond_true,bs,bB (by decide) (by rw [List.length_take,List.length_singleton];omega),bs,ad1 (by omega),bs,cond_true]
   | false=>rw [cond_false,bs,bB (by decide) (by rw [List.length_take,List.length_singleton];omega),bs,ad1 (by omega),bs,cond_false])
  (fun q=>by
   show dz N (q+1) A B C sg (m:Int) R H (i:Int) ((du m i).take m) (m:Int)=_
   rw [dz,dge (by omega),cond_false,List.take_of_length_le (by omega)]) N 0 (by omega) (by omega)
 exact h
theorem wj (hN:1073741824≤N) {n:Nat} (n5:n≤5) {atoms:List aY} (a4:atoms.length≤4) {C:aX} {sg:Int} :
  dB N N (aN n atoms) (aA n) C sg (atoms.length:Int) (aN n atoms) (aA n) 0=some (iu n atoms,jT n atoms,(atoms.length:Int)):=by
 have l0:=cg (n:=n) (atoms:=atoms)
 have l1:(aA n).length=n:=by unfold aA;simp
 have h:=gQ (fun q (o:bc × aX) v=>dB N q (aN n atoms) (aA n) C sg (atoms.length:Int) o.1 o.2 v) atoms.length (fun v=>(aN n atoms++(List.range' 0 v).map (du atoms.length),aA n++List.replicate v (0,1))) (iu n atoms,jT n atoms,(atoms.length:Int))
  (fun q v h=>by
   show dB N (q+1) (aN n atoms) (aA n) C sg (atoms.length:Int) (aN n atoms++(List.range' 0 v).map (du atoms.length)) (aA n++List.replicate v (0,1)) (v:Int)=dB N q (aN n atoms) (aA n) C sg (atoms.length:Int) (aN n atoms++(List.range' 0 (v+1)).map (du atoms.length)) (aA n++List.replicate (v+1) (0,1)) ((v+1:Nat):Int)
   rw [dB,dlt h,cond_true,wB hN (by omega),bs,lpB]
   dsimp only
   rw [bB (by decide) (by simp;omega),bs,bB (by decide) (by simp;omega),bs,ad1 (by omega),bs,List.range'_1_concat,List.map_append,← List.append_assoc,List.replicate_succ',← List.append_assoc,Nat.zero_add]
   rfl)
  (fun q=>by
   show dB N (q+1) (aN n atoms) (aA n) C sg (atoms.length:Int) (aN n atoms++(List.range' 0 atoms.length).map (du atoms.length)) (aA n++List.replicate atoms.length (0,1)) (atoms.length:Int)=_
   rw [dB,dge (by omega),cond_false];rfl) N 0 (by omega) (by omega)
 have e:aN n atoms++(List.range' 0 0).map (du atoms.length)=aN n atoms:=by simp
 have e2:aA n++List.replicate 0 ((0:Int),(1:Int))=aA n:=by simp
 dsimp only at h
 rw [e,e2] at h
 exact h
theorem mI (n:Nat) (atoms:List aY):(iu n atoms).length=n+atoms.length:=by unfold iu;rw [List.length_append,cg,List.length_map,List.length_range']
theorem vC {n:Nat} {atoms:List aY} {j:Nat} (h:j<n+atoms.length):ix (iu n atoms) (j:Int)=some (fD (aN n atoms) n atoms.length j):=by
 rw [aS (by rw [mI];exact h)]
 congr 1
 unfold fD iu
 by_cases hj:j<n
 ·have hc:j<(aN n atoms).length:=by rw [cg];exact hj
  rw [if_pos hj,List.getElem_append_left hc]
  unfold aZ;simp [hc]
 ·rw [if_neg hj,List.getElem_append_right (by rw [cg];omega)]
  simp [cg]
theorem w5 {n:Nat} {atoms:List aY} {j:Nat} (h:j<n+atoms.length):ix (jT n atoms) (j:Int)=some (gJ n j):=by
 have l1:(aA n).length=n:=by unfold aA;simp
 unfold jT
 rw [aS (by rw [List.length_append,l1,List.length_replicate];exact h)]
 congr 1
 unfold gJ
 by_cases hj:j<n
 ·rw [if_pos hj,List.getElem_append_left (by omega)]
  unfold aA;simp
 ·rw [if_neg hj,List.getElem_append_right (by omega)]
  simp
theorem xd (hN:1073741824≤N) {rec:Int→(List Int)→Int→(List (List (Int × Int)))→(List (Int × Int))→(List (List (Int × Int)))→(List (Int × Int))→(List (Int × Int))→Int→(List (List (Int × Int)))→Option (List (List (Int × Int)))} {n:Nat} {atoms:List aY} (a4:atoms.length≤4) {l:List Int} (hl:l.length=atoms.length) (hb:∀ v∈l,0≤v∧v<(n+atoms.length:Nat)) {sg w:Int} {A out:bc} {B C:aX} :
  c8 rec N N l w (iu n atoms) (jT n atoms) A B C sg out [] [] l (l.length:Int) 0=some (dE (aN n atoms) n atoms.length l,dp n l,(l.length:Int)):=by
 have h:=gQ (fun q (o:bc × aX) k=>c8 rec N q l w (iu n atoms) (jT n atoms) A B C sg out o.1 o.2 l (l.length:Int) k) l.length (fun k=>(dE (aN n atoms) n atoms.length (l.take k),dp n (l.take k))) (dE (aN n atoms) n atoms.length l,dp n l,(l.length:Int))
  (fun q k h=>by
   show c8 rec N (q+1) l w (iu n atoms) (jT n atoms) A B C sg out (dE (aN n atoms) n atoms.length (l.take k)) (dp n (l.take k)) l (l.length:Int) (k:Int)=c8 rec N q l w (iu n atoms) (jT n atoms) A B C sg out (dE (aN n atoms) n atoms.length (l.take (k+1))) (dp n (l.take (k+1))) l (l.length:Int) ((k+1:Nat):Int)
   have hv:=hb _ (List.getElem_mem h)
   have l1:(dE (aN n atoms) n atoms.length (l.take k)).length≤1000:=by unfold dE g7;rw [List.length_map,List.length_map,List.length_take];omega
   have l2:(dp n (l.take k)).length≤1000:=by unfold dp g7;rw [List.length_map,List.length_map,List.length_take];omega
   have eA:dE (aN n atoms) n atoms.length (l.take (k+1))=dE (aN n atoms) n atoms.length (l.take k)++[fD (aN n atoms) n atoms.length l[k].toNat]:=by
    unfold dE g7
    rw [List.take_succ_eq_append_getElem h,List.map_append,List.map_append];rfl
   have eB:dp n (l.take (k+1))=dp n (l.take k)++[gJ n l[k].toNat]:=by
    unfold dp g7
    rw [List.take_succ_eq_append_getElem h,List.map_append,List.map_append];rfl
   obtain ⟨j,hj⟩:∃ j:Nat,l[k]=(j:Int):=⟨l[k].toNat,by omega⟩
   rw [hj] at hv
   rw [c8,dlt h,cond_true,aS h,bs,eA,eB,hj,Int.toNat_natCast,vC (by omega),bs,bB (by decide) (by rw [List.length_singleton];omega),bs,w5 (by omega),bs,bB (by decide) (by rw [List.length_singleton];omega),bs,ad1 (by omega),bs])
  (fun q=>by
   show c8 rec N (q+1) l w (iu n atoms) (jT n atoms) A B C sg out (dE (aN n atoms) n atoms.length (l.take l.length)) (dp n (l.take l.length)) l (l.length:Int) (l.length:Int)=_
   rw [c8,dge (by omega),cond_false,List.take_length]) N 0 (by omega) (by omega)
 exact h
theorem vl (hN:1073741824≤N) {m i:Nat} (j:Int) (r:cK) (h:ix (du m i) j=some r):VR N r:=by
 have:=lE h
 unfold du at this
 rcases List.mem_or_eq_of_mem_set this with h | rfl
 ·rw [List.eq_of_mem_replicate h];exact gB hN (by decide) (by decide)
 ·exact gB hN (by decide) (by decide)
theorem wb (hN:1073741824≤N) {n:Nat} {atoms:List aY} {l:List Int} (i:Int) (R:aX) (h:ix (dE (aN n atoms) n atoms.length l) i=some R):R.length=atoms.length∧∀ j r,ix R j=some r→VR N r:=by
 have:=lE h
 unfold dE at this
 obtain ⟨v,_,rfl⟩:=List.mem_map.1 this
 unfold fD
 by_cases hv:v<n
 ·rw [if_pos hv]
  exact rT hN (v:Int) _ (ixM (by rw [cg];exact hv))
 ·rw [if_neg hv]
  exact ⟨kf _ _,fun j r hr=>vl hN j r hr⟩
theorem wa (hN:1073741824≤N) {n:Nat} {l:List Int} (i:Int) (r:cK) (h:ix (dp n l) i=some r):VR N r:=by
 have:=lE h
 unfold dp at this
 obtain ⟨v,_,rfl⟩:=List.mem_map.1 this
 unfold gJ
 split
 ·exact gB hN (by decide) (by decide)
 ·exact gB hN (by decide) (by decide)
theorem xg (hN:1073741824≤N) {n:Nat} {atoms:List aY} (n1:1≤n) (n5:n≤5) (a1:1≤atoms.length) (a4:atoms.length≤4) {l:List Int} (hl:l.length=atoms.length) (hb:∀ v∈l,0≤v∧v<(n+atoms.length:Nat)) {f:Int} {out o:bc} {c:Nat} (ho:Ok atoms.length c out) (hc:c≤100000) (h:gU N n atoms out l=some o) :
  ce (N+1) f l (atoms.length:Int) (iu n atoms) (jT n atoms) (aN n atoms) (aA n) (aA atoms.length) 1 out=some o:=by
 have hol:=ho.1
 unfold gU at h
 obtain ⟨r,hr,h⟩:=ob h
 have hbl:(dp n l).length=atoms.length:=by unfold dp g7;rw [List.length_map,List.length_map,hl]
 have hal:(dE (aN n atoms) n atoms.length l).length=atoms.length:=by unfold dE g7;rw [List.length_map,List.length_map,hl]
 have hs:=s5 hN (A:=dE (aN n atoms) n atoms.length l) (b:=dp n l) (by omega) (by omega) (fun i R hR=>by
  rw [hbl];exact wb hN i R hR) (fun i r hr=>wa hN i r hr) hr
 rw [ce,decide_eq_false (by omega),cond_false,xd hN a4 hl hb,bs,lpB]
 dsimp only
 rw [hs,bs]
 rcases oif h with ⟨h2,h⟩ | ⟨h2,h⟩
 ·rw [h2,cond_true]
  obtain ⟨x,ok,es,hsol⟩:=kv hN (n:=atoms.length) (by omega) (m9 (n:=n) (atoms:=atoms) hl) hbl
  rw [hr] at es
  obtain rfl:=Option.some.inj es
  obtain ⟨xl,xv,_⟩:=hsol h2
  have xl':x.length=atoms.length:=xl
  rw [tO hN (sY hN n1 n5 a1 a4) (oW hN n1 n5 a1 a4) (by show x.length≤1000;omega) (fun i q hq=>by
   obtain ⟨k,rfl,hk,rfl⟩:=et hq
   have hk':k<x.length:=hk
   have:=xv k (by omega)
   unfold aw at this
   simpa [hk'] using this)]
  obtain ⟨b,hb',h⟩:=ob h
  rw [hb',bs]
  rcases oif h with ⟨h3,h⟩ | ⟨h3,h⟩
  ·rw [h3,cond_true]
   have hd:=zV hN (rec:=ce N) (cs:=l) (n:=(atoms.length:Int)) (sg:=1) (R:=iu n atoms) (H:=jT n atoms) (A:=aN n atoms) (B:=aA n) (C:=aA atoms.length) (x:=x) (out:=out) (by omega) (by omega) out.length 0 N (by omega) (by omega)
   rw [show ((0:Nat):Int)=0 from rfl,List.drop_zero] at hd
   rw [hd,bs]
   rcases oif h with ⟨h4,h⟩ | ⟨h4,h⟩
   ·rw [if_pos (of_decide_eq_true h4)]
    exact h
   ·rw [if_neg (of_decide_eq_false h4)]
    simp only [lpS]
    rw [h,bs]
  ·rw [h3,cond_false];exact h
 ·rw [h2,cond_false];exact h
theorem yo {xs:List Int} (h:xs.length≤1048576):iA N xs=some xs:=by
 unfold iA
 rw [bB (by decide) (by simpa using Nat.le_trans h (by decide)),bs,List.nil_append]
theorem vw {r i t:Nat} (h:t≤i):cM (r+1) i t=[]:=by
 show (List.range' i (t-r-i)).flatMap _=[]
 rw [show t-r-i=0 by omega];rfl
theorem oH {r i t:Nat} (h:i<t):cM (r+1) i t=(cM r (i+1) t).map (fun l=>(i:Int) :: l)++cM (r+1) (i+1) t:=by
 show (List.range' i (t-r-i)).flatMap (fun j:Nat=>(cM r (j+1) t).map fun l=>(j:Int) :: l)=_
 by_cases hr:i+r<t
 ·obtain ⟨k,hk⟩:∃ k,t-r-i=k+1:=⟨t-r-i-1,by omega⟩
  rw [hk,List.range'_succ,List.flatMap_cons]
  congr 1
  show _=(List.range' (i+1) (t-r-(i+1))).flatMap _
  rw [show t-r-(i+1)=k by omega]
 ·rw [show t-r-i=0 by omega]
  have e:cM r (i+1) t=[]:=by
   cases r with
   | zero=>omega
   | succ r =>
    show (List.range' (i+1) (t-r-(i+1))).flatMap _=[]
    rw [show t-r-(i+1)=0 by omega];rfl
  rw [e]
  show []=[]++(List.range' (i+1) (t-r-(i+1))).flatMap _
  rw [show t-r-(i+1)=0 by omega];rfl
theorem rK (hN:1073741824≤N) {n:Nat} {atoms:List aY} (a4:atoms.length≤4):∀ (L:List (List Int)) (out o:bc) (c:Nat),(∀ l∈L,l.length=atoms.length)→Ok atoms.length c out→iQ N n atoms L out=some o→Ok atoms.length (c+L.length) o
 | [],out,o,c,_,ho,h=>by cases h;exact ho
 | l :: L,out,o,c,hl,ho,h=>by
  obtain ⟨o1,h1,h⟩:=ob (show (gU N n atoms out l).bind (iQ N n atoms L)=some o from h)
  have:=rK hN a4 L o1 o (c+1) (fun x hx=>hl x (List.mem_cons_of_mem _ hx)) (rr hN a4 (hl l (by simp)) ho h1) h
  rw [List.length_cons,show c+(L.length+1)=c+1+L.length by omega]
  exact this
theorem ub (hN:1073741824≤N) {n:Nat} {atoms:List aY} (n1:1≤n) (n5:n≤5) (a1:1≤atoms.length) (a4:atoms.length≤4):∀ (r f:Nat) (cs:List Int) (out o:bc) (c:Nat),cs.length+r=atoms.length→f≤n+atoms.length→(∀ v∈cs,0≤v∧v<(n+atoms.length:Nat))→Ok atoms.length c out→c+(cM r f (n+atoms.length)).length≤100000 →
  iQ N n atoms ((cM r f (n+atoms.length)).map fun l=>cs++l) out=some o →
  ce (N+1+r) (f:Int) cs (atoms.length:Int) (iu n atoms) (jT n atoms) (aN n atoms) (aA n) (aA atoms.length) 1 out=some o:=by
 intro r
 induction r with
 | zero =>
  intro f cs out o c hcl hf hcs ho hc h
  obtain ⟨o1,h1,h⟩:=ob (show (gU N n atoms out (cs++[])).bind (fun o=>some o)=some o from h)
  cases h
  rw [List.append_nil] at h1
  exact xg hN n1 n5 a1 a4 (by omega) hcs ho (by omega) h1
 | succ r ih =>
  intro f cs out o c hcl hf hcs ho hc h
  rw [show N+1+(r+1)=(N+1+r)+1 by omega,ce,decide_eq_true (by omega),cond_true]
  have key:∀ (d i fuel:Nat) (out o:bc) (c:Nat),i+d=n+atoms.length→d<fuel→Ok atoms.length c out→c+(cM (r+1) i (n+atoms.length)).length≤100000→iQ N n atoms ((cM (r+1) i (n+atoms.length)).map fun l=>cs++l) out=some o →
    eZ (ce (N+1+r)) (N+1+r) fuel cs (atoms.length:Int) (iu n atoms) (jT n atoms) (aN n atoms) (aA n) (aA atoms.length) 1 out (i:Int)=some (o,((n+atoms.length:Nat):Int)):=by
   intro d
   induction d with
   | zero =>
    intro i fuel out o c hi hf ho hc h
    obtain ⟨fuel,rfl⟩:∃ k',fuel=k'+1:=⟨fuel-1,by omega⟩
    rw [vw (by omega)] at h
    cases h
    rw [eZ,mI,decide_eq_false (by omega),cond_false,show (i:Int)=((n+atoms.length:Nat):Int) by omega]
   | succ d ihd =>
    intro i fuel out o c hi hf ho hc h
    obtain ⟨fuel,rfl⟩:∃ k',fuel=k'+1:=⟨fuel-1,by omega⟩
    rw [oH (by omega),List.map_append,pP,List.map_map] at h
    rw [oH (by omega),List.length_append,List.length_map] at hc
    obtain ⟨o1,h1,h⟩:=ob h
    have e:((fun l=>cs++l) ∘ fun l=>(i:Int) :: l)=fun l=>(cs++[(i:Int)])++l:=by
     funext l;simp
    rw [e] at h1
    have ho1:=rK hN a4 _ out o1 c (fun l hl=>by
     obtain ⟨l',hl',rfl⟩:=List.mem_map.1 hl
     rw [List.length_append,List.length_append,List.length_singleton,(jz hl').1];omega) ho h1
    rw [List.length_map] at ho1
    have g:=ih (i+1) (cs++[(i:Int)]) out o1 c (by rw [List.length_append,List.length_singleton];omega) (by omega) (fun v hv=>by
     rcases List.mem_append.1 hv with h | h
     ·exact hcs v h
     ·rw [List.mem_singleton.1 h];omega) ho (by omega) h1
    rw [eZ,mI,decide_eq_true (by omega),cond_true,ad1 (by omega),bs,yo (by omega),bs,bB (by decide) (by rw [List.length_singleton];omega),bs,g,bs,bs]
    exact ihd (i+1) fuel o1 o _ (by omega) (by omega) ho1 (by omega) h
  rw [key (n+atoms.length-f) f (N+1+r) out o c (by omega) (by omega) ho hc h,bs,lpB]
theorem yz (hN:1073741824≤N) {n:Nat} {atoms:List aY} (n1:1≤n) (n5:n≤5) (a1:1≤atoms.length) (a4:atoms.length≤4) {P:bc} (h:bU N (aN n atoms) (aA n) (aA atoms.length)=some P) :
  ∃ z,bm N N 1 (aN n atoms) (aA n) (aA atoms.length) [] (atoms.length:Int) (n:Int) (cM atoms.length 0 (n+atoms.length)) 0=some (P,z):=by
 have l1:(aA n).length=n:=by unfold aA;simp
 have l2:(aA atoms.length).length=atoms.length:=by unfold aA;simp
 have ep:dv N 0 ((n:Int)+(atoms.length:Int)) (atoms.length:Int)=some (cM atoms.length 0 (n+atoms.length)):=by
  rw [show ((n:Int)+(atoms.length:Int))=((n+atoms.length:Nat):Int) by omega]
  exact l9 atoms.length N 0 (n+atoms.length) a4 (by omega) (by omega) (by omega)
 unfold bU gw at h
 rw [oW hN n1 n5 a1 a4,bs,cond_true,l1,l2,bF (by omega) (by omega),bs,ep,bs] at h
 obtain ⟨q,g1,h2⟩:=ob h
 obtain ⟨s,g2,h3⟩:=ob g1
 obtain rfl:q=P:=Option.some.inj h2
 obtain ⟨s1,s2⟩:=s
 obtain rfl:s1=q:=Option.some.inj h3
 exact ⟨s2,g2⟩
theorem xV (hN:1073741824≤N) {n:Nat} {atoms:List aY} (n1:1≤n) (n5:n≤5) (a1:1≤atoms.length) (a4:atoms.length≤4) {P:bc} {z:Int} (h:bm N N 1 (aN n atoms) (aA n) (aA atoms.length) [] (atoms.length:Int) (n:Int) (cM atoms.length 0 (n+atoms.length)) 0=some (P,z)) :
  bU N (aN n atoms) (aA n) (aA atoms.length)=some P:=by
 have l1:(aA n).length=n:=by unfold aA;simp
 have l2:(aA atoms.length).length=atoms.length:=by unfold aA;simp
 have ep:dv N 0 ((n:Int)+(atoms.length:Int)) (atoms.length:Int)=some (cM atoms.length 0 (n+atoms.length)):=by
  rw [show ((n:Int)+(atoms.length:Int))=((n+atoms.length:Nat):Int) by omega]
  exact l9 atoms.length N 0 (n+atoms.length) a4 (by omega) (by omega) (by omega)
 unfold bU gw
 rw [oW hN n1 n5 a1 a4,bs,cond_true,l1,l2,bF (by omega) (by omega),bs,ep,bs,h,bs,lpB,bs]
theorem xc (hM:1073742848≤N) {n:Nat} {atoms:List aY} (n1:1≤n) (n5:n≤5) (a1:1≤atoms.length) (a4:atoms.length≤4) :
  ∃ P,bU N (aN n atoms) (aA n) (aA atoms.length)=some P∧iz N (aN n atoms) (aA n) (aA atoms.length) 1=some P:=by
 obtain ⟨K,rfl⟩:∃ K,N=K+1+atoms.length:=⟨N-1-atoms.length,by omega⟩
 have hK:1073741824≤K:=by omega
 obtain ⟨P,hP,_⟩:=tp hK (atoms:=atoms) n1 n5 a1 a4
 obtain ⟨z,hz⟩:=yz hK n1 n5 a1 a4 hP
 have hPl:=Nat.le_trans (kX atoms.length 0 (n+atoms.length)) (sA (by omega) a4)
 have hf:=uz hK n5 a4 (L:=cM atoms.length 0 (n+atoms.length)) (by omega) (fun l hl=>by
  obtain ⟨m1,m2⟩:=jz hl
  exact ⟨m1,fun v hv=>by have:=m2 v hv;omega⟩) _ 0 K [] (P,z) (Nat.zero_add _) ⟨Nat.le_refl _,fun _ h=>by cases h⟩ hz
 have hle:=lP (N:=K) (N':=K+1+atoms.length) (by omega) K (K+1+atoms.length) (by omega) _ _ _ _ _ _ _ _ _ _ hz
 refine ⟨P,xV (by omega) n1 n5 a1 a4 hle,?_⟩
 have l1:(aA n).length=n:=by unfold aA;simp
 have l2:(aA atoms.length).length=atoms.length:=by unfold aA;simp
 have hc:=ub hK n1 n5 a1 a4 atoms.length 0 [] [] P 0 (by simp) (by omega) (fun _ h=>by cases h) ⟨Nat.le_refl _,fun _ h=>by cases h⟩ (by omega) (by
  have e:(fun l:List Int=>([]:List Int)++l)=id:=by funext l;rfl
  rw [e,List.map_id];exact hf)
 rw [show ((0:Nat):Int)=0 from rfl] at hc
 unfold iz
 rw [bB (by decide) (by rw [cg];simp;omega),bs,q8 (by omega),bs,l2,List.nil_append,wj (by omega) n5 a4,bs,lpB]
 dsimp only
 rw [hc,bs]
theorem zo (hM:1073742848≤N) {n:Nat} {atoms:List aY} (n1:1≤n) (n5:n≤5) (a1:1≤atoms.length) (a4:atoms.length≤4):fg N (aN n atoms) (aA n) (aA atoms.length)=bU N (aN n atoms) (aA n) (aA atoms.length):=by
 obtain ⟨P,h1,h2⟩:=xc hM n1 n5 a1 a4
 unfold fg
 rw [sY (by omega) n1 n5 a1 a4,bs,cond_true,h2,h1,bs]
end
section
variable {N:Nat}
theorem zC {n:Nat} {atoms:List aY} {out:List Int} (hq:fS (n:Int) atoms out=true):∀ v,v<n→∃ j,j<atoms.length∧((v:Nat):Int)∈(gY atoms j).2:=fun v hv=>by
 unfold fS at hq
 simp only [Bool.and_eq_true] at hq
 have h:=hq.2
 unfold ju at h
 rw [List.all_eq_true] at h
 have h:=h v (by rw [List.mem_range'_1];simp;exact hv)
 rw [List.any_eq_true] at h
 obtain ⟨a,ha,h⟩:=h
 obtain ⟨j,hj,rfl⟩:=List.getElem_of_mem ha
 exact ⟨j,hj,by rw [pH hj];exact of_decide_eq_true h⟩
theorem z5 (hN:1073741824≤N) {n:Nat} {atoms:List aY} {out:List Int} (ha:eQ atoms) (ho:okI out) (hq:fS (n:Int) atoms out=true):gu N (n:Int) atoms out=some (i5 n):=by
 obtain ⟨_,n5,_,a4⟩:=kc hq
 have h:=gQ (fun k (o:List Int) i=>cF N k (n:Int) atoms out o i) n (fun i=>i5 i) (i5 n,(n:Int))
  (fun k i h=>by
   show cF N (k+1) (n:Int) atoms out (i5 i) (i:Int)=cF N k (n:Int) atoms out (i5 (i+1)) ((i+1:Nat):Int)
   rw [cF,dlt h,cond_true,bB (by decide) (by rw [nJ,List.length_singleton];omega),bs,ad1 (by omega),bs]
   unfold i5
   rw [List.range'_1_concat,List.map_append,Nat.zero_add];rfl)
  (fun k=>by
   show cF N (k+1) (n:Int) atoms out (i5 n) (n:Int)=_
   rw [cF,dge (by omega),cond_false]) N 0 (by omega) (by omega)
 have h':cF N N (n:Int) atoms out [] 0=some (i5 n,(n:Int)):=h
 unfold gu
 rw [gv hN ha ho,bs,hq,cond_true,h',bs,lpB]
theorem wd (hN:1073741824≤N) {n v:Int} {atoms:List aY} {out l:List Int} {a b:Int} {b1 b4:bc} {b2 b3 b5 b6:aX} (ha:eQ atoms) (h4:atoms.length≤1000) :
  dL N N n atoms out b1 b2 b3 b4 b5 b6 v [] l a b atoms (atoms.length:Int) 0=some (dx atoms v,(atoms.length:Int)) :=
 gQ (fun k (o:aX) i=>dL N k n atoms out b1 b2 b3 b4 b5 b6 v o l a b atoms (atoms.length:Int) i) atoms.length (fun i=>dx (atoms.take i) v) (dx atoms v,(atoms.length:Int))
  (fun k i h=>by
   show dL N (k+1) n atoms out b1 b2 b3 b4 b5 b6 v (dx (atoms.take i) v) l a b atoms (atoms.length:Int) (i:Int)=dL N k n atoms out b1 b2 b3 b4 b5 b6 v (dx (atoms.take (i+1)) v) l a b atoms (atoms.length:Int) ((i+1:Nat):Int)
   have hl:(dx (atoms.take i) v).length≤1000:=by unfold dx;rw [List.length_map,List.length_take];omega
   have e:dx (atoms.take (i+1)) v=dx (atoms.take i) v++[ic atoms[i] v]:=by
    unfold dx
    rw [List.take_succ_eq_append_getElem h,List.map_append];rfl
   rw [dL,dlt h,cond_true,aS h,bs,kN hN (qq ha h),bs,e]
   unfold ic jY
   cases decide (v∈atoms[i].2) with
   | true=>rw [cond_true,cond_true,bs,bB (by decide) (by rw [List.length_singleton];omega),bs,ad1 (by omega),bs]
   | false=>rw [cond_false,cond_false,bs,bB (by decide) (by rw [List.length_singleton];omega),bs,ad1 (by omega),bs])
  (fun k=>by
   show dL N (k+1) n atoms out b1 b2 b3 b4 b5 b6 v (dx (atoms.take atoms.length) v) l a b atoms (atoms.length:Int) (atoms.length:Int)=_
   rw [dL,dge (by omega),cond_false,List.take_length]) N 0 (by omega) (by omega)
theorem wk (hN:1073741824≤N) {n:Nat} (hn:n≤1000) {m:Int} {atoms:List aY} {out:List Int} {b1:bc} {b2 b3 b6:aX} (ha:eQ atoms) (h4:atoms.length≤1000) :
  dM N N m atoms out b1 b2 b3 [] [] b6 (i5 n) (n:Int) 0=some (aN n atoms,aA n,(n:Int)) :=
 gQ (fun k (o:bc × aX) i=>dM N k m atoms out b1 b2 b3 o.1 o.2 b6 (i5 n) (n:Int) i) n (fun i=>(aN i atoms,aA i)) (aN n atoms,aA n,(n:Int))
  (fun k i h=>by
   show dM N (k+1) m atoms out b1 b2 b3 (aN i atoms) (aA i) b6 (i5 n) (n:Int) (i:Int)=dM N k m atoms out b1 b2 b3 (aN (i+1) atoms) (aA (i+1)) b6 (i5 n) (n:Int) ((i+1:Nat):Int)
   have h1:(aN i atoms).length=i:=by unfold aN;simp
   have h2:(aA i).length=i:=by unfold aA;simp
   have ho:ix (i5 n) (i:Int)=some (i:Int):=by
    rw [aS (by rw [nJ];exact h)];unfold i5;simp
   rw [dM,dlt h,cond_true,ho,bs,wd hN ha h4,bs,lpB]
   dsimp only
   rw [bB (by decide) (by rw [List.length_singleton];omega),bs,bB (by decide) (by rw [List.length_singleton];omega),bs,ad1 (by omega),bs,pZ,kx])
  (fun k=>by
   show dM N (k+1) m atoms out b1 b2 b3 (aN n atoms) (aA n) b6 (i5 n) (n:Int) (n:Int)=_
   rw [dM,dge (by omega),cond_false]) N 0 (by omega) (by omega)
theorem wQ (hN:1073741824≤N) {c:Nat} (h4:c≤1000) {b1 b4:bc} {b2 b3 b5:aX} :
  dK N N b1 b2 b3 b4 b5 [] (c:Int) 0=some (aA c,(c:Int)) :=
 gQ (fun k (o:aX) i=>dK N k b1 b2 b3 b4 b5 o (c:Int) i) c (fun i=>aA i) (aA c,(c:Int))
  (fun k i h=>by
   show dK N (k+1) b1 b2 b3 b4 b5 (aA i) (c:Int) (i:Int)=dK N k b1 b2 b3 b4 b5 (aA (i+1)) (c:Int) ((i+1:Nat):Int)
   have h2:(aA i).length=i:=by unfold aA;simp
   rw [dK,dlt h,cond_true,bB (by decide) (by rw [List.length_singleton];omega),bs,ad1 (by omega),bs,kx])
  (fun k=>by
   show dK N (k+1) b1 b2 b3 b4 b5 (aA c) (c:Int) (c:Int)=_
   rw [dK,dge (by omega),cond_false]) N 0 (by omega) (by omega)
theorem nu (hN:1073741824≤N) {n:Nat} {atoms:List aY} {out:List Int} (ha:eQ atoms) (ho:okI out) (hq:fS (n:Int) atoms out=true) :
  gq N (n:Int) atoms out=some ((aN n atoms,aA n,aA atoms.length),true):=by
 obtain ⟨_,n5,_,a4⟩:=kc hq
 unfold gq
 rw [gv hN ha ho,bs,hq,cond_true,z5 hN ha ho hq,bs]
 unfold jE
 rw [nJ,wk hN (by omega) ha (by omega),bs,lpB]
 dsimp only
 rw [wQ hN (by omega),bs,lpB]
 rfl
theorem pQ (hN:1073741824≤N) {na e:Nat} {k:Nat→Nat} (hna:na≤1000) (hb:∀ i,i<na→k i*e≤1000000) :
  iE N ((List.range' 0 na).map fun i:Nat=>(k i:Int)) (e:Int)=some ((List.range' 0 na).map fun i:Nat=>((k i*e:Nat):Int)):=by
 have hl:((List.range' 0 na).map fun i:Nat=>(k i:Int)).length=na:=by simp
 have h:=gQ (fun f (o:List Int) i=>dZ N f (e:Int) o ((List.range' 0 na).map fun i:Nat=>(k i:Int)) (na:Int) i) na (fun i=>(List.range' 0 i).map fun i:Nat=>((k i*e:Nat):Int)) ((List.range' 0 na).map (fun i:Nat=>((k i*e:Nat):Int)),(na:Int))
  (fun f i h=>by
   show dZ N (f+1) (e:Int) ((List.range' 0 i).map fun i:Nat=>((k i*e:Nat):Int)) ((List.range' 0 na).map fun i:Nat=>(k i:Int)) (na:Int) (i:Int)=dZ N f (e:Int) ((List.range' 0 (i+1)).map fun i:Nat=>((k i*e:Nat):Int)) ((List.range' 0 na).map fun i:Nat=>(k i:Int)) (na:Int) ((i+1:Nat):Int)
   have hx:ix ((List.range' 0 na).map fun i:Nat=>(k i:Int)) (i:Int)=some (k i:Int):=by
    rw [aS (by rw [hl];exact h)];simp
   have hm:=hb i h
   have p:(k i:Int)*(e:Int)=((k i*e:Nat):Int):=(Int.natCast_mul ..).symm
   rw [dZ,dlt h,cond_true,hx,bs,eL (by rw [p];omega) (by rw [p];omega),bs,p,bB (by decide) (by simp;omega),bs,ad1 (by omega),bs,List.range'_1_concat,List.map_append,Nat.zero_add]
   rfl)
  (fun f=>by
   show dZ N (f+1) (e:Int) ((List.range' 0 na).map fun i:Nat=>((k i*e:Nat):Int)) ((List.range' 0 na).map fun i:Nat=>(k i:Int)) (na:Int) (na:Int)=_
   rw [dZ,dge (by omega),cond_false]) N 0 (by omega) (by omega)
 have h':dZ N N (e:Int) [] ((List.range' 0 na).map fun i:Nat=>(k i:Int)) (na:Int) 0=some ((List.range' 0 na).map (fun i:Nat=>((k i*e:Nat):Int)),(na:Int)):=h
 unfold iE
 rw [hl,h',bs,lpB]
theorem tk (hN:1073741824≤N) {x:aX} {v:List Int × Int} (hl:x.length≤1048576) (h:bY N x=some v):dV N x=some v:=by
 obtain ⟨w,e1,e2,_⟩:=st hN (rs:=x) hl
 rw [h] at e1
 rw [e2,Option.some.inj e1]
theorem vN (hN:1073741824≤N) {xs ks:List Int} {v:List Int × Bool} (hl:xs.length≤1048576) (hr:∀ v∈xs,v≤9223372036854775807) (h:cZ N xs ks=some v):dU N xs ks=some v:=by
 obtain ⟨w,e1,e2,_⟩:=ut hN (ks:=ks) hl hr
 rw [h] at e1
 rw [e2,Option.some.inj e1]
theorem vY (hN:1073741824≤N) {n:Nat} {atoms:List aY} (n5:n≤5) (a1:1≤atoms.length) (a4:atoms.length≤4) {s:Nat→Nat} (hs:∀ i,i<atoms.length→s i≤16) {x y:aX} (hx:gV N n atoms x) (hy:gV N n atoms y) :
  ∃ c,e8 N ((List.range' 0 atoms.length).map fun i:Nat=>(s i:Int)) x y=some (c,true)∧ff N ((List.range' 0 atoms.length).map fun i:Nat=>(s i:Int)) x y=some (c,true)∧-1≤c∧c≤1:=by
 obtain ⟨d,k,d1,d3,hk,ed,_⟩:=pF hN n5 a1 a4 hx
 obtain ⟨e,q,e1,e3,hq,ee,_⟩:=pF hN n5 a1 a4 hy
 have l1:∀ f:Nat→Nat,((List.range' 0 atoms.length).map fun i:Nat=>(f i:Int)).length=atoms.length:=fun f=>by simp
 obtain ⟨z,e4⟩:=wT hN (ss:=(List.range' 0 atoms.length).map fun i:Nat=>(s i:Int)) d3 e3 a4 hk hq atoms.length 0 N (by omega) (by omega)
 rw [qV,qV,qP,qP] at e4
 have e4':dg N N ((List.range' 0 atoms.length).map fun i:Nat=>(s i:Int)) ((List.range' 0 atoms.length).map fun i:Nat=>(k i:Int)) (d:Int) ((List.range' 0 atoms.length).map fun i:Nat=>(q i:Int)) (e:Int) 0=_:=e4
 have b1:∀ i,i<atoms.length→k i*e≤9:=fun i hi=>Nat.le_trans (Nat.mul_le_mul (hk i hi) e3) (by decide)
 have b2:∀ i,i<atoms.length→q i*d≤9:=fun i hi=>Nat.le_trans (Nat.mul_le_mul (hq i hi) d3) (by decide)
 obtain ⟨r1,f1,g1,c1,lr1,_⟩:=t7 hN a4 hs (k:=fun i=>k i*e) b1
 obtain ⟨r2,f2,g2,c2,lr2,_⟩:=t7 hN a4 hs (k:=fun i=>q i*d) b2
 obtain ⟨c,ec,h1,h2,h3⟩:=yN hN c1 c2 lr1 lr2
 obtain ⟨c',ec',ei⟩:=qk hN (a:=r1) (b:=r2) (by omega) (by omega)
 obtain rfl:c=c':=by rw [ec] at ec';exact Option.some.inj ec'
 have sb:∀ v∈((List.range' 0 atoms.length).map fun i:Nat=>(s i:Int)),v≤9223372036854775807:=fun v hv=>by
  obtain ⟨i,hi,rfl⟩:=List.mem_map.1 hv
  have:=hs i (by rw [List.mem_range'_1] at hi;omega)
  omega
 refine ⟨c,?_,?_,h2,h3⟩
 ·unfold e8
  rw [ed,bs,ee,bs]
  dsimp only
  rw [show ((d:Int) == 0)=false by rw [beq_eq_false_iff_ne];omega,cond_false,show ((e:Int) == 0)=false by rw [beq_eq_false_iff_ne];omega,cond_false,l1,l1,l1,show ((atoms.length:Int) != (atoms.length:Int))=false by rw [bne_eq_false_iff_eq],cond_false,cond_false,e4',bs,lpB]
  dsimp only
  rw [f1,bs,f2,bs]
  dsimp only
  rw [cond_true,cond_true,ec,bs]
 ·have xl:=hx.1.len
  have yl:=hy.1.len
  unfold ff
  rw [tk hN (by omega) ed,bs,tk hN (by omega) ee,bs]
  dsimp only
  rw [l1,show ((x.length:Int) != (atoms.length:Int))=false by rw [bne_eq_false_iff_eq];omega,cond_false,show ((y.length:Int) != (atoms.length:Int))=false by rw [bne_eq_false_iff_eq];omega,cond_false,show ((d:Int) == 0)=false by rw [beq_eq_false_iff_ne];omega,cond_false,show ((e:Int) == 0)=false by rw [beq_eq_false_iff_ne];omega,cond_false,pQ hN (by omega) (fun i hi=>Nat.le_trans (b1 i hi) (by decide)),bs,vN hN (by rw [l1];omega) sb f1,bs,pQ hN (by omega) (fun i hi=>Nat.le_trans (b2 i hi) (by decide)),bs,vN hN (by rw [l1];omega) sb f2,bs]
  dsimp only
  rw [cond_true,cond_true,ei,bs]
theorem yt {ss:List Int} {n:Int} {atoms:List aY} {out:List Int} {A:bc} {B C:aX}:∀ (fuel:Nat) (i:Int),gr N fuel ss n atoms out ss (ss.length:Int) i=cB N fuel ss A B C i:=by
 intro fuel
 induction fuel with
 | zero=>intros;rfl
 | succ fuel ih =>
  intro i
  rw [gr,cB]
  simp only [nz,ih]
theorem xM (hN:1073741824≤N) {ss:List Int} (hl:ss.length≤1000) {A:bc} {B C:aX}:∀ (c i fuel:Nat),i+c=ss.length→c<fuel→(∃ j,i≤j∧j<ss.length∧¬ (0≤ss.getD j 0∧ss.getD j 0≤16))→cB N fuel ss A B C (i:Int)=some (.inl ([],false)):=by
 intro c
 induction c with
 | zero=>intro i fuel hi hf ⟨j,h1,h2,_⟩;omega
 | succ c ih =>
  intro i fuel hi hf ⟨j,h1,h2,h3⟩
  obtain ⟨fuel,rfl⟩:∃ k',fuel=k'+1:=⟨fuel-1,by omega⟩
  rw [cB,decide_eq_true (by omega),cond_true,ixD (by omega),bs,d5,bs]
  by_cases hv:0≤ss.getD i 0∧ss.getD i 0≤16
  ·rw [show inR (ss.getD i 0) 0 16=true from cx.2 hv,cond_true,bF (by omega) (by omega),bs]
   have hij:i≠j:=fun e=>h3 (by rw [← e];exact hv)
   exact ih (i+1) fuel (by omega) (by omega) ⟨j,by omega,h2,h3⟩
  ·have:inR (ss.getD i 0) 0 16=false:=by
    cases h:inR (ss.getD i 0) 0 16 with
    | false=>rfl
    | true=>exact absurd (cx.1 h) hv
   rw [this,cond_false]
theorem y4 (hN:1073741824≤N) {n:Nat} {atoms:List aY} (n5:n≤5) (a1:1≤atoms.length) (a4:atoms.length≤4) {s:Nat→Nat} (hs:∀ i,i<atoms.length→s i≤16) {P:bc} (hP:∀ x∈P,gV N n atoms x) (hl:P.length≤100000):∀ (c i fuel:Nat) (x:aX),i+1+c=P.length→c<fuel→gV N n atoms x →
  ∃ x' z z',cS N fuel ((List.range' 0 atoms.length).map fun i:Nat=>(s i:Int)) P x ((i+1:Nat):Int)=some (x',z)∧cU N fuel ((List.range' 0 atoms.length).map fun i:Nat=>(s i:Int)) x (P.drop 1) ((P.drop 1).length:Int) (i:Int)=some (x',z')∧gV N n atoms x':=by
 intro c
 induction c with
 | zero =>
  intro i fuel x hi hf hx
  obtain ⟨fuel,rfl⟩:∃ k',fuel=k'+1:=⟨fuel-1,by omega⟩
  rw [cS,cU,decide_eq_false (by omega),cond_false,decide_eq_false (by rw [List.length_drop];omega),cond_false]
  exact ⟨x,_,_,rfl,rfl,hx⟩
 | succ c ih =>
  intro i fuel x hi hf hx
  obtain ⟨fuel,rfl⟩:∃ k',fuel=k'+1:=⟨fuel-1,by omega⟩
  have hil:i+1<P.length:=by omega
  have hm:aZ P (i+1)∈P:=by unfold aZ;simp [hil]
  have hd:ix (P.drop 1) (i:Int)=some (aZ P (i+1)):=by
   rw [aS (by rw [List.length_drop];omega),List.getElem_drop]
   unfold aZ;simp [hil,Nat.add_comm]
  obtain ⟨q,eq,ei,q1,q2⟩:=vY hN n5 a1 a4 hs (hP _ hm) hx
  have hS:cS N (fuel+1) ((List.range' 0 atoms.length).map fun i:Nat=>(s i:Int)) P x ((i+1:Nat):Int)=bif decide (q<0) then cS N fuel ((List.range' 0 atoms.length).map fun i:Nat=>(s i:Int)) P (aZ P (i+1)) ((i+1+1:Nat):Int) else cS N fuel ((List.range' 0 atoms.length).map fun i:Nat=>(s i:Int)) P x ((i+1+1:Nat):Int):=by
   rw [cS,decide_eq_true (by omega),cond_true,ixM hil,bs,eq,bs]
   dsimp only
   cases decide (q<0) with
   | true=>rw [cond_true,cond_true,bs,ad1 (by omega),bs]
   | false=>rw [cond_false,cond_false,ad1 (by omega),bs]
  have hdl:decide ((i:Int)<((P.drop 1).length:Int))=true:=decide_eq_true (by rw [List.length_drop];omega)
  have hI:cU N (fuel+1) ((List.range' 0 atoms.length).map fun i:Nat=>(s i:Int)) x (P.drop 1) ((P.drop 1).length:Int) (i:Int)=bif (q == -1) then cU N fuel ((List.range' 0 atoms.length).map fun i:Nat=>(s i:Int)) (aZ P (i+1)) (P.drop 1) ((P.drop 1).length:Int) ((i+1:Nat):Int) else cU N fuel ((List.range' 0 atoms.length).map fun i:Nat=>(s i:Int)) x (P.drop 1) ((P.drop 1).length:Int) ((i+1:Nat):Int):=by
   rw [cU,hdl,cond_true,hd,bs,ei,bs]
   dsimp only
   cases (q == -1) with
   | true=>rw [cond_true,cond_true,ad1 (by omega),bs]
   | false=>rw [cond_false,cond_false,ad1 (by omega),bs]
  rw [hS,hI]
  by_cases hc:q<0
  ·rw [decide_eq_true hc,cond_true,show (q == -1)=true by rw [beq_iff_eq];omega,cond_true]
   exact ih (i+1) fuel _ (by omega) (by omega) (hP _ hm)
  ·rw [decide_eq_false hc,cond_false,show (q == -1)=false by rw [beq_eq_false_iff_ne];omega,cond_false]
   exact ih (i+1) fuel x (by omega) (by omega) hx
theorem pi (hM:1073742848≤N) {n:Int} {atoms:List aY} {out ss:List Int} (ha:eQ atoms) (ho:okI out):∃ r:aX × Bool,fP N n atoms out ss=some r∧eY N n atoms out ss=some r∧(r=([],false)∨∃ n':Nat,n=(n':Int)∧r.2=true∧gV N n' atoms r.1∧fS n atoms out=true∧ss.length=atoms.length∧∀ v∈ss,0≤v∧v≤16):=by
 have hN:1073741824≤N:=by omega
 cases hq:fS n atoms out with
 | false =>
  refine ⟨([],false),?_,?_,.inl rfl⟩
  ·unfold fP fv
   rw [jG hN ha ho,bs,hq,cond_false];rfl
  ·unfold eY
   rw [gv hN ha ho,bs,hq,cond_false]
 | true =>
  obtain ⟨n1,n5,a1,a4⟩:=kc hq
  obtain ⟨n,rfl⟩:=Int.eq_ofNat_of_zero_le (show 0≤n by omega)
  have n1:1≤n:=by omega
  have n5:n≤5:=by omega
  have a1:1≤atoms.length:=by omega
  have a4:atoms.length≤4:=by omega
  unfold fP eY
  rw [gv hN ha ho,bs,hq,cond_true,oQ hN ha ho hq,bs,nu hN ha ho hq]
  dsimp only
  rw [cond_true]
  by_cases hl:ss.length=atoms.length
  ·rw [show ((ss.length:Int) != (atoms.length:Int))=false by rw [bne_eq_false_iff_eq];omega,cond_false,cond_false,yt (A:=aN n atoms) (B:=aA n) (C:=aA atoms.length)]
   by_cases hv:∀ v∈ss,0≤v∧v≤16
   ·obtain ⟨z0,hb⟩:=zt hN (ss:=ss) (by omega) hv (A:=aN n atoms) (B:=aA n) (C:=aA atoms.length) ss.length 0 N (by omega) (by omega)
    obtain ⟨s,hs,es⟩:=xZ hv
    rw [hl] at hs es
    obtain ⟨P,eP,hPl,hP,hne⟩:=tp hN n1 n5 a1 a4
    have hne:=hne (uI hN n1 n5 a1 a4 (zC hq))
    have h0:0<P.length:=List.length_pos_iff.2 hne
    have hm:aZ P 0∈P:=by unfold aZ;simp [h0]
    obtain ⟨x,z,z',e1,e2,hpx⟩:=y4 hN n5 a1 a4 hs hP hPl (P.length-1) 0 N (aZ P 0) (by omega) (by omega) (hP _ hm)
    have hb':cB N N ss (aN n atoms) (aA n) (aA atoms.length) 0=some (.inr z0):=hb
    have i0:ix P 0=some (aZ P 0):=ixM (i:=0) h0
    have hsl:slc P 1 (P.length:Int)=some (P.drop 1):=by
     unfold slc
     rw [if_pos (by omega)]
     simp
    have e1':cS N N ss P (aZ P 0) 1=some (x,z):=by rw [es];exact e1
    have e2':cU N N ss (aZ P 0) (P.drop 1) ((P.drop 1).length:Int) 0=some (x,z'):=by rw [es];exact e2
    refine ⟨(x,true),?_,?_,.inr ⟨n,rfl,rfl,hpx,rfl,hl,hv⟩⟩
    ·rw [hb',bs,gm,eP,bs,i0,bs,e1',bs,lpB]
    ·rw [hb',bs,gm,bs]
     dsimp only
     rw [zo hM n1 n5 a1 a4,eP,bs,show ((P.length:Int) == 0)=false by rw [beq_eq_false_iff_ne];omega,cond_false,i0,bs,hsl,bs,e2',bs,lpB]
   ·obtain ⟨v,hv1,hv2⟩:∃ v∈ss,¬ (0≤v∧v≤16):=Classical.byContradiction fun h=>hv fun v hv=>Classical.byContradiction fun h2=>h ⟨v,hv,h2⟩
    obtain ⟨j,hj,rfl⟩:=List.getElem_of_mem hv1
    have hb:=xM hN (ss:=ss) (by omega) (A:=aN n atoms) (B:=aA n) (C:=aA atoms.length) ss.length 0 N (by omega) (by omega) ⟨j,Nat.zero_le _,hj,by rw [fw hj];exact hv2⟩
    have hb':cB N N ss (aN n atoms) (aA n) (aA atoms.length) 0=_:=hb
    rw [hb',bs]
    exact ⟨_,rfl,rfl,.inl rfl⟩
  ·rw [show ((ss.length:Int) != (atoms.length:Int))=true by rw [bne_iff_ne];omega,cond_true,cond_true]
   exact ⟨_,rfl,rfl,.inl rfl⟩
end
theorem pq {N:Nat} (hM:1073742848≤N) (n:Int) {atoms:List aY} {out:List Int} (ss:List Int) (ha:eQ atoms) (ho:okI out):∃ v:aX × Bool,fP N n atoms out ss=some v∧eY N n atoms out ss=some v∧v.1.length≤1048576:=by
 obtain ⟨r,h1,h2,h3⟩:=pi hM (n:=n) (ss:=ss) ha ho
 refine ⟨r,h1,h2,?_⟩
 rcases h3 with rfl | ⟨n',_,_,hp,hq,_,_⟩
 ·exact Nat.zero_le _
 ·obtain ⟨_,_,_,a4⟩:=kc hq
  have:=hp.1.len
  omega
theorem me {N:Nat} (hM:1073742848≤N) {x0:Int × List (ByteArray × List Int) × List Int} (hb0:(fun x=>(bC (fun x=>(fun s=>s.size≤9223372036854775807) x.1∧(bC (fun _=>True) 9223372036854775807) x.2) 9223372036854775807) x.2.1∧(bC (fun _=>True) 9223372036854775807) x.2.2) x0) {x1:List Int} (hb1:(bC (fun _=>True) 9223372036854775807) x1):f9 N x0.1 x0.2.1 x0.2.2 x1=some true:=by
 have hN:1073741824≤N:=by omega
 unfold f9
 by_cases hc1:(1048576:Int)<(x1.length:Int)
 ·rw [decide_eq_true hc1];rfl
 rw [decide_eq_false hc1,cond_false]
 have o1:bC (fun _=>True) 1048576 x1:=⟨by omega,fun _ _=>trivial⟩
 obtain ⟨r0,e0,k0⟩:=vz hN hb0 (l:=1048576) (by omega) (by omega)
 rw [e0,bs]
 by_cases hr0:r0<0
 ·rw [decide_eq_true hr0];rfl
 rw [decide_eq_false hr0,cond_false]
 obtain ⟨o0,m0⟩:=k0 (by omega)
 obtain ⟨vv,hspec,himpl⟩:=pq hM x0.1 x1 o0.1 o0.2
 obtain ⟨m0,me0,ma0,mb0⟩:=vH hN o0 (k:=1) (by omega) (by omega)
 obtain ⟨m1,me1,ma1,mb1⟩:=pA hN o1 (k:=m0.1) (by omega) (by omega)
 have hok0:=(show bC (fun _=>True) 1048576 vv.1 from ⟨himpl.2,fun _ _=>trivial⟩)
 obtain ⟨q0,qe0,qa0,qb0,qd0⟩:=ql (x:=(vv).1) hN hok0 (k:=1) (by omega) (by omega)
 simp only [uL hN o0,vI hN o0 o0,px hN o1,o6 hN o1 o1,qX (x:=(vv).1) (y:=(vv).1) hN hok0 hok0,me0,me1,qe0,qd0,decide_eq_false (by omega:¬ m0.1<0),decide_eq_false (by omega:¬ m1.1<0),decide_eq_false (by omega:¬ q0.1<0),bs,hspec,himpl,bne_self_eq_false,cond_false,cond_true,decide_true,lA]
section
variable {P:Program} {n:Nat} {Q Q':Exit→Env→World→Prop} {K:Env→World→Prop} {KQ:Env→Prop} {e:Env} {w w0:World} {c y:Code} {x:Exit} {ops:Array Oper} {rest:List Oper}
variable {d:Nat} {op:Op} {ty:TypeId} {pos:String} {af:Array Edge} {o z1 z2 z3:Operand} {v:Value} {q1:Oper}
def RdF {α:Type} (w0 W:World) (F:List Nat) (R:Rep α) (cs:List Value) (x:α):Prop:=R.rd w0 cs x∨∃ f,R.own W cs x f∧∀ b∈f,b∈F
theorem RdF.up {α:Type} {R:Rep α} {W W':World} {F F':List Nat} {cs:List Value} {x:α} (h:RdF w0 W F R cs x) (he:∀ b∈F,W'.heap[b]? = W.heap[b]?) (hs:∀ b∈F,b∈F'):RdF w0 W' F' R cs x:=by
 rcases h with h | ⟨f,h1,h2⟩
 ·exact .inl h
 ·exact .inr ⟨f,R.own_ext h1 (fun b hb=>he b (h2 b hb)),fun b hb=>hs b (h2 b hb)⟩
theorem dt {p:Prop} [Decidable p] (h:decide p=true:=by rfl):p:=of_decide_eq_true h
theorem oB {α β:Type} {C:Prop} {o:Option α} {f:α→Option β} {r:β} (h:o.bind f=some r) (k:∀ x,o=some x→f x=some r→C):C:=by
 obtain ⟨x,h1,h2⟩:=ob h
 exact k x h1 h2
theorem oF {α:Type} {C:Prop} {c:Bool} {x y:Option α} {r:α} (h:(bif c then x else y)=some r) (k1:c=true→x=some r→C) (k2:c=false→y=some r→C):C:=by
 rcases oif h with ⟨h1,h2⟩ | ⟨h1,h2⟩
 ·exact k1 h1 h2
 ·exact k2 h1 h2
theorem oI {α:Type} {a b:α} (h:some a=some b):a=b:=Option.some.inj h
theorem nn {α:Type} {x:α} (h:none=some x):False:=nomatch h
theorem cR {α:Type} {a b:α} (h:a=b) (f:α→Value):Ending.returned (f a)=Ending.returned (f b):=by rw [h]
theorem sP {α:Type} {a b:α} (h:a=b) (f:α→List Asn) (S:Sat w0 w (f a)):Sat w0 w (f b):=by rw [← h];exact S
theorem nL {f:FuncId} {g:Operand} {args:Array Operand} {tys:Array TypeId} {cap vals:Array Value} {R:Ending→World→Prop} (hf:ev e g=.func (.func f) #[] cap) (hg:Goes P f) (hc:Calls P f vals w R) (hv:(args.toList.map (ev e)).toArray++cap=vals) (hd:d<n)
  (hK:∀ x w',R x w'→∃ v,x=.returned v∧EL P n ops K rest (upd e d v) w'):EL P n ops K (⟨some d,.call ⟨.value g,args,tys⟩,ty,pos,af,none⟩ :: rest) e w:=by
 intro a ha
 refine wpList_plain rfl fun K' hK'=>?_
 unfold Oper.wp execOp
 have he:args.map (ev e)++cap=vals:=by
  rw [← hv]
  congr 1
  apply Array.ext';simp
 simp only [ha.eval,resolve,hf,Deferred.ofValue,Sem.run_bind,Sem.run_pure,Result.andThen_ok,Array.empty_append,he,invoke,hg.run,Oper.upon_enter]
 refine hc.mono fun x w' hx=>?_
 obtain ⟨v,rfl,h⟩:=hK x w' hx
 exact hK' _ _ (h _ (ha.put hd v))
theorem u9 {l cap:List Value} {X:Array Value} (h:X=l.toArray):X++cap.toArray=(l++cap).toArray:=by rw [h];simp
theorem ri {fn:Fn} {cap:Array Operand} {vs:Array Value} {D:Option Nat} (hc:(cap.toList.map (ev e)).toArray=vs):PV P ⟨D,.makeFunc fn #[] cap,ty,pos,af,none⟩ e w (.func fn #[] vs):=fun w' _=>by
 have he:cap.map (ev e)=vs:=by
  rw [← hc]
  apply Array.ext';simp
 unfold execOp
 simp [Instr.makeFunc,he]
abbrev pt (b o:Nat):Value:=.pointer (some ⟨b,o,none⟩)
theorem sg (h:∀ Q':Exit→Env→World→Prop,(∀ x e w,thn (fun e w=>CW P n y Q e w) Q x e w→Q' x e w)→CW P n c Q' e w):CW P n (.seq c y) Q e w:=tj (ov h)
theorem sR {id:Nat} {l:List Oper} (h:∀ Q':Exit→Env→World→Prop,(∀ x e w,thn (fun e w=>CW P n y Q e w) Q x e w→Q' x e w)→EL P n l.toArray (fun e w=>Q' .normal e w) l e w):CW P n (.seq (.region id l.toArray false) y) Q e w:=tj (ov fun Q' q=>ac (h Q' q))
theorem gn (h:∀ Q':Exit→Env→World→Prop,(∀ x e w,Q x e w→Q' x e w)→CW P n c Q' e w):CW P n c Q e w:=ov h
theorem bg {i:Nat} (h:∀ Q':Exit→Env→World→Prop,(∀ x e w,inb i Q x e w→Q' x e w)→CW P n c Q' e w):CW P n (.block i c) Q e w:=uA (ov h)
theorem hq {f:Exit→Env→World→Prop} (h:∀ x e w,f x e w→Q' x e w) (k:f x e w):Q' x e w:=h _ _ _ k
theorem tn (h:∀ x e w,thn K Q x e w→Q' x e w) (k:K e w):Q' .normal e w:=h _ _ _ k
theorem tr (h:∀ x e w,thn K Q x e w→Q' x e w) (k:Q .ret e w):Q' .ret e w:=h _ _ _ k
theorem tx {i:Nat} (h:∀ x e w,thn K Q x e w→Q' x e w) (k:Q (.exit i) e w):Q' (.exit i) e w:=h _ _ _ k
theorem bn {i:Nat} (h:∀ x e w,inb i Q x e w→Q' x e w) (k:Q .normal e w):Q' .normal e w:=h _ _ _ k
theorem br {i:Nat} (h:∀ x e w,inb i Q x e w→Q' x e w) (k:Q .ret e w):Q' .ret e w:=h _ _ _ k
theorem bS {i:Nat} (h:∀ x e w,inb i Q x e w→Q' x e w) (k:Q .normal e w):Q' (.exit i) e w:=h _ _ _ (zl k)
theorem en (h:∀ x e w,thn K Q x e w→Q' x e w) (k:K e w):EL P n ops (fun e w=>Q' .normal e w) [] e w:=ah (h _ _ _ k)
theorem sn (h:∀ x e w,thn K Q x e w→Q' x e w) (k:K e w):CW P n .skip Q' e w:=bl (h _ _ _ k)
theorem pa (v:Value) (hK:EL P n ops K rest (upd e d v) w) (hx:ev e o=v:=by exact rfl) (hd:d<n:=by decide):EL P n ops K (⟨some d,.assign o,ty,pos,af,none⟩ :: rest) e w:=kq (gX hx) hd hK
theorem pm (v:Value) (hK:EL P n ops K rest (upd e d v) w) (hx:ev e o=v:=by exact rfl) (hd:d<n:=by decide):EL P n ops K (⟨some d,.move o,ty,pos,af,none⟩ :: rest) e w:=kq (aq hx) hd hK
theorem pM (v:Value) (hx:ev e o=v) (hK:EL P n ops K rest (upd e d v) w) (hd:d<n:=by decide):EL P n ops K (⟨some d,.move o,ty,pos,af,none⟩ :: rest) e w:=kq (aq hx) hd hK
theorem pe (v:Value) (hp:PV P ⟨some d,op,ty,pos,af,none⟩ e w v) (hK:EL P n ops K rest (upd e d v) w) (hd:d<n:=by decide):EL P n ops K (⟨some d,op,ty,pos,af,none⟩ :: rest) e w:=kq hp hd hK
theorem qe (v:Value) (hp:PV P ⟨some d,op,ty,pos,af,none⟩ e w v) (hK:QL P n ops w KQ rest (upd e d v)) (hd:d<n:=by decide):QL P n ops w KQ (⟨some d,op,ty,pos,af,none⟩ :: rest) e:=oX hp hd hK
theorem qm (v:Value) (hK:QL P n ops w KQ rest (upd e d v)) (hx:ev e o=v:=by exact rfl) (hd:d<n:=by decide):QL P n ops w KQ (⟨some d,.move o,ty,pos,af,none⟩ :: rest) e:=oX (aq hx) hd hK
theorem qM (v:Value) (hx:ev e o=v) (hK:QL P n ops w KQ rest (upd e d v)) (hd:d<n:=by decide):QL P n ops w KQ (⟨some d,.move o,ty,pos,af,none⟩ :: rest) e:=oX (aq hx) hd hK
theorem eo {j:Nat} {b b' c:Bool} (hc:c=b) (hK:EL P n ops K rest (upd e d undef) w) (h:yld ops e j=some c:=by exact rfl) (hb:(b == b')=false:=by exact rfl) (hd:d<n:=by decide):EL P n ops K (⟨some d,op,ty,pos,af,some (j,b')⟩ :: rest) e w:=yP h hc hb hd hK
theorem qo {j:Nat} {b b' c:Bool} (hc:c=b) (hK:QL P n ops w KQ rest (upd e d undef)) (h:yld ops e j=some c:=by exact rfl) (hb:(b == b')=false:=by exact rfl) (hd:d<n:=by decide):QL P n ops w KQ (⟨some d,op,ty,pos,af,some (j,b')⟩ :: rest) e:=xE h hc hb hd hK
theorem ei {j:Nat} {b c:Bool} {dst:Option Nat} (hc:c=b) (hK:EL P n ops K (⟨dst,op,ty,pos,af,none⟩ :: rest) e w) (h:yld ops e j=some c:=by exact rfl):EL P n ops K (⟨dst,op,ty,pos,af,some (j,b)⟩ :: rest) e w:=zd h hc hK
theorem qi {j:Nat} {b c:Bool} {dst:Option Nat} (hc:c=b) (hK:QL P n ops w KQ (⟨dst,op,ty,pos,af,none⟩ :: rest) e) (h:yld ops e j=some c:=by exact rfl):QL P n ops w KQ (⟨dst,op,ty,pos,af,some (j,b)⟩ :: rest) e:=zy h hc hK
theorem ct {b:Bool} (hb:b=true) (h:CW P n c Q e w) (hc:ev e o=.bool b:=by exact rfl):CW P n (.cond o c y) Q e w:=t8 hc hb h
theorem cf {b:Bool} (hb:b=false) (h:CW P n y Q e w) (hc:ev e o=.bool b:=by exact rfl):CW P n (.cond o c y) Q e w:=tE hc hb h
theorem rB {a b:Bool} {Γ:List Asn} (h:some a=some b) (hS:Sat w0 w Γ):Ending.returned (.bool a)=.returned (.bool b)∧Ext w0 w:=⟨by rw [Option.some.inj h],hS.below⟩
theorem rI {a b:Int} {Γ:List Asn} (h:some a=some b) (hS:Sat w0 w Γ):Ending.returned (.int .i64 a)=.returned (.int .i64 b)∧Ext w0 w:=⟨by rw [Option.some.inj h],hS.below⟩
abbrev i_ (x:Int):Value:=.int .i64 x
abbrev n_:Value:=.slice none 0 0
theorem ec0 {f:FuncId} {args:Array Operand} {tys:Array TypeId} {vals:Array Value} {Γ:List Asn} (hg:Goes P f) (hc:Calls P f vals w fun x w'=>x=.returned v∧Ext w w') (hv:(args.toList.map (ev e)).toArray=vals) (S:Sat w0 w Γ)
  (hK:∀ w',Ext w w'→Sat w0 w' Γ→EL P n ops K rest (upd e d v) w') (hd:d<n:=by decide):EL P n ops K (⟨some d,.call ⟨.value (.func f),args,tys⟩,ty,pos,af,none⟩ :: rest) e w :=
 dC hg hc hv hd (by rintro _ w' ⟨rfl,hx⟩;exact ⟨_,rfl,hK w' hx (S.ext hx)⟩)
theorem ec1 {f:FuncId} {args:Array Operand} {tys:Array TypeId} {vals:Array Value} {Γ:List Asn} {G:Value→Value} {A:Value→Asn} (hg:Goes P f) (hc:Calls P f vals w fun x w'=>∃ v,x=.returned (G v)∧Sat w w' [A v]) (hv:(args.toList.map (ev e)).toArray=vals) (S:Sat w0 w Γ)
  (hK:∀ w' v,Ext w w'→Sat w0 w' (A v :: Γ)→EL P n ops K rest (upd e d (G v)) w') (hd:d<n:=by decide):EL P n ops K (⟨some d,.call ⟨.value (.func f),args,tys⟩,ty,pos,af,none⟩ :: rest) e w :=
 dC hg hc hv hd (by rintro _ w' ⟨v,rfl,S'⟩;exact ⟨_,rfl,hK w' v S'.below (S.call1 S')⟩)
theorem aO {X:List Nat} {C:World→Prop} (i:Nat) {f:Nat} {L:Array Bool} (ho:ops[i]? = some q1)
  (h:EL P n ops (fun e' w'=>(X.contains i=true→C w')∧AL P n ops X C K f (L.setIfInBounds i true) e' w') [q1] e w) (hr:Region.ready .any ops L=[i]:=by kernel_rfl):AL P n ops X C K (f+1) L e w:=y9 i hr ho h
theorem aP {X:List Nat} {C:World→Prop} (v:Value) (i:Nat) {f:Nat} {L:Array Bool} (hi:ops[i]? = some q1) (hdst:q1.dst=some d) (hC:C w)
  (hy:SV P n ops C q1 e v) (hK:AL P n ops X C K f (L.setIfInBounds i true) (upd e d v) w) (hsel:jl ops=true:=by kernel_rfl) (hdn:d<n:=by decide) (hf:l7 ops X L i q1=true:=by kernel_rfl) (hr:(Region.ready .any ops L).contains i=true:=by kernel_rfl):AL P n ops X C K (f+1) L e w:=uN hsel i hi hdst hdn hC hf hr hy hK
theorem ca {α β:Type} {f:α→β} {l:List α} {m:List β} (h:l.map f=m):(l.map f).toArray=m.toArray:=congrArg List.toArray h
theorem Sat.t1 {a0 a1:Asn} {Γ:List Asn} (h:Sat w0 w (a0 :: a1 :: Γ)):Sat w0 w (a1 :: a0 :: Γ):=h.top 1 rfl
theorem Sat.t2 {a0 a1 a2:Asn} {Γ:List Asn} (h:Sat w0 w (a0 :: a1 :: a2 :: Γ)):Sat w0 w (a2 :: a0 :: a1 :: Γ):=h.top 2 rfl
theorem Sat.t3 {a0 a1 a2 a3:Asn} {Γ:List Asn} (h:Sat w0 w (a0 :: a1 :: a2 :: a3 :: Γ)):Sat w0 w (a3 :: a0 :: a1 :: a2 :: Γ):=h.top 3 rfl
theorem Sat.t4 {a0 a1 a2 a3 a4:Asn} {Γ:List Asn} (h:Sat w0 w (a0 :: a1 :: a2 :: a3 :: a4 :: Γ)):Sat w0 w (a4 :: a0 :: a1 :: a2 :: a3 :: Γ):=h.top 4 rfl
theorem Sat.t5 {a0 a1 a2 a3 a4 a5:Asn} {Γ:List Asn} (h:Sat w0 w (a0 :: a1 :: a2 :: a3 :: a4 :: a5 :: Γ)):Sat w0 w (a5 :: a0 :: a1 :: a2 :: a3 :: a4 :: Γ):=h.top 5 rfl
theorem Sat.t6 {a0 a1 a2 a3 a4 a5 a6:Asn} {Γ:List Asn} (h:Sat w0 w (a0 :: a1 :: a2 :: a3 :: a4 :: a5 :: a6 :: Γ)):Sat w0 w (a6 :: a0 :: a1 :: a2 :: a3 :: a4 :: a5 :: Γ):=h.top 6 rfl
theorem Sat.r0 {a0:Asn} {Γ:List Asn} (h:Sat w0 w (a0 :: Γ)):Sat w0 w (Γ):=h.rem 0 rfl
theorem Sat.r1 {a0 a1:Asn} {Γ:List Asn} (h:Sat w0 w (a0 :: a1 :: Γ)):Sat w0 w (a0 :: Γ):=h.rem 1 rfl
theorem Sat.r2 {a0 a1 a2:Asn} {Γ:List Asn} (h:Sat w0 w (a0 :: a1 :: a2 :: Γ)):Sat w0 w (a0 :: a1 :: Γ):=h.rem 2 rfl
theorem Sat.r3 {a0 a1 a2 a3:Asn} {Γ:List Asn} (h:Sat w0 w (a0 :: a1 :: a2 :: a3 :: Γ)):Sat w0 w (a0 :: a1 :: a2 :: Γ):=h.rem 3 rfl
theorem Sat.r4 {a0 a1 a2 a3 a4:Asn} {Γ:List Asn} (h:Sat w0 w (a0 :: a1 :: a2 :: a3 :: a4 :: Γ)):Sat w0 w (a0 :: a1 :: a2 :: a3 :: Γ):=h.rem 4 rfl
theorem Sat.r5 {a0 a1 a2 a3 a4 a5:Asn} {Γ:List Asn} (h:Sat w0 w (a0 :: a1 :: a2 :: a3 :: a4 :: a5 :: Γ)):Sat w0 w (a0 :: a1 :: a2 :: a3 :: a4 :: Γ):=h.rem 5 rfl
theorem Sat.r6 {a0 a1 a2 a3 a4 a5 a6:Asn} {Γ:List Asn} (h:Sat w0 w (a0 :: a1 :: a2 :: a3 :: a4 :: a5 :: a6 :: Γ)):Sat w0 w (a0 :: a1 :: a2 :: a3 :: a4 :: a5 :: Γ):=h.rem 6 rfl
theorem Sat.r7 {a0 a1 a2 a3 a4 a5 a6 a7:Asn} {Γ:List Asn} (h:Sat w0 w (a0 :: a1 :: a2 :: a3 :: a4 :: a5 :: a6 :: a7 :: Γ)):Sat w0 w (a0 :: a1 :: a2 :: a3 :: a4 :: a5 :: a6 :: Γ):=h.rem 7 rfl
theorem Sat.r8 {a0 a1 a2 a3 a4 a5 a6 a7 a8:Asn} {Γ:List Asn} (h:Sat w0 w (a0 :: a1 :: a2 :: a3 :: a4 :: a5 :: a6 :: a7 :: a8 :: Γ)):Sat w0 w (a0 :: a1 :: a2 :: a3 :: a4 :: a5 :: a6 :: a7 :: Γ):=h.rem 8 rfl
end
theorem rP {α:Type} {R:Rep α} {w:World} (hsz:R.sz=1):∀ {xs:List α} {ccs:List Value} {f:List Nat},eI R w ccs xs f→∃ ts:List (Value × α × List Nat),ccs=ts.map (·.1)∧xs=ts.map (·.2.1)∧f=(ts.map (·.2.2)).flatten∧∀ t∈ts,R.own w [t.1] t.2.1 t.2.2
 | [],_,_,h=>by
  obtain ⟨rfl,rfl⟩:=h
  exact ⟨[],rfl,rfl,rfl,by simp⟩
 | x :: xs,_,_,h=>by
  obtain ⟨ec,rest,f1,f2,rfl,rfl,h1,h2⟩:=h
  obtain ⟨ts,rfl,rfl,rfl,h3⟩:=rP hsz h2
  have hl:=R.rd_len (R.own_rd h1)
  rw [hsz] at hl
  obtain ⟨c,rfl⟩:=List.length_eq_one_iff.1 hl
  refine ⟨(c,x,f1) :: ts,rfl,rfl,rfl,fun t ht=>?_⟩
  rcases List.mem_cons.1 ht with rfl | ht
  ·exact h1
  ·exact h3 t ht
theorem ry {α:Type} {R:Rep α} {w:World}:∀ {ts:List (Value × α × List Nat)},(∀ t∈ts,R.own w [t.1] t.2.1 t.2.2)→eI R w (ts.map (·.1)) (ts.map (·.2.1)) (ts.map (·.2.2)).flatten
 | [],_=>⟨rfl,rfl⟩
 | t :: _,h=>⟨[t.1],_,t.2.2,_,rfl,rfl,h t List.mem_cons_self,ry fun u hu=>h u (List.mem_cons_of_mem _ hu)⟩
theorem tM {α:Type} {R:Rep α} {w:World} (hsz:R.sz=1) {xs:List α} {ccs:List Value} {f:List Nat} (h:eI R w ccs xs f) {k p:Nat} (hk:k<xs.length) (hp:p<xs.length) {a b:Value} (ha:ccs[k]? = some a) (hb:ccs[p]? = some b) :
  ∃ f',f'.Perm f∧eI R w ((ccs.set k b).set p a) ((xs.set k xs[p]).set p xs[k]) f':=by
 obtain ⟨ts,rfl,rfl,rfl,h3⟩:=rP hsz h
 rw [List.length_map] at hk hp
 rw [List.getElem?_map,List.getElem?_eq_getElem hk] at ha
 rw [List.getElem?_map,List.getElem?_eq_getElem hp] at hb
 have ha:ts[k].1=a:=Option.some.inj ha
 have hb:ts[p].1=b:=Option.some.inj hb
 have hpm:=List.set_set_perm hk hp
 refine ⟨(((ts.set k ts[p]).set p ts[k]).map (·.2.2)).flatten,(hpm.map _).flatten,?_⟩
 have:=ry (R:=R) (w:=w) (ts:=(ts.set k ts[p]).set p ts[k]) fun t ht=>h3 t (hpm.mem_iff.1 ht)
 rw [List.map_set,List.map_set,List.map_set,List.map_set,ha,hb] at this
 rw [List.getElem_map,List.getElem_map]
 exact this
def nR {α:Type} (R:Rep α) (E:TypeId) (v:Value) (ys:List α) (p:Nat) (c:Value):Asn where
 holds w fp:=∃ g cap cur f2,v=.slice (some ⟨g,0,none⟩) ys.length cap∧w.heap[g]? = some (.cells cur E (0,0))∧ys.length≤cap∧cap≤maxLen∧cur.size=cap*R.sz∧R.sz=1∧p<ys.length∧eI R w ((cur.toList.take ys.length).set p c) ys f2∧fp=g :: f2
 ext h he:=by
  obtain ⟨g,cap,cur,f2,h1,h2,h3,h4,h5,h6,h7,h8,rfl⟩:=h
  exact ⟨g,cap,cur,f2,h1,by rw [he g List.mem_cons_self];exact h2,h3,h4,h5,h6,h7,fK h8 (fun b hb=>he b (List.mem_cons_of_mem _ hb)),rfl⟩
 lt h:=by
  obtain ⟨g,cap,cur,f2,h1,h2,h3,h4,h5,h6,h7,h8,rfl⟩:=h
  intro b hb
  rcases List.mem_cons.1 hb with rfl | hb
  ·exact (Array.getElem?_eq_some_iff.1 h2).1
  ·exact f7 h8 b hb
section
variable {P:Program} {n:Nat} {K:Env→World→Prop} {e:Env} {w w0:World} {ops:Array Oper} {rest:List Oper} {ty:TypeId} {pos:String} {af:Array Edge}
variable {α:Type} {R:Rep α} {Γ:List Asn} {E:TypeId} {v:Value}
theorem pY {e:Env} {K:Env→World→Prop} {x y:Operand} {t:TypeId} {z:List Value} {bytes:Nat} [hz:ElemT P t z 1 bytes] {A B:Asn} {g o:Nat} {c:Value} {cur:Array Value}
  (hS:Sat w0 w (A :: Γ)) (hg:w.heap[g]? = some (.cells cur E (0,0))) (ho:o<cur.size) (hx:ev e x=.pointer (some ⟨g,o,none⟩)) (hy:(ev e y).cells=[c].toArray) (h1:c.oneCell'=true)
  (hAB:∀ w' fp,A.holds w fp→fp.Nodup→w'.heap[g]? = some (.cells (cur.toList.set o c).toArray E (0,0))→(∀ x,x≠g→x<w.heap.size→w'.heap[x]? = w.heap[x]?)→∃ fp',fp'.Perm fp∧g∈fp∧B.holds w' fp')
  (hK:∀ w',Sat w0 w' (B :: Γ)→EL P n ops K rest e w'):EL P n ops K (⟨none,.store t x y,ty,pos,af,none⟩ :: rest) e w:=by
 intro a ha
 refine wpList_plain rfl fun K' hK'=>?_
 have hz:=hz.h
 cases hi:P.info? t with
 | none=>simp [hi] at hz
 | some inf =>
  simp [hi] at hz
  have hh':w.heap[g]? = some (.cells cur.toList.toArray E (0,0)):=by simpa using hg
  obtain ⟨w',hr,hnew,hc⟩:=fZ (P:=P) [c] o 0 cur.toList w hh' (by simp;omega) (by simpa using h1)
  have hsz:¬ ([c].toArray.size≠inf.size):=by simp;omega
  unfold Oper.wp execOp
  simp only [ha.eval,hx,Instr.storeAt,Instr.sureAddr,storeVar,sizeOf,typeInfo,hi,hy,Sem.run_bind,Sem.run_pure,run_program,Result.andThen_ok,hsz,if_false,Sem.run_ite,List.toList_toArray,hr,Oper.upon_skip]
  refine hK' _ _ (hK w' ?_ _ ha)
  refine hS.upd ?_
  intro fp hA hnd
  have hoth:∀ x,x≠g→x<w.heap.size→w'.heap[x]? = w.heap[x]?:=fun x hx hlt=>hc.block x hlt (by simpa using hx)
  have hnew':w'.heap[g]? = some (.cells (cur.toList.set o c).toArray E (0,0)):=by
   rw [hnew]
   have e:cur.toList.take (o+0)++[c]++cur.toList.drop (o+0+[c].length)=cur.toList.set o c:=by
    rw [List.set_eq_take_append_cons_drop,if_pos (by simpa using ho)]
    simp
   rw [← e]
  obtain ⟨fp',hp,hgm,hB⟩:=hAB w' fp hA hnd hnew' hoth
  exact ⟨fp',hB,hp.nodup_iff.2 hnd,hc.mono (by simpa using hgm),fun b hb=>.inl (hp.mem_iff.1 hb)⟩
theorem lO {e:Env} {K:Env→World→Prop} {x y:Operand} {t:TypeId} {z:List Value} {bytes:Nat} [hz:ElemT P t z 1 bytes] {xs ys:List α} {g cap g1 cap1 g2 cap2:Nat} {k p:Int} {a b:α} {ca cb:Value}
  (hS:Sat w0 w (Own (aB R E) [v] xs :: Γ)) (hv:v=.slice (some ⟨g,0,none⟩) xs.length cap) (hv1:v=.slice (some ⟨g1,0,none⟩) xs.length cap1) (hv2:v=.slice (some ⟨g2,0,none⟩) xs.length cap2) (hsz:R.sz=1) (ha:ix xs k=some a) (hb:ix xs p=some b) (hca:∀ j c,[ca][j]? = some c→w.cell? ⟨g1,k.toNat*1+j,none⟩=some c) (hcb:∀ j c,[cb][j]? = some c→w.cell? ⟨g2,p.toNat*1+j,none⟩=some c)
  (hy1:sto xs k b=some ys) (hx:ev e x=.pointer (some ⟨g,k.toNat*1,none⟩)) (hy:(ev e y).cells=[cb].toArray) (h1:cb.oneCell'=true)
  (hK:∀ w',Sat w0 w' (nR R E v (ys.set p.toNat a) p.toNat ca :: Γ)→EL P n ops K rest e w'):EL P n ops K (⟨none,.store t x y,ty,pos,af,none⟩ :: rest) e w:=by
 obtain ⟨rfl,rfl⟩:g=g1∧cap=cap1:=by rw [hv] at hv1;simpa using hv1
 obtain ⟨rfl,rfl⟩:g=g2∧cap=cap2:=by rw [hv] at hv2;simpa using hv2
 clear hv1 hv2
 obtain ⟨k,rfl,hk,rfl⟩:=et ha
 obtain ⟨p,rfl,hp,rfl⟩:=et hb
 have ey:ys=xs.set k xs[p]:=by
  unfold sto at hy1;split at hy1
  ·exact (Option.some.inj hy1).symm
  ·cases hy1
 subst ey hv
 simp only [Int.toNat_natCast,Nat.mul_one] at hx hca hcb hK
 obtain ⟨fp,hv,_⟩:=hS.head
 rcases hv with ⟨_,h2,_⟩ | ⟨g',cap',cur,ccs,f2,hv,hg,k1,k2,k3,k4,k5,rfl⟩
 ·subst h2;simp at hk
 obtain ⟨rfl,rfl⟩:g=g'∧cap=cap':=by simpa using hv
 rw [hsz,Nat.mul_one] at k4
 have hcur:xs.length≤cur.size:=by rw [k3,hsz];omega
 have at1:∀ {i:Nat} {c:Value},i<xs.length→w.cell? ⟨g,i+0,none⟩=some c→(cur.toList.take xs.length)[i]? = some c:=by
  intro i c hi h
  rw [cell_of_row w g _ cur E (0,0) hg,← Array.getElem?_toList,Nat.add_zero] at h
  rw [List.getElem?_take,if_pos hi];exact h
 have hA:=at1 hk (hca 0 ca rfl)
 have hB:=at1 hp (hcb 0 cb rfl)
 refine pY (B:=nR R E (.slice (some ⟨g,0,none⟩) xs.length cap) ((xs.set k xs[p]).set p xs[k]) p ca) hS hg (by omega) hx hy h1 ?_ hK
 intro w' fp2 hA2 hnd hnew hoth
 rcases hA2 with ⟨_,h2,_⟩ | ⟨g',cap',cur',ccs',f3,hv',hg',m1,m2,m3,m4,m5,rfl⟩
 ·subst h2;simp at hk
 obtain ⟨rfl,rfl⟩:g=g'∧cap=cap':=by simpa using hv'
 obtain ⟨rfl⟩:cur'=cur:=by rw [hg] at hg';simpa using hg'.symm
 rw [hsz,Nat.mul_one] at m4
 subst m4
 obtain ⟨f',hpm,hsw⟩:=tM hsz m5 hk hp hA hB
 refine ⟨g :: f',hpm.cons g,List.mem_cons_self,g,cap,_,f',by simp,hnew,by simpa using m1,m2,by simpa using m3,hsz,by simpa using hp,?_,rfl⟩
 have hgn:g∉f3:=(List.nodup_cons.1 hnd).1
 have e:((cur.toList.set k cb).toArray.toList.take ((xs.set k xs[p]).set p xs[k]).length).set p ca=((cur.toList.take xs.length).set k cb).set p ca:=by
  rw [List.length_set,List.length_set,List.take_set]
 rw [e]
 exact fK hsw fun b hb=>hoth b (fun eb=>hgn (hpm.mem_iff.1 (eb ▸ hb))) (f7 m5 b (hpm.mem_iff.1 hb))
theorem lN {e:Env} {K:Env→World→Prop} {x y:Operand} {t:TypeId} {z:List Value} {bytes:Nat} [hz:ElemT P t z 1 bytes] {xs ys:List α} {g cap ln:Nat} {p:Int} {a:α} {ca:Value}
  (hS:Sat w0 w (nR R E v (xs.set p.toNat a) p.toNat ca :: Γ)) (hv:v=.slice (some ⟨g,0,none⟩) ln cap) (hy1:sto xs p a=some ys) (hx:ev e x=.pointer (some ⟨g,p.toNat*1,none⟩)) (hy:(ev e y).cells=[ca].toArray) (h1:ca.oneCell'=true)
  (hK:∀ w',Sat w0 w' (Own (aB R E) [v] ys :: Γ)→EL P n ops K rest e w'):EL P n ops K (⟨none,.store t x y,ty,pos,af,none⟩ :: rest) e w:=by
 have ey:ys=xs.set p.toNat a:=by
  unfold sto at hy1;split at hy1
  ·exact (Option.some.inj hy1).symm
  ·cases hy1
 rw [← ey] at hS
 clear ey hy1
 rw [Nat.mul_one] at hx
 obtain ⟨fp,⟨g',cap',cur,f2,k1,k2,k3,k4,k5,k6,k7,k8,rfl⟩,_⟩:=hS.head
 subst k1
 obtain ⟨rfl,rfl,rfl⟩:g'=g∧ys.length=ln∧cap'=cap:=by simpa using hv
 rw [k6,Nat.mul_one] at k5
 refine pY (B:=Own (aB R E) [.slice (some ⟨g',0,none⟩) ys.length cap'] ys) hS k2 (by omega) hx hy h1 ?_ hK
 intro w' fp2 hA2 hnd hnew hoth
 obtain ⟨g2,cap2,cur2,f3,m1,m2,m3,m4,m5,m6,m7,m8,rfl⟩:=hA2
 obtain ⟨rfl,rfl⟩:g'=g2∧cap'=cap2:=by simpa using m1
 obtain ⟨rfl⟩:cur2=cur:=by rw [k2] at m2;simpa using m2.symm
 have hgn:g'∉f3:=(List.nodup_cons.1 hnd).1
 refine ⟨g' :: f3,.refl _,List.mem_cons_self,.inr ⟨g',cap',_,_,f3,rfl,hnew,m3,m4,by simpa using m5,rfl,?_,rfl⟩⟩
 have e:(cur.toList.set p.toNat ca).toArray.toList.take (ys.length*R.sz)=(cur.toList.take ys.length).set p.toNat ca:=by
  rw [m6,Nat.mul_one,List.take_set]
 rw [e]
 exact fK m8 fun b hb=>hoth b (fun eb=>hgn (eb ▸ hb)) (f7 m8 b hb)
end
def gN {α:Type} (w0:World) (R:Rep α):Rep α where
 sz:=R.sz
 rd w cs x:=R.rd w0 cs x∨R.rd w cs x
 own w cs x fp:=R.rd w0 cs x∧fp=[]∨R.own w cs x fp
 rd_len h:=by rcases h with h | h <;> exact R.rd_len h
 rd_one h:=by rcases h with h | h <;> exact R.rd_one h
 rd_ext h he:=h.imp id fun h=>R.rd_ext h he
 own_rd h:=h.imp (·.1) R.own_rd
 own_ext h he:=h.imp id fun h=>R.own_ext h he
 own_lt h:=by
  rcases h with h | h
  ·rw [h.2];simp
  ·exact R.own_lt h
theorem pJ {α:Type} {R:Rep α} {w w0:World} (hx:Ext w0 w):∀ {xs:List α} {ccs:List Value},rdL (gN w0 R) w ccs xs→rdL R w ccs xs
 | [],_,h=>h
 | x :: xs,_,h=>by
  obtain ⟨ec,rest,rfl,h1,h2⟩:=h
  refine ⟨ec,rest,rfl,?_,pJ hx h2⟩
  rcases h1 with h1 | h1
  ·exact R.rd_ext h1 hx
  ·exact h1
theorem Sat.unmix {α:Type} {R:Rep α} {w w0:World} {Γ:List Asn} {E:TypeId} {cs:List Value} {xs:List α} (hS:Sat w0 w Γ) (h:(aB (gN w0 R) E).rd w cs xs):(aB R E).rd w cs xs:=by
 obtain ⟨ao,cap,ccs,h1,h2,h3,h4,h5,h6⟩:=h
 exact ⟨ao,cap,ccs,h1,h2,h3,h4,pJ hS.below h5,h6⟩
theorem Sat.mixRo {α:Type} {R:Rep α} {w w0:World} {Γ:List Asn} {cs:List Value} {x:α} (hS:Sat w0 w Γ) (h:R.rd w0 cs x):Sat w0 w (Own (gN w0 R) cs x :: Γ):=hS.add (.inl ⟨h,rfl⟩)
theorem Sat.mixOwn {α:Type} {R:Rep α} {w w0:World} {Γ:List Asn} {cs:List Value} {x:α} (hS:Sat w0 w (Own R cs x :: Γ)):Sat w0 w (Own (gN w0 R) cs x :: Γ):=hS.conv fun _ h=>.inr h
theorem qA {α:Type} {R:Rep α} {W w w2:World}:∀ {xs:List α} {ccs:List Value},rdL (roR W R) w ccs xs→eI (gN W R) w2 ccs xs []
 | [],_,h=>⟨h,rfl⟩
 | x :: xs,_,h=>by
  obtain ⟨ec,rest,rfl,h1,h2⟩:=h
  exact ⟨ec,rest,[],[],rfl,rfl,.inl ⟨h1,rfl⟩,qA h2⟩
theorem Sat.mixL {α:Type} {R:Rep α} {W w w0 w2:World} {Γ:List Asn} {ccs:List Value} {xs:List α} (hS:Sat w0 w Γ) (h:rdL (roR W R) w2 ccs xs):Sat w0 w (mA (gN W R) ccs xs :: Γ):=hS.add (qA h)
theorem kW {P:Program} {t:TypeId} {k:IntKind} (ht:P.underlying t=some (.int k)) {cs:Array Value} {off:Nat} {c:Value} (hc:cs[off]? = some c) (w:World):(part t cs off).run P w=.ok c w:=by
 have hagg:(isAgg t).run P w=.ok false w:=by
  unfold isAgg
  rw [Sem.run_bind,run_underlying ht w]
  simp
 simp [part,Sem.run_bind,hagg,hc]
theorem w9 {P:Program} {t:TypeId} {fs:Array Field} {f g:Field} {k1 k2:IntKind} (h1:P.underlying t=some (.struct fs)) (hfs:fs.toList=[f,g]) (n1:f.name≠ "_") (n2:g.name≠ "_") (o1:f.offset=0) (o2:g.offset=1) (t1:P.underlying f.type=some (.int k1)) (t2:P.underlying g.type=some (.int k2)) (hp:P.stoodInHeld t=false) (a b c d:Int) (w:World) :
  (Op.equalIn 10000 t (.agg #[.int .i64 a,.int .i64 b]) (.agg #[.int .i64 c,.int .i64 d])).run P w=.ok (a == c&&b == d) w:=by
 have hF:P.fieldsOf t=fs:=by unfold Program.fieldsOf;rw [h1]
 rw [run_equalIn_struct w 9999 t _ _ (by rw [hF];exact h1) hp,hF,hfs]
 unfold Op.eqFields
 rw [if_pos n1]
 simp only [Sem.run_bind,o1]
 rw [kW t1 (c:=.int .i64 a) rfl,Result.andThen_ok,kW t1 (c:=.int .i64 c) rfl,Result.andThen_ok,run_equalIn_int w 9998 f.type .i64 k1 a c t1,Result.andThen_ok,Sem.run_ite]
 cases hac:(a == c) with
 | false=>rw [if_pos (by rfl),Sem.run_pure,Bool.false_and]
 | true =>
  rw [if_neg (by decide),Bool.true_and]
  unfold Op.eqFields
  rw [if_pos n2]
  simp only [Sem.run_bind,o2]
  rw [kW t2 (c:=.int .i64 b) rfl,Result.andThen_ok,kW t2 (c:=.int .i64 d) rfl,Result.andThen_ok,run_equalIn_int w 9998 g.type .i64 k2 b d t2,Result.andThen_ok,Sem.run_ite]
  unfold Op.eqFields
  cases hbd:(b == d) with
  | false=>rw [if_pos (by rfl),Sem.run_pure]
  | true=>rw [if_neg (by decide),Sem.run_pure]
theorem rO {P:Program} {e:Env} {w:World} {ty:TypeId} {pos:String} {af:Array Edge} {o:Option Nat} {x y:Operand} {t u:TypeId} {fs:Array Field} {f g:Field} {k1 k2:IntKind} (h1:P.underlying t=some (.struct fs)) (hfs:fs.toList=[f,g]) (n1:f.name≠ "_") (n2:g.name≠ "_") (o1:f.offset=0) (o2:g.offset=1) (t1:P.underlying f.type=some (.int k1)) (t2:P.underlying g.type=some (.int k2)) (hp:P.stoodInHeld t=false) (hm:P.eqGuardType P.depth t=false) {a b c d:Int} (hx:ev e x=.agg #[.int .i64 a,.int .i64 b]) (hy:ev e y=.agg #[.int .i64 c,.int .i64 d]) :
  PV P ⟨o,.binOp .neq t x y u,ty,pos,af,none⟩ e w (.bool (!(a == c&&b == d))):=fun w' _=>by
 have g1:=run_eqGuard_agg (P:=P) w' .neq t x y #[.int .i64 a,.int .i64 b] #[.int .i64 c,.int .i64 d] hm
 have g2:=run_neq_struct (P:=P) w' t #[.int .i64 a,.int .i64 b] #[.int .i64 c,.int .i64 d]
 rw [w9 h1 hfs n1 n2 o1 o2 t1 t2 hp] at g2
 unfold execOp
 simp only [hx,hy,Sem.run_bind,g1,g2,Result.andThen_ok,Sem.run_pure]
theorem Sat.unfrz {α:Type} {R:Rep α} {w w0 W:World} {Γ:List Asn} {F:List Nat} {cs:List Value} {x:α} (hS:Sat w0 w (Frz W F :: Γ)) (ho:R.own W cs x F):Sat w0 w (Own R cs x :: Γ) :=
 hS.conv fun f h=>by
  obtain ⟨rfl,h2,_⟩:=h
  exact R.own_ext ho h2
theorem qv {α:Type} {R:Rep α} {w:World}:∀ {xs:List α} {ccs:List Value} {f:List Nat},eI R w ccs xs f→∀ (k p:Nat) (hk:k<xs.length) (hp:p<xs.length),k≠p →
  ∃ ec f1 f2 f3 ep fp,R.own w ec xs[k] f2∧f=f1++(f2++f3)∧(∀ j c,ec[j]? = some c→ccs[k*R.sz+j]? = some c) ∧
   (∀ w' y f',(∀ b∈f1++f3,w'.heap[b]? = w.heap[b]?)→R.own w' ec y f'→eI R w' ccs (xs.set k y) (f1++(f'++f3))) ∧
   R.own w ep xs[p] fp∧(∀ b∈fp,b∈f1++f3)∧∀ j c,ep[j]? = some c→ccs[p*R.sz+j]? = some c
 | [],_,_,_,k,_,hk,_,_=>absurd hk (by simp)
 | x :: xs,_,_,h,k,p,hk,hp,hne=>by
  have hh:=h
  obtain ⟨ec,rest,f1,f2,rfl,rfl,h1,h2⟩:=h
  have hd:∀ j c,ec[j]? = some c→(ec++rest)[0*R.sz+j]? = some c:=fun j c hj=>by
   have hlt:j<ec.length:=(List.getElem?_eq_some_iff.1 hj).1
   rw [Nat.zero_mul,Nat.zero_add,List.getElem?_append_left hlt];exact hj
  have tl:∀ (q:Nat) (e':List Value),(∀ j c,e'[j]? = some c→rest[q*R.sz+j]? = some c)→∀ j c,e'[j]? = some c→(ec++rest)[(q+1)*R.sz+j]? = some c:=fun q e' h3 j c hj=>by
   have e:(q+1)*R.sz+j=ec.length+(q*R.sz+j):=by rw [R.rd_len (R.own_rd h1),Nat.add_mul];omega
   rw [e,List.getElem?_append_right (by omega),Nat.add_sub_cancel_left]
   exact h3 j c hj
  cases k with
  | zero =>
   cases p with
   | zero=>exact absurd rfl hne
   | succ p =>
    obtain ⟨ep,g1,g2,g3,k1,rfl,k3,_⟩:=jb h2 p (by simpa using hp)
    refine ⟨ec,[],f1,_,ep,g2,h1,rfl,hd,fun w' y f' he ho=>?_,by simpa using k1,fun b hb=>by simp [hb],tl p ep k3⟩
    exact ⟨ec,rest,f',_,rfl,rfl,ho,fK h2 fun b hb=>he b (by simpa using hb)⟩
  | succ k =>
   cases p with
   | zero =>
    obtain ⟨ec',g1,g2,g3,k1,rfl,k3,k4⟩:=jb h2 k (by simpa using hk)
    refine ⟨ec',f1++g1,g2,g3,ec,f1,by simpa using k1,by simp,tl k ec' k3,fun w' y f' he ho=>?_,h1,fun b hb=>by simp [hb],hd⟩
    refine ⟨ec,rest,f1,g1++(f'++g3),rfl,by simp,R.own_ext h1 fun b hb=>he b (by simp [hb]),k4 w' y f' (fun b hb=>he b ?_) ho⟩
    rcases List.mem_append.1 hb with h | h <;> simp [h]
   | succ p =>
    obtain ⟨ec',g1,g2,g3,ep,fp,k1,rfl,k3,k4,k5,k6,k7⟩:=qv h2 k p (by simpa using hk) (by simpa using hp) (by omega)
    refine ⟨ec',f1++g1,g2,g3,ep,fp,by simpa using k1,by simp,tl k ec' k3,fun w' y f' he ho=>?_,by simpa using k5,fun b hb=>?_,tl p ep k7⟩
    ·refine ⟨ec,rest,f1,g1++(f'++g3),rfl,by simp,R.own_ext h1 fun b hb=>he b (by simp [hb]),k4 w' y f' (fun b hb=>he b ?_) ho⟩
     rcases List.mem_append.1 hb with h | h <;> simp [h]
    ·rcases List.mem_append.1 (k6 b hb) with h | h <;> simp [h]
theorem Sat.takeOutF {α:Type} {R:Rep α} {w w0:World} {Γ:List Asn} {E:TypeId} {v:Value} {xs:List α} {g ln cap g9 ln9 cap9 m:Nat} {i p:Int} {u up:α} {ec ep:List Value} (hS:Sat w0 w (Own (aB R E) [v] xs :: Γ)) (hv:v=.slice (some ⟨g,0,none⟩) ln cap) (hv9:v=.slice (some ⟨g9,0,none⟩) ln9 cap9) (h:ix xs i=some u) (hp:ix xs p=some up) (hne:i≠p) (hn:R.sz=m) (hl:ec.length=m) (hlp:ep.length=m)
  (hm:∀ j c,ec[j]? = some c→w.cell? ⟨g,i.toNat*m+j,none⟩=some c) (hmp:∀ j c,ep[j]? = some c→w.cell? ⟨g9,p.toNat*m+j,none⟩=some c) :
  ∃ F Fp,R.own w ep up Fp∧(∀ q∈Fp,q∈F)∧(mw R E v xs i.toNat ec).holds w F∧Sat w0 w (Own R ec u :: Frz w F :: Γ):=by
 obtain ⟨k,rfl,hk,rfl⟩:=et h
 obtain ⟨q,rfl,hq,rfl⟩:=et hp
 subst hv hn
 obtain ⟨rfl,rfl,rfl⟩:g=g9∧ln=ln9∧cap=cap9:=by simpa using hv9
 obtain ⟨hb,_,⟨f0,fr,rfl,hf,hr⟩,hnd,h3'⟩:=hS
 rcases hf with ⟨_,h2,_⟩ | ⟨g',cap',cur,ccs,fe,hv,hg,h1,h2,h3,h4,h5,rfl⟩
 ·subst h2;simp at hk
 obtain ⟨rfl,rfl,rfl⟩:g=g'∧ln=xs.length∧cap=cap':=by simpa using hv
 obtain ⟨ec',f1,f2,f3,ep',fp,k1,rfl,k3,k4,k5,k6,k7⟩:=qv h5 k q hk hq (by omega)
 have same:∀ (r:Nat) (a b:List Value),a.length=R.sz→b.length=R.sz→(∀ j c,a[j]? = some c→w.cell? ⟨g,(r:Int).toNat*R.sz+j,none⟩=some c)→(∀ j c,b[j]? = some c→ccs[r*R.sz+j]? = some c)→a=b:=fun r a b ha hb' e1 e2=>by
  refine List.ext_getElem (by rw [ha,hb']) fun j hj1 hj2=>?_
  have e1:=e1 j a[j] (List.getElem?_eq_getElem hj1)
  have e2:=e2 j b[j] (List.getElem?_eq_getElem hj2)
  simp only [Int.toNat_natCast] at e1
  rw [cell_of_row w g _ cur E (0,0) hg,← Array.getElem?_toList] at e1
  rw [← h4,List.getElem?_take] at e2
  split at e2
  ·rw [e1] at e2;exact Option.some.inj e2
  ·cases e2
 obtain rfl:=same k ec ec' hl (R.rd_len (R.own_rd k1)) hm k3
 obtain rfl:=same q ep ep' hlp (R.rd_len (R.own_rd k5)) hmp k7
 have hH:(mw R E (.slice (some ⟨g,0,none⟩) xs.length cap) xs (k:Int).toNat ec).holds w (g :: (f1++f3)):=by
  refine ⟨fun b hb=>?_,fun w' y f' he ho=>⟨g :: (f1++(f'++f3)),?_,.inr ⟨g,cap,cur,ccs,_,by simp,by rw [he g (by simp)];exact hg,by simpa using h1,h2,h3,by simpa using h4,by
   simp only [Int.toNat_natCast]
   exact k4 w' y f' (fun b hb=>he b (List.mem_cons_of_mem _ hb)) ho,rfl⟩⟩⟩
  ·rcases List.mem_cons.1 hb with rfl | hb
   ·exact (Array.getElem?_eq_some_iff.1 hg).1
   ·refine f7 h5 b ?_
    rcases List.mem_append.1 hb with h | h <;> simp [h]
  ·refine .trans (.cons _ ?_) List.perm_middle.symm
   rw [← List.append_assoc,← List.append_assoc]
   exact List.Perm.append_right _ List.perm_append_comm
 have hpp:(f2++(g :: (f1++f3)++fr)).Perm ((g :: (f1++(f2++f3)))++fr):=by
  rw [← List.append_assoc]
  refine List.Perm.append_right _ ?_
  refine List.perm_middle.trans (.cons _ ?_)
  rw [← List.append_assoc,← List.append_assoc]
  exact List.Perm.append_right _ List.perm_append_comm
 exact ⟨g :: (f1++f3),fp,k5,fun b hb=>List.mem_cons_of_mem _ (k6 b hb),hH,hb,f2++(g :: (f1++f3)++fr),⟨f2,_,rfl,k1,_,fr,rfl,⟨rfl,fun _ _=>rfl,hH.1⟩,hr⟩,hpp.nodup_iff.2 hnd,fun b hb=>h3' b (hpp.mem_iff.1 hb)⟩
theorem Sat.putBackF {α:Type} {R:Rep α} {w w0 W:World} {Γ:List Asn} {E:TypeId} {v:Value} {F:List Nat} {xs ys:List α} {i:Int} {y:α} {ec:List Value} (hS:Sat w0 w (Own R ec y :: Frz W F :: Γ)) (hh:(mw R E v xs i.toNat ec).holds W F) (h:sto xs i y=some ys):Sat w0 w (Own (aB R E) [v] ys :: Γ):=by
 have e:ys=xs.set i.toNat y:=by
  unfold sto at h;split at h
  ·exact (Option.some.inj h).symm
  ·cases h
 subst e
 refine hS.joinp fun f g h1 h2=>?_
 obtain ⟨rfl,h3,_⟩:=h2
 exact hh.2 w y f h3 h1
theorem sZ {a b:Int} (h:(a != b)=true):a≠b:=by simpa using h
class FreeR {α:Type} (R:Rep α):Prop where
 h:∀ {w w2:World} {cs:List Value} {x:α},R.rd w cs x→R.own w2 cs x []
instance:FreeR bI:=⟨fun h=>⟨h,rfl⟩⟩
instance {α β:Type} {R:Rep α} {S:Rep β} [hR:FreeR R] [hS:FreeR S]:FreeR (fo R S):=⟨fun h=>by
 obtain ⟨c1,c2,rfl,h1,h2⟩:=h
 exact ⟨c1,c2,[],[],rfl,rfl,hR.h h1,hS.h h2⟩⟩
theorem pI {α:Type} {R:Rep α} [hR:FreeR R] {w w2:World}:∀ {xs:List α} {ccs:List Value},rdL R w ccs xs→eI R w2 ccs xs []
 | [],_,h=>⟨h,rfl⟩
 | x :: xs,_,h=>by
  obtain ⟨ec,rest,rfl,h1,h2⟩:=h
  exact ⟨ec,rest,[],[],rfl,rfl,hR.h h1,pI h2⟩
theorem nj {α:Type} {R:Rep α} {w:World} {E:TypeId} {v:Value} {xs:List α} (h:(aB R E).rd w [v] xs):∃ ao c ccs,v=.slice ao xs.length c∧(ao=none→c=0)∧kU w ao ccs∧rdL R w ccs xs:=by
 obtain ⟨ao,cap,ccs,hv,h1,h2,h3,h4,h5⟩:=h
 exact ⟨ao,cap,ccs,by simpa using hv,h3,h5,h4⟩
theorem Sat.freeL {α:Type} {R:Rep α} [FreeR R] {w w0 w2:World} {Γ:List Asn} {ccs:List Value} {xs:List α} (hS:Sat w0 w Γ) (h:rdL R w2 ccs xs):Sat w0 w (mA R ccs xs :: Γ):=hS.add (pI h)
section
variable {P:Program} {n:Nat} {ops:Array Oper} {X:List Nat} {C:World→Prop} {K:Env→World→Prop}
theorem uO {o:Oper} {K1 K2:Env→World→Prop} {e:Env} {w:World} (h:∀ e w,K1 e w→K2 e w) (hE:EL P n ops K1 [o] e w):EL P n ops K2 [o] e w:=by
 intro a ha
 have:=hE a ha
 unfold wpList at this ⊢
 have key:∀ a w,wpList P ops (nrm n K1) [] a w→wpList P ops (nrm n K2) [] a w:=by
  rintro a w ⟨h0,e',ha',h2⟩
  exact ⟨h0,e',ha',h _ _ h2⟩
 split
 ·rename_i hw
  rw [if_pos hw] at this
  rcases this with h1 | ⟨_,h1⟩
  ·exact .inl (ta key h1)
  ·exact absurd h1 ou
 ·rename_i hw
  rw [if_neg hw] at this
  exact key _ _ this
theorem rM {X':List Nat} {C':World→Prop} (hC:∀ j w',(X'.contains j=true→C' w')→X.contains j=true→C w'):∀ (f:Nat) (L:Array Bool) (e:Env) (w:World),AL P n ops X' C' K f L e w→AL P n ops X C K f L e w
 | 0,_,_,_,h=>h
 | f+1,_,_,_,h=>⟨h.1,fun i hi=>by
   obtain ⟨o,ho,hE⟩:=h.2 i hi
   exact ⟨o,ho,uO (fun e' w' h12=>⟨hC i w' h12.1,rM hC _ _ _ _ h12.2⟩) hE⟩⟩
theorem qf (X':List Nat) {f:Nat} {L:Array Bool} {e:Env} {w:World} (h:AL P n ops X' (fun w'=>w'=w) K f L e w):AL P n ops X (fun _=>True) K f L e w:=rM (fun _ _ _ _=>trivial) _ _ _ _ h
theorem eC {o:Oper} {e:Env} {v:Value} {wA:World} (hg:o.guard=none) (h:PV P o e wA v):SV P n ops (fun w'=>w'=wA) o e v:=fun a ha=>.inl ⟨by simp [Region.wanted,hg],fun w' hw'=>by subst hw';rw [ha.eval];exact h _ (Ext.refl _)⟩
theorem dD {dst:Option Nat} {op:Op} {ty:TypeId} {pos:String} {af:Array Edge} {j:Nat} {b c:Bool} {e:Env} {v:Value} {wA:World} (hy:yld ops e j=some c) (hc:c=b) (h:PV P ⟨dst,op,ty,pos,af,none⟩ e wA v):SV P n ops (fun w'=>w'=wA) ⟨dst,op,ty,pos,af,some (j,b)⟩ e v :=
 vd hy hc fun w' hw'=>by subst hw';exact h
variable {wA w w0:World} {v:Value} {d:Nat} {ty:TypeId} {pos:String} {af:Array Edge} {x y:Operand} {α:Type} {R:Rep α} {E E':TypeId} {f:Nat} {L:Array Bool} {e:Env} {Γ:List Asn}
theorem pX {dd:Option Nat} {t:TypeId} [ht:SliceT P t E] {zz:List Value} {m bytes:Nat} [hz:ElemT P E zz m bytes] {xs:List α} (hS:Sat w0 w (Own (aB R E) [v] xs :: Γ)) (hs:ev e x=v)
  (hn:R.sz=m) {k:IntKind} {i:Int} (hi:ev e y=.int k i) {u:α} (h:ix xs i=some u) :
  ∃ g cap ec,v=.slice (some ⟨g,0,none⟩) xs.length cap∧R.rd w ec u∧(∀ j c,ec[j]? = some c→w.cell? ⟨g,i.toNat*m+j,none⟩=some c)∧∀ w',PV P ⟨dd,.indexAddr t x y,ty,pos,af,none⟩ e w' (.pointer (some ⟨g,i.toNat*m,none⟩)):=by
 obtain ⟨k',rfl,hk,rfl⟩:=et h
 obtain ⟨fp,hv,_⟩:=hS.head
 rcases hv with ⟨_,h2,_⟩ | ⟨g,cap,cur,ccs,f2,hv,hg,h1,h2,h3,h4,h5,rfl⟩
 ·subst h2;simp at hk
 obtain rfl:v=.slice (some ⟨g,0,none⟩) xs.length cap:=by simpa using hv
 obtain ⟨ec,hec,hcc⟩:=ll (gF h5) k' hk
 have hz:=hz.h
 cases hq:P.info? E with
 | none=>simp [hq] at hz
 | some inf =>
  simp [hq] at hz
  have hsz:inf.size=m:=hz.2.1
  refine ⟨g,cap,ec,rfl,hec,?_,?_⟩
  ·intro j c hj
   have h0:=hcc j c hj
   simp only [Int.toNat_natCast]
   rw [cell_of_row w g _ cur E (0,0) hg,← Array.getElem?_toList]
   rw [← h4,List.getElem?_take] at h0
   rw [← hn]
   split at h0
   ·exact h0
   ·cases h0
  ·intro _ w' _
   unfold execOp
   simp [hs,hi,Instr.indexAt,asIntOf,run_underlying ht.h,sizeOf,typeInfo,hq,hk,Addr.add_lit,hsz]
theorem jx (T:List Nat) (hsel:jl ops=true) (i':Nat) {t:TypeId} [SliceT P t E] {zz:List Value} {m bytes:Nat} [ElemT P E zz m bytes] {xs:List α} (hi':ops[i']? = some ⟨some d,.indexAddr t x y,ty,pos,af,none⟩) (hC:C w) (hf:ko ops X T L i' ⟨some d,.indexAddr t x y,ty,pos,af,none⟩=true) (hrd:(Region.ready .any ops L).contains i'=true)
  (hS:Sat w0 w (Own (aB R E) [v] xs :: Γ)) (hs:ev e x=v) (hn:R.sz=m) {k:IntKind} {i:Int} (hi:ev e y=.int k i) {u:α} (h:ix xs i=some u) (hd:d<n)
  (hK:∀ g cap ec,v=.slice (some ⟨g,0,none⟩) xs.length cap→R.rd w ec u→(∀ j c,ec[j]? = some c→w.cell? ⟨g,i.toNat*m+j,none⟩=some c)→AL P n ops X C K f (L.setIfInBounds i' true) (upd e d (.pointer (some ⟨g,i.toNat*m,none⟩))) w):AL P n ops X C K (f+1) L e w:=by
 obtain ⟨g,cap,ec,h1,h2,h3,h4⟩:=pX (P:=P) (dd:=some d) (ty:=ty) (pos:=pos) (af:=af) (t:=t) hS hs hn hi h
 exact aL T hsel i' hi' rfl hd hC hf hrd (ap rfl fun w' _=>h4 w') (hK g cap ec h1 h2 h3)
theorem i8 (T:List Nat) (hsel:jl ops=true) (i':Nat) {t:TypeId} [SliceT P t E] {zz:List Value} {m bytes:Nat} [ElemT P E zz m bytes] {xs:List α} {j':Nat} {bb cc:Bool} (hi':ops[i']? = some ⟨some d,.indexAddr t x y,ty,pos,af,some (j',bb)⟩) (hC:C w) (hf:ko ops X T L i' ⟨some d,.indexAddr t x y,ty,pos,af,some (j',bb)⟩=true) (hrd:(Region.ready .any ops L).contains i'=true)
  (hy':yld ops e j'=some cc) (hcc:cc=bb) (hS:Sat w0 w (Own (aB R E) [v] xs :: Γ)) (hs:ev e x=v) (hn:R.sz=m) {k:IntKind} {i:Int} (hi:ev e y=.int k i) {u:α} (h:ix xs i=some u) (hd:d<n)
  (hK:∀ g cap ec,v=.slice (some ⟨g,0,none⟩) xs.length cap→R.rd w ec u→(∀ j c,ec[j]? = some c→w.cell? ⟨g,i.toNat*m+j,none⟩=some c)→AL P n ops X C K f (L.setIfInBounds i' true) (upd e d (.pointer (some ⟨g,i.toNat*m,none⟩))) w):AL P n ops X C K (f+1) L e w:=by
 obtain ⟨g,cap,ec,h1,h2,h3,h4⟩:=pX (P:=P) (dd:=some d) (ty:=ty) (pos:=pos) (af:=af) (t:=t) hS hs hn hi h
 exact aL T hsel i' hi' rfl hd hC hf hrd (vd hy' hcc fun w' _=>h4 w') (hK g cap ec h1 h2 h3)
theorem oo (T:List Nat) (hsel:jl ops=true) (i:Nat) {t:TypeId} [SliceT P t E'] {zz:List Value} {m bytes:Nat} [ElemT P E' zz m bytes] {xs:List α} {j':Nat} {bb cc:Bool} (hi':ops[i]? = some ⟨some d,.indexAddr t x y,ty,pos,af,some (j',bb)⟩) (hC:C w) (hf:ko ops X T L i ⟨some d,.indexAddr t x y,ty,pos,af,some (j',bb)⟩=true) (hrd:(Region.ready .any ops L).contains i=true)
  (hy':yld ops e j'=some cc) (hcc:cc=bb) (hs:ev e x=v) (hr:(aB R E).rd wA [v] xs) (hn:R.sz=m) (hpos:0<m) {k:IntKind} {j:Int} (hi:ev e y=.int k j) {u:α} (h:ix xs j=some u) (hd:d<n)
  (hK:∀ b off ec,R.rd wA ec u→(∀ j c,ec[j]? = some c→wA.cell? ⟨b,off+j,none⟩=some c)→AL P n ops X C K f (L.setIfInBounds i true) (upd e d (.pointer (some ⟨b,off,none⟩))) w):AL P n ops X C K (f+1) L e w:=by
 obtain ⟨b,off,ec,h1,h2,h3⟩:=lI (P:=P) (d:=some d) (ty:=ty) (pos:=pos) (af:=af) (t:=t) hs hr hn hpos hi h
 exact aL T hsel i hi' rfl hd hC hf hrd (vd hy' hcc fun w' _=>h3 w') (hK b off ec h1 h2)
end
theorem sl {P:Program} {e:Env} {W:World} {α:Type} {R:Rep α} {E:TypeId} {v:Value} {x y:Operand} {ty:TypeId} {pos:String} {af:Array Edge} {F:List Nat} {d:Option Nat} {t:TypeId} [ht:SliceT P t E] {zz:List Value} {m bytes:Nat} [hz:ElemT P E zz m bytes] {xs ys:List α} {l h:Int} (hs:ev e x=c9 m v l h) (hr:(aB R E).own W [v] xs F)
  (hn:R.sz=m) (hq:slc xs l h=some ys) {k:IntKind} {i:Int} (hi:ev e y=.int k i) {u:α} (hu:ix ys i=some u) :
  ∃ b off ec F2,R.own W ec u F2∧(∀ q∈F2,q∈F)∧b∈F∧(∀ j c,ec[j]? = some c→W.cell? ⟨b,off+j,none⟩=some c)∧∀ w,PV P ⟨d,.indexAddr t x y,ty,pos,af,none⟩ e w (.pointer (some ⟨b,off,none⟩)):=by
 obtain ⟨l',h',rfl,rfl,hlh,hh,rfl⟩:=lK hq
 obtain ⟨k',rfl,hk,rfl⟩:=et hu
 rcases hr with ⟨_,h2,_⟩ | ⟨g,cap,cur,ccs,f2,hv,hg,h1,h2,h3,h4,h5,rfl⟩
 ·subst h2;simp at hk
 obtain rfl:v=.slice (some ⟨g,0,none⟩) xs.length cap:=by simpa using hv
 have hk2:k'<h' - l':=by simpa [Nat.min_eq_left hh] using hk
 have hne:cap≠l':=by omega
 have hk3:l'+k'<xs.length:=by omega
 have hel:((xs.take h').drop l')[k']=xs[l'+k']:=by simp
 obtain ⟨ec,f1,f2',f3,k1,rfl,k3,_⟩:=jb h5 (l'+k') hk3
 have hz:=hz.h
 cases hq:P.info? E with
 | none=>simp [hq] at hz
 | some inf =>
  simp [hq] at hz
  have hsz:inf.size=m:=hz.2.1
  rw [hel]
  refine ⟨g,l'*m+k'*m,ec,f2',k1,fun q hq=>by simp [hq],by simp,fun j c hj=>?_,fun w w' _=>?_⟩
  ·have h0:=k3 j c hj
   rw [cell_of_row W g _ cur E (0,0) hg,← Array.getElem?_toList]
   rw [← h4,List.getElem?_take] at h0
   rw [← hn,← Nat.add_mul]
   split at h0
   ·exact h0
   ·cases h0
  ·unfold execOp
   simp [hs,c9,hne,hi,Instr.indexAt,asIntOf,run_underlying ht.h,sizeOf,typeInfo,hq,hk2,Addr.add_add,hsz]
   simp only [Addr.add]
   split
   ·rename_i h0;rw [h0]
   ·simp
theorem sH {P:Program} {n:Nat} {ops:Array Oper} {K:Env→World→Prop} {rest:List Oper} {e:Env} {w W:World} {α:Type} {R:Rep α} {E:TypeId} {v:Value} {x y:Operand} {ty:TypeId} {pos:String} {af:Array Edge} {F:List Nat} {d:Nat} {t:TypeId} [SliceT P t E] {zz:List Value} {m bytes:Nat} [ElemT P E zz m bytes] {xs ys:List α} {l h:Int} (hs:ev e x=c9 m v l h) (hr:(aB R E).own W [v] xs F)
  (hn:R.sz=m) (hq:slc xs l h=some ys) {k:IntKind} {i:Int} (hi:ev e y=.int k i) {u:α} (hu:ix ys i=some u) (hd:d<n)
  (hK:∀ b off ec F2,R.own W ec u F2→(∀ q∈F2,q∈F)→b∈F→(∀ j c,ec[j]? = some c→W.cell? ⟨b,off+j,none⟩=some c)→EL P n ops K rest (upd e d (.pointer (some ⟨b,off,none⟩))) w):EL P n ops K (⟨some d,.indexAddr t x y,ty,pos,af,none⟩ :: rest) e w:=by
 obtain ⟨b,off,ec,F2,h1,h2,h3,h4,h5⟩:=sl (P:=P) (d:=some d) (ty:=ty) (pos:=pos) (af:=af) (t:=t) hs hr hn hq hi hu
 exact kq (h5 _) hd (hK b off ec F2 h1 h2 h3 h4)
class NoFp {α:Type} (R:Rep α):Prop where
 h:∀ {w cs x fp},R.own w cs x fp→fp=[]
instance:NoFp bI:=⟨fun h=>h.2⟩
instance {α β:Type} {A:Rep α} {B:Rep β} [hA:NoFp A] [hB:NoFp B]:NoFp (fo A B):=⟨fun h=>by
 obtain ⟨_,_,f1,f2,_,rfl,h1,h2⟩:=h
 rw [hA.h h1,hB.h h2];rfl⟩
theorem pW {α:Type} {R:Rep α} [hR:NoFp R] {w:World}:∀ {xs:List α} {cs:List Value} {f:List Nat},eI R w cs xs f→f=[]
 | [],_,_,h=>h.2
 | _ :: _,_,_,h=>by
  obtain ⟨_,_,f1,f2,_,rfl,h1,h2⟩:=h
  rw [hR.h h1,pW h2];rfl
theorem Sat.unfrzL {α:Type} {R:Rep α} [NoFp R] {w w0 W:World} {Γ:List Asn} {E:TypeId} {F F1:List Nat} {v:Value} {xs:List α} (hS:Sat w0 w (Frz W F :: Γ)) (ho:(aB R E).own W [v] xs F1) (hsub:∀ q∈F1,q∈F):Sat w0 w (Own (aB R E) [v] xs :: Γ):=by
 obtain ⟨hb,_,⟨_,fr,rfl,⟨rfl,h2,h3⟩,hr⟩,hnd,hge⟩:=hS
 have hF:F1=[]∨∃ g,F1=[g]:=by
  rcases ho with ⟨_,_,rfl⟩ | ⟨g,_,_,_,f2,_,_,_,_,_,_,h5,rfl⟩
  ·exact .inl rfl
  ·exact .inr ⟨g,by rw [pW h5]⟩
 have hn:=List.nodup_append.1 hnd
 refine ⟨hb,F1++fr,⟨F1,fr,rfl,(aB R E).own_ext ho fun b hb=>h2 b (hsub b hb),hr⟩,?_,fun b hb=>hge b ?_⟩
 ·rcases hF with rfl | ⟨g,rfl⟩
  ·exact hn.2.1
  ·exact List.nodup_cons.2 ⟨fun hg=>hn.2.2 g (hsub g (by simp)) g hg rfl,hn.2.1⟩
 ·rcases List.mem_append.1 hb with h | h
  ·exact List.mem_append_left _ (hsub b h)
  ·exact List.mem_append_right _ h
abbrev R0_:=aB bI 3
abbrev R2_:=fo bI bI
abbrev R4_:=aB R0_ 23
abbrev R5_:=fo iM R0_
abbrev R6_:=aB R2_ 68
abbrev R7_:=aB R5_ 88
abbrev R9_:=aB R5_ 114
abbrev aR:=aB R6_ 27
abbrev T0_:=List Int
abbrev T1_:=Int × Int
abbrev T2_:=List T0_
abbrev T3_:=List T1_
abbrev T4_:=ByteArray × List Int
abbrev T6_:=List T3_
abbrev T7_:=List T4_
abbrev uS:=List T3_ × List T1_ × List T1_
section
set_option maxRecDepth 100000
set_option maxHeartbeats 4000000
theorem lq {w0:World} {u0:Value} {a0:List Int} {a1:Int} (ha0:R0_.rd w0 [u0] a0) {N:Nat} {r:Int} (F:iD N a0 a1=some r): Calls Tryz.prog 34 #[u0,i_ a1] w0 fun e w'=>e=.returned (i_ r)∧Ext w0 w' := by
 unfold iD at F;refine aJ Tryz.func34 rfl rfl dt ?_;have S:=Sat.start w0;refine sR fun _ Ab=>pa (i_ 0) (en Ab (sR fun _ Ac=>pm (i_ a1) (pm u0 (pe (i_ (a0.length:Int)) (ax rfl ha0) (oB F fun J Aa F=>pe (i_ J) (ft rfl rfl Aa) (pa (i_ J) (en Ac (sg fun _ z9=>sR fun _ Ad=>pm (i_ J) (pe (.bool (decide (J < 0))) (aH rfl rfl) (en Ad (oF F (fun U F=>?_) fun U F=>?_)))))))))))
 ·refine ct U (sR fun _ Ae=>pa (i_ (-1)) (en Ae (ae (tr z9 (aF rfl rfl ?_)))));exact rI F S
 refine cf U (sn z9 (sR fun _ Af=>pm (i_ J) (pa (i_ J) (en Af (ae (aF rfl rfl ?_))))));exact rI F S
theorem pv {w0:World} {a0:ByteArray} {u1:Value} {a1:List Int} {a2:Int} (_:a0.size ≤ 9223372036854775807) (ha1:R0_.rd w0 [u1] a1) {N:Nat} {r:Int} (F:hJ N a0 a1 a2=some r): Calls Tryz.prog 74 #[.agg #[.string a0,u1],i_ a2] w0 fun e w'=>e=.returned (i_ r)∧Ext w0 w' := by
 unfold hJ at F;refine aJ Tryz.func74 rfl rfl dt ?_;have S:=Sat.start w0;refine sR fun _ Ag=>?_;refine be [.string a0,u1] rfl S dt ?_;intro Aq Ab S Ao;refine pa (i_ 0) (en Ag (sR fun _ Ah=>pm (i_ a2) (pe (pt Ab (0 + 0)) (aa rfl) (pe (.string a0) (ab rfl ((S.boxAt 0 rfl) 0 _ rfl)) (pe (i_ (a0.size:Int)) (kz Tryz.underlying9 rfl) (oB F fun J Ae F=>pe (i_ J) (ft rfl rfl Ae) (pa (i_ J) (en Ah (sg fun _ Ac=>sR fun _ Ai=>pm (i_ J) (pe (.bool (decide (J < 0))) (aH rfl rfl) (en Ai (oF F (fun z9 F=>?_) fun z9 F=>?_))))))))))))
 ·refine ct z9 (sg fun _ Aj=>?_);replace S:=S.r0;refine ac (pa (i_ (-1)) (en Aj (ae (tr Ac (aF rfl rfl ?_)))));exact rI F S
 refine cf z9 (sn Ac (sR fun _ Ak=>pe (pt Ab (0 + 1)) (aa rfl) (pe u1 (ab rfl ((S.boxAt 0 rfl) 1 _ rfl)) (pm (i_ J) (oB F fun U Af F=>?_)))));refine ec0 us (lq (S.up ha1) Af) (ca (ag rfl (ag rfl rfl))) S fun Ar Ap S=>?_;refine pa (i_ U) (en Ak (sg fun _ Ad=>sg fun _ Al=>?_));replace S:=S.r0;refine ac (pm (i_ U) (pe (.bool (decide (U < 0))) (aH rfl rfl) (en Al (oF F (fun Aa F=>?_) fun Aa F=>?_))))
 ·refine ct Aa (sR fun _ Am=>pa (i_ (-1)) (en Am (ae (tr Ad (aF rfl rfl ?_)))));exact rI F S
 refine cf Aa (sn Ad (sR fun _ An=>pm (i_ U) (pa (i_ U) (en An (ae (aF rfl rfl ?_))))));exact rI F S
theorem oO {w0:World} {u0:Value} {a0:List T4_} {a1:Int} (ha0:R9_.rd w0 [u0] a0) {N:Nat} {r:Int} (F:iS N a0 a1=some r): Calls Tryz.prog 33 #[u0,i_ a1] w0 fun e w'=>e=.returned (i_ r)∧Ext w0 w' := by
 unfold iS at F;refine aJ Tryz.func33 rfl rfl dt ?_;have S:=Sat.start w0;refine sR fun _ AB=>pa (i_ 0) (en AB (sR fun _ AC=>pm (i_ a1) (pm u0 (pe (i_ (a0.length:Int)) (ax rfl ha0) (oB F fun z9 At F=>pe (i_ z9) (ft rfl rfl At) (pa (i_ z9) (en AC (sg fun _ Al=>sR fun _ AD=>pm (i_ z9) (pe (.bool (decide (z9 < 0))) (aH rfl rfl) (en AD (oF F (fun Aa F=>?_) fun Aa F=>?_)))))))))))
 ·refine ct Aa (sR fun _ AE=>pa (i_ (-1)) (en AE (ae (tr Al (aF rfl rfl ?_)))));exact rI F S
 refine cf Aa (sn Al (sg fun _ Am=>sR fun _ AF=>pa (i_ 0) (en AF (bg fun _ An=>?_))));obtain ⟨AG,hL,Ai⟩:=ob F;refine aE (fun k e w=>∃ (U:Int),∃ (J:Int),e 0=u0∧e 1=i_ U∧e 5=i_ J∧Sat w0 w []∧gS N k a0 U J=some AG) N ?_ ?_ ?_
 ·exact ⟨z9,0,rfl,rfl,rfl,S,hL⟩
 ·rintro e w ⟨_,_,_,_,_,_,hz⟩; exact nn hz
 rintro k AP AQ ⟨U,J,Ab,Aj,Ac,S,F⟩;refine gn fun _ Ag=>sg fun _ Ao=>sR fun _ AH=>pM (i_ J) Ac (pM u0 Ab (pe (i_ (a0.length:Int)) (ax rfl ha0) (pe (.bool (decide (J < (a0.length:Int)))) (aH rfl rfl) (en AH (oF F (fun Ad F=>?_) fun Ad F=>?_)))))
 ·refine ct Ad (sn Ao (sg fun _ Ap=>bg fun _ Aq=>sR fun _ AI=>pM u0 Ab (pM (i_ J) Ac (oB F fun Ar Au F=>?_))));refine aU (wA:=w0) rfl ha0 rfl dt rfl Au dt ?_;intro AR AN AS Av Aw;obtain ⟨_,_,rfl,Ax,Ak⟩:=Av;obtain ⟨rfl,Ay⟩:=Ax;obtain ⟨As,rfl⟩:=aM Ak;refine pe (.agg #[.string Ar.1,As]) (am (cs:=[.string Ar.1,As]) rfl rfl (ar S.below Aw)) (pM (i_ U) Aj (oB F fun Ae Az F=>?_));refine ec0 yB (pv Ay (S.up Ak) Az) (ca (ag rfl (ag rfl rfl))) S fun AT AO S=>?_;refine pa (i_ Ae) (en AI (sR fun _ AJ=>pm (i_ Ae) (pe (.bool (decide (Ae < 0))) (aH rfl rfl) (en AJ (oF F (fun Af F=>?_) fun Af F=>?_)))))
  ·refine ct Af (sR fun _ AK=>pa (i_ (-1)) (en AK (ae (br Aq (tr Ap (tr Ag (br An (tr Am ?_))))))));replace F:=exL F Ai;refine aF rfl rfl ?_;exact rI F S
  refine cf Af (bl (bn Aq (tn Ap (ac (pM (i_ J) Ac (oB F fun Ah AA F=>pe (i_ Ah) (aD rfl rfl AA) (pa (i_ Ah) (en Ag ?_))))))));replace S:=S.keep 0;exact ⟨Ae,Ah,Ab,rfl,rfl,S,F⟩
 refine cf Ad (aG (tx Ao (tx Ag ?_)));replace F:=exA F Ai;refine bS An (tn Am (sR fun _ AM=>pM (i_ U) Aj (pa (i_ U) (en AM (ae (aF rfl rfl ?_))))));exact rI F S
theorem oy {w0:World} {a0:Int} {u1:Value} {a1:List T4_} {u2:Value} {a2:List Int} {a3:Int} (ha1:R9_.rd w0 [u1] a1) (ha2:R0_.rd w0 [u2] a2) {N:Nat} {r:Int} (F:i3 N a0 a1 a2 a3=some r): Calls Tryz.prog 6 #[.agg #[i_ a0,u1,u2],i_ a3] w0 fun e w'=>e=.returned (i_ r)∧Ext w0 w' := by
 unfold i3 at F;refine aJ Tryz.func6 rfl rfl dt ?_;have S:=Sat.start w0;refine sR fun _ Ag=>?_;refine be [i_ a0,u1,u2] rfl S dt ?_;intro Ar Ab S Ao;refine pa (i_ 0) (en Ag (sR fun _ Ah=>pe (pt Ab (0 + 1)) (aa rfl) (pe u1 (ab rfl ((S.boxAt 0 rfl) 1 _ rfl)) (pm (i_ a3) (oB F fun U Ae F=>?_)))));refine ec0 xX (oO (S.up ha1) Ae) (ca (ag rfl (ag rfl rfl))) S fun As Ap S=>?_;refine pa (i_ U) (en Ah (sg fun _ Ac=>sR fun _ Ai=>pm (i_ U) (pe (.bool (decide (U < 0))) (aH rfl rfl) (en Ai (oF F (fun z9 F=>?_) fun z9 F=>?_)))))
 ·refine ct z9 (sg fun _ Aj=>?_);replace S:=S.r0;refine ac (pa (i_ (-1)) (en Aj (ae (tr Ac (aF rfl rfl ?_)))));exact rI F S
 refine cf z9 (sn Ac (sR fun _ Ak=>pe (pt Ab (0 + 2)) (aa rfl) (pe u2 (ab rfl ((S.boxAt 0 rfl) 2 _ rfl)) (pm (i_ U) (oB F fun J Af F=>?_)))));refine ec0 us (lq (S.up ha2) Af) (ca (ag rfl (ag rfl rfl))) S fun At Aq S=>?_;refine pa (i_ J) (en Ak (sg fun _ Ad=>sg fun _ Al=>?_));replace S:=S.r0;refine ac (pm (i_ J) (pe (.bool (decide (J < 0))) (aH rfl rfl) (en Al (oF F (fun Aa F=>?_) fun Aa F=>?_))))
 ·refine ct Aa (sR fun _ Am=>pa (i_ (-1)) (en Am (ae (tr Ad (aF rfl rfl ?_)))));exact rI F S
 refine cf Aa (sn Ad (sR fun _ An=>pm (i_ J) (pa (i_ J) (en An (ae (aF rfl rfl ?_))))));exact rI F S
theorem di {w0:World} {a0:Int} {a1:Int} {a2:Int}  {N:Nat} {r:Bool} (F:cu N a0 a1 a2=some r): Calls Tryz.prog 35 #[i_ a0,i_ a1,i_ a2] w0 fun e w'=>e=.returned (.bool r)∧Ext w0 w' := by
 unfold cu at F;refine aJ Tryz.func35 rfl rfl dt ?_;have S:=Sat.start w0;refine sR fun _ z9=>pa (.bool false) (en z9 (sR fun _ U=>pm (i_ a0) (pm (i_ a1) (pe (.bool (decide (a1 ≤ a0))) (lz rfl rfl) (pm (.bool (decide (a1 ≤ a0))) (oF F (fun J F=>?_) fun J F=>?_))))))
 ·refine ei J (pm (i_ a0) (ei J (pm (i_ a2) (ei J (pe (.bool (decide (a0 ≤ a2))) (lD rfl rfl) (pe (.bool (decide (a0 ≤ a2))) (av rfl J rfl) (pa (.bool (decide (a0 ≤ a2))) (en U (ae (aF rfl rfl ?_))))))))));exact rB F S
 refine eo J (eo J (eo J (pe (.bool false) (az rfl J rfl) (pa (.bool false) (en U (ae (aF rfl rfl ?_)))))));exact rB F S
theorem iY {w0:World} {a0:ByteArray} {u1:Value} {a1:List Int} {a2:Int} (_:a0.size ≤ 9223372036854775807) (ha1:R0_.rd w0 [u1] a1) {N:Nat} {r:Bool} (F:ez N a0 a1 a2=some r): Calls Tryz.prog 51 #[.agg #[.string a0,u1],i_ a2] w0 fun e w'=>e=.returned (.bool r)∧Ext w0 w' := by
 unfold ez at F;refine aJ Tryz.func51 rfl rfl dt ?_;have S:=Sat.start w0;refine sR fun _ Ar=>?_;refine be [.string a0,u1] rfl S dt ?_;intro AA U S Ay;refine pa (.bool false) (en Ar (sg fun _ Ah=>sR fun _ As=>pa (i_ 0) (en As (bg fun _ Ai=>?_))));obtain ⟨At,hL,Af⟩:=ob F;refine aE (fun k e w=>∃ (J:Int),e 1=i_ a2∧e 2=pt U 0∧e 5=i_ J∧Sat w0 w [Box U 88 [.string a0,u1]]∧b9 N k a2 a0 a1 J=some At) N ?_ ?_ ?_
 ·exact ⟨0,rfl,rfl,rfl,S,hL⟩
 ·rintro e w ⟨_,_,_,_,_,hz⟩; exact nn hz
 rintro k AB AC ⟨J,Ag,z9,Aa,S,F⟩;refine gn fun _ Ad=>sg fun _ Aj=>sR fun _ Au=>pM (i_ J) Aa (pe (pt U (0 + 1)) (aa z9) (pe u1 (ab rfl ((S.boxAt 0 rfl) 1 _ rfl)) (pe (i_ (a1.length:Int)) (ax rfl ha1) (pe (.bool (decide (J < (a1.length:Int)))) (aH rfl rfl) (en Au (oF F (fun Ab F=>?_) fun Ab F=>?_))))))
 ·refine ct Ab (sn Aj (sg fun _ Ak=>bg fun _ Al=>sR fun _ Av=>pe (pt U (0 + 1)) (aa z9) (pe u1 (ab rfl ((S.boxAt 0 rfl) 1 _ rfl)) (pM (i_ J) Aa (oB F fun Am An F=>?_)))));refine aU (wA:=w0) rfl ha1 rfl dt rfl An dt ?_;intro AD Az AE Ao Ap;obtain rfl:=Ao;refine pe (i_ Am) (ab rfl ((ar S.below Ap) 0 _ rfl)) (pM (i_ a2) Ag (pe (.bool (Am == a2)) (dq rfl rfl) (en Av (oF F (fun Ac F=>?_) fun Ac F=>?_))))
  ·refine ct Ac (sg fun _ Aw=>?_);replace S:=S.r0;refine ac (pa (.bool true) (en Aw (ae (br Al (tr Ak (tr Ad (br Ai (tr Ah ?_))))))));replace F:=exL F Af;refine aF rfl rfl ?_;exact rB F S
  refine cf Ac (bl (bn Al (tn Ak (ac (pM (i_ J) Aa (oB F fun Ae Aq F=>pe (i_ Ae) (aD rfl rfl Aq) (pa (i_ Ae) (en Ad ?_))))))));replace S:=S.keep 1;exact ⟨Ae,Ag,z9,rfl,S,F⟩
 refine cf Ab (aG (tx Aj (tx Ad ?_)));replace F:=exA F Af;refine bS Ai (tn Ah (sg fun _ Ax=>?_));replace S:=S.r0;refine ac (pa (.bool false) (en Ax (ae (aF rfl rfl ?_))));exact rB F S
theorem mq {w0:World} {a0:ByteArray} (_:a0.size ≤ 9223372036854775807) {N:Nat} {r:Bool} (F:gE N a0=some r): Calls Tryz.prog 87 #[.string a0] w0 fun e w'=>e=.returned (.bool r)∧Ext w0 w' := by
 unfold gE at F;refine aJ Tryz.func87 rfl rfl dt ?_;have S:=Sat.start w0;refine sR fun _ As=>pa (.bool false) (en As (sg fun _ Af=>sR fun _ At=>pa (i_ 0) (en At (bg fun _ Ag=>?_))));obtain ⟨Au,hL,Ab⟩:=ob F;refine aE (fun k e w=>∃ (U:Int),e 0=.string a0∧e 3=i_ U∧Sat w0 w []∧eO N k a0 U=some Au) N ?_ ?_ ?_
 ·exact ⟨0,rfl,rfl,S,hL⟩
 ·rintro e w ⟨_,_,_,_,hz⟩; exact nn hz
 rintro k AB AC ⟨U,z9,Aa,S,F⟩;refine gn fun _ Ac=>sg fun _ Am=>sR fun _ Av=>pM (i_ U) Aa (pM (.string a0) z9 (pe (i_ (a0.size:Int)) (kz Tryz.underlying9 rfl) (pe (.bool (decide (U < (a0.size:Int)))) (aH rfl rfl) (en Av (oF F (fun Ad F=>?_) fun Ad F=>?_)))))
 ·refine ct Ad (sn Am (sg fun _ Ah=>bg fun _ Ai=>sR fun _ An=>pM (.string a0) z9 (pM (i_ U) Aa (oB F fun Aj Ao F=>pe (.int .u8 Aj) (qa Tryz.underlying9 rfl rfl Ao) (pe (.bool (decide (Aj < 97))) (aH rfl rfl) (pm (.bool (decide (Aj < 97))) (oF F (fun J F=>?_) fun J F=>?_)))))))
  ·refine eo J (eo J (eo J (eo J (pe (.bool true) (av rfl J rfl) (en An (ct rfl (sR fun _ Aw=>pa (.bool false) (en Aw (ae (br Ai (tr Ah (tr Ac (br Ag (tr Af ?_))))))))))))));replace F:=exL F Ab;refine aF rfl rfl ?_;exact rB F S
  refine ei J (pM (.string a0) z9 (ei J (pM (i_ U) Aa (ei J (oB F fun Ak Ap F=>pe (.int .u8 Ak) (qa Tryz.underlying9 rfl rfl Ap) (ei J (pe (.bool (decide (122 < Ak))) (eF rfl rfl) (pe (.bool (decide (122 < Ak))) (az rfl J rfl) (en An (oF F (fun Ae F=>?_) fun Ae F=>?_))))))))))
  ·refine ct Ae (sR fun _ Ax=>pa (.bool false) (en Ax (ae (br Ai (tr Ah (tr Ac (br Ag (tr Af ?_))))))));replace F:=exL F Ab;refine aF rfl rfl ?_;exact rB F S
  refine cf Ae (bl (bn Ai (tn Ah (ac (pM (i_ U) Aa (oB F fun Al Aq F=>pe (i_ Al) (aD rfl rfl Aq) (pa (i_ Al) (en Ac ?_))))))));replace S:=S.keep 0;exact ⟨Al,z9,rfl,S,F⟩
 refine cf Ad (aG (tx Am (tx Ac ?_)));replace F:=exA F Ab;refine bS Ag (tn Af (sR fun _ Ay=>pM (.string a0) z9 (pe (i_ (a0.size:Int)) (kz Tryz.underlying9 rfl) (oB F fun Az Ar F=>?_))));refine ec0 gC (di Ar) (ca (ag rfl (ag rfl (ag rfl rfl)))) S fun AD AA S=>?_;refine pa (.bool Az) (en Ay (ae (aF rfl rfl ?_)));exact rB F S
theorem pd {w0:World} {u0:Value} {a0:List Int} {a1:Int} (ha0:R0_.rd w0 [u0] a0) {N:Nat} {r:Int} (F:jj N a0 a1=some r): Calls Tryz.prog 88 #[u0,i_ a1] w0 fun e w'=>e=.returned (i_ r)∧Ext w0 w' := by
 unfold jj at F;refine aJ Tryz.func88 rfl rfl dt ?_;have S:=Sat.start w0;refine sR fun _ Aq=>pa (i_ 0) (en Aq (sg fun _ Ag=>sR fun _ Ar=>pa (i_ 0) (en Ar (bg fun _ Ah=>?_))));obtain ⟨As,hL,Ae⟩:=ob F;refine aE (fun k e w=>∃ (J:Int),e 0=u0∧e 1=i_ a1∧e 5=i_ J∧Sat w0 w []∧iq N k a0 a1 J=some As) N ?_ ?_ ?_
 ·exact ⟨0,rfl,rfl,rfl,S,hL⟩
 ·rintro e w ⟨_,_,_,_,_,hz⟩; exact nn hz
 rintro k Ay Az ⟨J,z9,Af,U,S,F⟩;refine gn fun _ Ac=>sg fun _ Ai=>sR fun _ At=>pM (i_ J) U (pM u0 z9 (pe (i_ (a0.length:Int)) (ax rfl ha0) (pe (.bool (decide (J < (a0.length:Int)))) (aH rfl rfl) (en At (oF F (fun Aa F=>?_) fun Aa F=>?_)))))
 ·refine ct Aa (sn Ai (sg fun _ Aj=>bg fun _ Ak=>sR fun _ Au=>pM u0 z9 (pM (i_ J) U (oB F fun Al Am F=>?_))));refine aU (wA:=w0) rfl ha0 rfl dt rfl Am dt ?_;intro AA Ax AB An Ao;obtain rfl:=An;refine pe (i_ Al) (ab rfl ((ar S.below Ao) 0 _ rfl)) (pM (i_ a1) Af (pe (.bool (Al == a1)) (dq rfl rfl) (en Au (oF F (fun Ab F=>?_) fun Ab F=>?_))))
  ·refine ct Ab (sR fun _ Av=>pM (i_ J) U (pa (i_ J) (en Av (ae (br Ak (tr Aj (tr Ac (br Ah (tr Ag ?_)))))))));replace F:=exL F Ae;refine aF rfl rfl ?_;exact rI F S
  refine cf Ab (bl (bn Ak (tn Aj (ac (pM (i_ J) U (oB F fun Ad Ap F=>pe (i_ Ad) (aD rfl rfl Ap) (pa (i_ Ad) (en Ac ?_))))))));replace S:=S.keep 0;exact ⟨Ad,z9,Af,rfl,S,F⟩
 refine cf Aa (aG (tx Ai (tx Ac ?_)));replace F:=exA F Ae;refine bS Ah (tn Ag (sR fun _ Aw=>pa (i_ (-1)) (en Aw (ae (aF rfl rfl ?_)))));exact rI F S
theorem l5 {w0:World} {a0:Int} {u1:Value} {a1:List T4_} {u2:Value} {a2:List Int} (ha1:R7_.rd w0 [u1] a1) (ha2:R0_.rd w0 [u2] a2) {N:Nat} {r:Bool} (F:gt N a0 a1 a2=some r): Calls Tryz.prog 50 #[.agg #[i_ a0,u1,u2]] w0 fun e w'=>e=.returned (.bool r)∧Ext w0 w' := by
 unfold gt at F;refine aJ Tryz.func50 rfl rfl dt ?_;have S:=Sat.start w0;refine sR fun _ Cz=>?_;refine be [i_ a0,u1,u2] rfl S dt ?_;intro Dw U S Dj;refine pa (.bool false) (en Cz (sg fun _ Au=>sR fun _ AO=>pe (pt U (0 + 0)) (aa rfl) (pe (i_ a0) (ab rfl ((S.boxAt 0 rfl) 0 _ rfl)) (oB F fun Bf BC F=>?_))));refine ec0 gC (di BC) (ca (ag rfl (ag rfl (ag rfl rfl)))) S fun Dx Dk S=>?_;refine pe (.bool (!Bf)) (aK rfl) (pm (.bool (!Bf)) (oF F (fun Ac F=>?_) fun Ac F=>?_))
 ·refine ei (aj Ac) (pe (pt U (0 + 1)) (aa rfl) (ei (aj Ac) (pe u1 (ab rfl ((S.boxAt 0 rfl) 1 _ rfl)) (ei (aj Ac) (pe (i_ (a1.length:Int)) (ax rfl ha1) (ei (aj Ac) (oB F fun AP BD F=>?_)))))));refine ec0 gC (di BD) (ca (ag rfl (ag rfl (ag rfl rfl)))) S fun Dy Dl S=>?_;refine ei (aj Ac) (pe (.bool (!AP)) (aK rfl) (pe (.bool (!AP)) (az rfl (aj Ac) rfl) (pm (.bool (!AP)) (oF F (fun Ab F=>?_) fun Ab F=>?_))))
  ·refine ei (aj Ab) (pe (pt U (0 + 2)) (aa rfl) (ei (aj Ab) (pe u2 (ab rfl ((S.boxAt 0 rfl) 2 _ rfl)) (ei (aj Ab) (pe (i_ (a2.length:Int)) (ax rfl ha2) (ei (aj Ab) (pe (pt U (0 + 0)) (aa rfl) (ei (aj Ab) (pe (i_ a0) (ab rfl ((S.boxAt 0 rfl) 0 _ rfl)) (ei (aj Ab) (pe (.bool (decide (a0 < (a2.length:Int)))) (eF rfl rfl) (pe (.bool (decide (a0 < (a2.length:Int)))) (az rfl (aj Ab) rfl) (en AO (oF F (fun Av F=>?_) fun Av F=>?_))))))))))))))
   ·refine ct Av (sg fun _ CA=>?_);replace S:=S.r0;refine ac (pa (.bool false) (en CA (ae (tr Au (aF rfl rfl ?_)))));exact rB F S
   refine cf Av (sn Au (sg fun _ Aw=>sR fun _ CB=>pa (i_ 0) (en CB (bg fun _ Ax=>?_))));obtain ⟨CC,hL,Ao⟩:=ob F;refine aE (fun k e w=>∃ (Ad:Int),e 1=pt U 0∧e 3=i_ Ad∧Sat w0 w [Box U 32 [i_ a0,u1,u2]]∧cX N k a0 a1 a2 Ad=some CC) N ?_ ?_ ?_
   ·exact ⟨0,rfl,rfl,S,hL⟩
   ·rintro e w ⟨_,_,_,_,hz⟩; exact nn hz
   rintro k Dz DA ⟨Ad,Ak,Ap,S,F⟩;refine gn fun _ At=>sg fun _ Bg=>sR fun _ CD=>pM (i_ Ad) Ap (pe (pt U (0 + 1)) (aa Ak) (pe u1 (ab rfl ((S.boxAt 0 rfl) 1 _ rfl)) (pe (i_ (a1.length:Int)) (ax rfl ha1) (pe (.bool (decide (Ad < (a1.length:Int)))) (aH rfl rfl) (en CD (oF F (fun Ay F=>?_) fun Ay F=>?_))))))
   ·refine ct Ay (sn Bg (sg fun _ Az=>bg fun _ AA=>sg fun _ AQ=>sR fun _ Bh=>pe (pt U (0 + 1)) (aa Ak) (pe u1 (ab rfl ((S.boxAt 0 rfl) 1 _ rfl)) (pM (i_ Ad) Ap (oB F fun CE BE F=>?_)))));refine aU (wA:=w0) rfl ha1 rfl dt rfl BE dt ?_;intro CF BF DB BG BH;obtain ⟨_,_,rfl,BI,BJ⟩:=BG;obtain ⟨rfl,BK⟩:=BI;obtain ⟨DC,rfl⟩:=aM BJ;refine pe (pt CF (BF + 0)) (aa rfl) (pe (.string CE.1) (ab rfl ((ar S.below BH) 0 _ rfl)) (oB F fun Bi BL F=>?_));refine ec0 xU (mq BK BL) (ca (ag rfl rfl)) S fun DD Dm S=>?_;refine pe (.bool (!Bi)) (aK rfl) (pm (.bool (!Bi)) (oF F (fun z9 F=>?_) fun z9 F=>?_))
    ·refine ei (aj z9) (pe (pt U (0 + 1)) (aa Ak) (ei (aj z9) (pe u1 (ab rfl ((S.boxAt 0 rfl) 1 _ rfl)) (ei (aj z9) (pM (i_ Ad) Ap (ei (aj z9) (oB F fun CG BM F=>?_)))))));refine aU (wA:=w0) rfl ha1 rfl dt rfl BM dt ?_;intro CH BN DE BO BP;obtain ⟨_,_,rfl,BQ,A7⟩:=BO;obtain ⟨rfl,Dn⟩:=BQ;obtain ⟨CI,rfl⟩:=aM A7;refine ei (aj z9) (pe (pt CH (BN + 1)) (aa rfl) (ei (aj z9) (pe CI (ab rfl ((ar S.below BP) 1 _ rfl)) (ei (aj z9) (pe (i_ (CG.2.length:Int)) (ax rfl A7) (ei (aj z9) (oB F fun Bj BR F=>?_)))))));refine ec0 gC (di BR) (ca (ag rfl (ag rfl (ag rfl rfl)))) S fun DF Do S=>?_;refine ei (aj z9) (pe (.bool (!Bj)) (aK rfl) (pe (.bool (!Bj)) (az rfl (aj z9) rfl) (en Bh (oF F (fun AB F=>?_) fun AB F=>?_))))
     ·refine cf (aj AB) (sn AQ (sR fun _ CJ=>pa (i_ 0) (en CJ (bg fun _ Bk=>?_))));obtain ⟨CK,hL,A8⟩:=ob F;refine aE (fun k e w=>∃ (Ai:Int),e 1=pt U 0∧e 3=i_ Ad∧e 4=i_ Ai∧Sat w0 w [Box U 32 [i_ a0,u1,u2]]∧c5 N k a0 a1 a2 Ad Ai=some CK) N ?_ ?_ ?_
      ·exact ⟨0,Ak,Ap,rfl,S,hL⟩
      ·rintro e w ⟨_,_,_,_,_,hz⟩; exact nn hz
      rintro k DG DH ⟨Ai,Al,Aq,AC,S,F⟩;refine gn fun _ AR=>sg fun _ Bl=>sR fun _ CL=>pM (i_ Ai) AC (pe (pt U (0 + 1)) (aa Al) (pe u1 (ab rfl ((S.boxAt 0 rfl) 1 _ rfl)) (pM (i_ Ad) Aq (oB F fun Bm BS F=>?_))));refine aU (wA:=w0) rfl ha1 rfl dt rfl BS dt ?_;intro CM BT DI BU BV;obtain ⟨_,_,rfl,BW,A9⟩:=BU;obtain ⟨rfl,Dp⟩:=BW;obtain ⟨CN,rfl⟩:=aM A9;refine pe (pt CM (BT + 1)) (aa rfl) (pe CN (ab rfl ((ar S.below BV) 1 _ rfl)) (pe (i_ (Bm.2.length:Int)) (ax rfl A9) (pe (.bool (decide (Ai < (Bm.2.length:Int)))) (aH rfl rfl) (en CL (oF F (fun AD F=>?_) fun AD F=>?_)))))
      ·refine ct AD (sn Bl (sg fun _ Bn=>bg fun _ Bo=>sg fun _ CO=>?_));refine e7 (by kernel_rfl) (by kernel_rfl) ?_;refine qe (pt U (0 + 1)) (aa Al) (qe u1 (ab rfl ((S.boxAt 0 rfl) 1 _ rfl)) (qM (i_ Ad) Aq (oB F fun DJ BX F=>?_)));refine cz (wA:=w0) rfl ha1 rfl dt rfl BX dt ?_;intro CP BY DK BZ B0;obtain ⟨_,_,rfl,B1,Ba⟩:=BZ;obtain ⟨rfl,Dq⟩:=B1;obtain ⟨CQ,rfl⟩:=aM Ba;refine qe (pt CP (BY + 1)) (aa rfl) (qe CQ (ab rfl ((ar S.below B0) 1 _ rfl)) (qM (i_ Ai) AC (oB F fun CR B2 F=>?_)));refine cz (wA:=w0) rfl Ba rfl dt rfl B2 dt ?_;intro DL Dr DM B3 B4;obtain rfl:=B3;refine qe (i_ CR) (ab rfl ((ar S.below B4) 0 _ rfl)) (qe (pt U (0 + 0)) (aa Al) (qe (i_ a0) (ab rfl ((S.boxAt 0 rfl) 0 _ rfl)) (oB F fun CS B5 F=>qe (i_ CS) (ft rfl rfl B5) (oB F fun Bp B6 F=>?_))));refine gi (.bool Bp) gC (fun w' hw'=>di B6) (ca (ag rfl (ag rfl (ag rfl rfl)))) dt ?_;refine qe (.bool (!Bp)) (aK rfl) (e5 ?_);intro DN B7;replace S:=S.ext B7;refine tn CO (oF F (fun AE F=>?_) fun AE F=>?_)
       ·refine cf (aj AE) (bl (bn Bo (tn Bn (ac (pM (i_ Ai) AC (oB F fun AS B8 F=>pe (i_ AS) (aD rfl rfl B8) (pa (i_ AS) (en AR ?_))))))));replace S:=S.keep 1;exact ⟨AS,Al,Aq,rfl,S,F⟩
       refine ct (ai AE) (sg fun _ CT=>?_);replace S:=S.r0;refine ac (pa (.bool false) (en CT (ae (br Bo (tr Bn (tr AR (br Bk (br AA (tr Az (tr At (br Ax (tr Aw ?_))))))))))));replace F:=exL F A8;replace F:=exL F Ao;refine aF rfl rfl ?_;exact rB F S
      refine cf AD (aG (tx Bl (tx AR ?_)));replace F:=exA F A8;refine bS Bk (bn AA (tn Az (ac (pM (i_ Ad) Aq (oB F fun AT B9 F=>pe (i_ AT) (aD rfl rfl B9) (pa (i_ AT) (en At ?_)))))));replace S:=S.keep 1;exact ⟨AT,Al,rfl,S,F⟩
     refine ct (ai AB) (sg fun _ CU=>?_);replace S:=S.r0;refine ac (pa (.bool false) (en CU (ae (tr AQ (br AA (tr Az (tr At (br Ax (tr Aw ?_)))))))));replace F:=exL F Ao;refine aF rfl rfl ?_;exact rB F S
    refine eo (ai z9) (eo (ai z9) (eo (ai z9) (eo (ai z9) (eo (ai z9) (eo (ai z9) (eo (ai z9) (eo (ai z9) (eo (ai z9) (pe (.bool true) (av rfl (ai z9) rfl) (en Bh (ct rfl (sg fun _ CV=>?_))))))))))));replace S:=S.r0;refine ac (pa (.bool false) (en CV (ae (tr AQ (br AA (tr Az (tr At (br Ax (tr Aw ?_)))))))));replace F:=exL F Ao;refine aF rfl rfl ?_;exact rB F S
   refine cf Ay (aG (tx Bg (tx At ?_)));replace F:=exA F Ao;refine bS Ax (tn Aw (sg fun _ Bq=>sR fun _ CX=>pa (i_ 0) (en CX (bg fun _ Br=>?_))));obtain ⟨CY,hL,Bb⟩:=ob F;refine aE (fun k e w=>∃ (Ae:Int),e 1=pt U 0∧e 5=i_ Ae∧Sat w0 w [Box U 32 [i_ a0,u1,u2]]∧cY N k a0 a1 a2 Ae=some CY) N ?_ ?_ ?_
   ·exact ⟨0,Ak,rfl,S,hL⟩
   ·rintro e w ⟨_,_,_,_,hz⟩; exact nn hz
   rintro k DO DP ⟨Ae,AF,Bc,S,F⟩;refine gn fun _ AU=>sg fun _ Bs=>sR fun _ CZ=>pM (i_ Ae) Bc (pe (pt U (0 + 0)) (aa AF) (pe (i_ a0) (ab rfl ((S.boxAt 0 rfl) 0 _ rfl)) (pe (.bool (decide (Ae < a0))) (aH rfl rfl) (en CZ (oF F (fun AG F=>?_) fun AG F=>?_)))))
   ·refine ct AG (sn Bs (sg fun _ Bt=>bg fun _ Bu=>sR fun _ C0=>pa (.bool false) (en C0 (sg fun _ C1=>sR fun _ C2=>pa (i_ 0) (en C2 (bg fun _ C3=>?_))))));obtain ⟨C4,hL,Ca⟩:=ob F;refine aE (fun k e w=>∃ (Aj:Bool),∃ (Ag:Int),e 1=pt U 0∧e 5=i_ Ae∧e 6=.bool Aj∧e 7=i_ Ag∧Sat w0 w [Box U 32 [i_ a0,u1,u2]]∧cG N k a0 a1 a2 Ae Aj Ag=some C4) N ?_ ?_ ?_
    ·exact ⟨false,0,AF,Bc,rfl,rfl,S,hL⟩
    ·rintro e w ⟨_,_,_,_,_,_,_,hz⟩; exact nn hz
    rintro k DQ DR ⟨Aj,Ag,Am,Ar,Bd,As,S,F⟩;refine gn fun _ AV=>sg fun _ Bv=>sR fun _ C5=>pM (i_ Ag) As (pe (pt U (0 + 1)) (aa Am) (pe u1 (ab rfl ((S.boxAt 0 rfl) 1 _ rfl)) (pe (i_ (a1.length:Int)) (ax rfl ha1) (pe (.bool (decide (Ag < (a1.length:Int)))) (aH rfl rfl) (en C5 (oF F (fun AH F=>?_) fun AH F=>?_))))))
    ·refine ct AH (sn Bv (sg fun _ Bw=>bg fun _ Bx=>ac (pM (.bool Aj) Bd (pm (.bool Aj) (oF F (fun Aa F=>?_) fun Aa F=>?_)))))
     ·refine eo Aa (eo Aa (eo Aa (eo Aa (eo Aa (eo Aa (eo Aa (pe (.bool true) (av rfl Aa rfl) (pa (.bool true) (ah (bn Bx (tn Bw (ac (pM (i_ Ag) As (oB F fun AW Cb F=>pe (i_ AW) (aD rfl rfl Cb) (pa (i_ AW) (en AV ?_))))))))))))))));replace S:=S.keep 1;exact ⟨true,AW,Am,Ar,rfl,rfl,S,F⟩
     refine ei Aa (pe (pt U (0 + 1)) (aa Am) (ei Aa (pe u1 (ab rfl ((S.boxAt 0 rfl) 1 _ rfl)) (ei Aa (pM (i_ Ag) As (ei Aa (oB F fun By Cc F=>?_)))))));refine aU (wA:=w0) rfl ha1 rfl dt rfl Cc dt ?_;intro DS Ds DT Cd Ce;obtain ⟨_,_,rfl,Cf,Be⟩:=Cd;obtain ⟨rfl,Cg⟩:=Cf;obtain ⟨Bz,rfl⟩:=aM Be;refine ei Aa (pe (.agg #[.string By.1,Bz]) (am (cs:=[.string By.1,Bz]) rfl rfl (ar S.below Ce)) (ei Aa (pM (i_ Ae) Ar (ei Aa (oB F fun AX Ch F=>?_)))));refine ec0 ue (iY Cg (S.up Be) Ch) (ca (ag rfl (ag rfl rfl))) S fun DU Dt S=>?_;refine pe (.bool AX) (az rfl Aa rfl) (pa (.bool AX) (ah (bn Bx (tn Bw (ac (pM (i_ Ag) As (oB F fun AY Ci F=>pe (i_ AY) (aD rfl rfl Ci) (pa (i_ AY) (en AV ?_)))))))));replace S:=S.keep 1;exact ⟨AX,AY,Am,Ar,rfl,rfl,S,F⟩
    refine cf AH (aG (tx Bv (tx AV ?_)));replace F:=exB F Ca;refine bS C3 (tn C1 (sR fun _ C6=>pM (.bool Aj) Bd (pe (.bool (!Aj)) (aK rfl) (en C6 (oF F (fun AI F=>?_) fun AI F=>?_)))))
    ·refine cf (aj AI) (bl (bn Bu (tn Bt (ac (pM (i_ Ae) Ar (oB F fun AZ Cj F=>pe (i_ AZ) (aD rfl rfl Cj) (pa (i_ AZ) (en AU ?_))))))));replace S:=S.keep 1;exact ⟨AZ,Am,rfl,S,F⟩
    refine ct (ai AI) (sg fun _ C7=>?_);replace S:=S.r0;refine ac (pa (.bool false) (en C7 (ae (br Bu (tr Bt (tr AU (br Br (tr Bq ?_))))))));replace F:=exL F Bb;refine aF rfl rfl ?_;exact rB F S
   refine cf AG (aG (tx Bs (tx AU ?_)));replace F:=exA F Bb;refine bS Br (tn Bq (sg fun _ A0=>sR fun _ C8=>pa (i_ 0) (en C8 (bg fun _ A1=>?_))));obtain ⟨C9,hL,AJ⟩:=ob F;refine aE (fun k e w=>∃ (Af:Int),e 1=pt U 0∧e 8=i_ Af∧Sat w0 w [Box U 32 [i_ a0,u1,u2]]∧c6 N k a0 a1 a2 Af=some C9) N ?_ ?_ ?_
   ·exact ⟨0,AF,rfl,S,hL⟩
   ·rintro e w ⟨_,_,_,_,hz⟩; exact nn hz
   rintro k DV DW ⟨Af,Ah,An,S,F⟩;refine gn fun _ AK=>sg fun _ BA=>sR fun _ Da=>pM (i_ Af) An (pe (pt U (0 + 2)) (aa Ah) (pe u2 (ab rfl ((S.boxAt 0 rfl) 2 _ rfl)) (pe (i_ (a2.length:Int)) (ax rfl ha2) (pe (.bool (decide (Af < (a2.length:Int)))) (aH rfl rfl) (en Da (oF F (fun AM F=>?_) fun AM F=>?_))))))
   ·refine ct AM (sn BA (sg fun _ A2=>bg fun _ A3=>sg fun _ BB=>?_));refine e7 (by kernel_rfl) (by kernel_rfl) ?_;refine qe (pt U (0 + 2)) (aa Ah) (qe u2 (ab rfl ((S.boxAt 0 rfl) 2 _ rfl)) (qM (i_ Af) An (oB F fun Db Ck F=>?_)));refine cz (wA:=w0) rfl ha2 rfl dt rfl Ck dt ?_;intro DX Du DY Cl Cm;obtain rfl:=Cl;refine qe (i_ Db) (ab rfl ((ar S.below Cm) 0 _ rfl)) (qe (pt U (0 + 0)) (aa Ah) (qe (i_ a0) (ab rfl ((S.boxAt 0 rfl) 0 _ rfl)) (oB F fun Dc Co F=>qe (i_ Dc) (ft rfl rfl Co) (oB F fun A4 Cp F=>?_))));refine gi (.bool A4) gC (fun w' hw'=>di Cp) (ca (ag rfl (ag rfl (ag rfl rfl)))) dt ?_;refine qe (.bool (!A4)) (aK rfl) (qm (.bool (!A4)) (oF F (fun J F=>?_) fun J F=>?_))
    ·refine qi (aj J) (qe (pt U (0 + 2)) (aa Ah) (qi (aj J) (qe u2 (ab rfl ((S.boxAt 0 rfl) 2 _ rfl)) (qi (aj J) (qM (i_ Af) An (qi (aj J) (oB F fun DZ Cq F=>?_)))))));refine vm (wA:=w0) rfl rfl ha2 (.inr ⟨rfl,rfl⟩) (.inl (congrArg some rfl)) Cq dt ?_;intro D1 Cr;refine qi (aj J) (qe (pt U (0 + 2)) (aa Ah) (qi (aj J) (qe u2 (ab rfl ((S.boxAt 0 rfl) 2 _ rfl)) (qi (aj J) (qM (i_ Af) An (qi (aj J) (oB F fun Dd Cs F=>?_)))))));refine cz (wA:=w0) rfl ha2 rfl dt rfl Cs dt ?_;intro D2 Dv D4 Ct Cu;obtain rfl:=Ct;refine qi (aj J) (qe (i_ Dd) (ab rfl ((ar S.below Cu) 0 _ rfl)) (qi (aj J) (oB F fun A5 Cv F=>?_)));refine gi (i_ A5) xQ (fun w' hw'=>pd (fW (S.up Cr) hw') Cv) (ca (ag rfl (ag rfl rfl))) dt ?_;refine qi (aj J) (qe (.bool (decide (0 ≤ A5))) (lz rfl rfl) (qe (.bool (decide (0 ≤ A5))) (az rfl (aj J) rfl) (e5 ?_)));intro D5 Cw;replace S:=S.ext Cw;refine tn BB (oF F (fun AN F=>?_) fun AN F=>?_)
     ·refine ct AN (sg fun _ De=>?_);replace S:=S.r0;refine ac (pa (.bool false) (en De (ae (br A3 (tr A2 (tr AK (br A1 (tr A0 ?_))))))));replace F:=exL F AJ;refine aF rfl rfl ?_;exact rB F S
     refine cf AN (bl (bn A3 (tn A2 (ac (pM (i_ Af) An (oB F fun A6 Cx F=>pe (i_ A6) (aD rfl rfl Cx) (pa (i_ A6) (en AK ?_))))))));replace S:=S.keep 1;exact ⟨A6,Ah,rfl,S,F⟩
    refine qo (ai J) (qo (ai J) (qo (ai J) (qo (ai J) (qo (ai J) (qo (ai J) (qo (ai J) (qo (ai J) (qo (ai J) (qo (ai J) (qo (ai J) (qe (.bool true) (av rfl (ai J) rfl) (e5 ?_))))))))))));intro D6 Cy;replace S:=S.ext Cy;refine tn BB (ct rfl (sg fun _ Df=>?_));replace S:=S.r0;refine ac (pa (.bool false) (en Df (ae (br A3 (tr A2 (tr AK (br A1 (tr A0 ?_))))))));replace F:=exL F AJ;refine aF rfl rfl ?_;exact rB F S
   refine cf AM (aG (tx BA (tx AK ?_)));replace F:=exA F AJ;refine bS A1 (tn A0 (sg fun _ Dg=>?_));replace S:=S.r0;refine ac (pa (.bool true) (en Dg (ae (aF rfl rfl ?_))));exact rB F S
  refine eo (ai Ab) (eo (ai Ab) (eo (ai Ab) (eo (ai Ab) (eo (ai Ab) (eo (ai Ab) (pe (.bool true) (av rfl (ai Ab) rfl) (en AO (ct rfl (sg fun _ Dh=>?_)))))))));replace S:=S.r0;refine ac (pa (.bool false) (en Dh (ae (tr Au (aF rfl rfl ?_)))));exact rB F S
 refine eo (ai Ac) (eo (ai Ac) (eo (ai Ac) (eo (ai Ac) (eo (ai Ac) (pe (.bool true) (av rfl (ai Ac) rfl) (pm (.bool true) (eo rfl (eo rfl (eo rfl (eo rfl (eo rfl (eo rfl (pe (.bool true) (av rfl rfl rfl) (en AO (ct rfl (sg fun _ Di=>?_))))))))))))))));replace S:=S.r0;refine ac (pa (.bool false) (en Di (ae (tr Au (aF rfl rfl ?_)))));exact rB F S
theorem lV {w0:World} {a0:Int} {u1:Value} {a1:List T4_} {u2:Value} {a2:List Int} (ha1:R7_.rd w0 [u1] a1) (ha2:R0_.rd w0 [u2] a2) {N:Nat} {r:uS × Bool} (F:fv N a0 a1 a2=some r): Calls Tryz.prog 21 #[.agg #[i_ a0,u1,u2]] w0 fun e w'=>∃ (q0:Value) (q1:Value) (q2:Value),e=.returned (.tuple #[.agg #[q0,q1,q2],.bool r.2])∧Sat w0 w' [Own aR [q0] r.1.1,Own R6_ [q1] r.1.2.1,Own R6_ [q2] r.1.2.2] := by
 unfold fv at F;refine aJ Tryz.func21 rfl rfl dt ?_;have S:=Sat.start w0;refine sR fun _ Bt=>?_;refine be [i_ a0,u1,u2] rfl S dt ?_;intro Cj Aa S B7;refine aC S dt ?_;intro Ck Ac S B8;refine pa (.bool false) (en Bt (sg fun _ AU=>sR fun _ Bu=>pe (.agg #[i_ a0,u1,u2]) (am (cs:=[i_ a0,u1,u2]) rfl rfl (au (S.boxAt 1 rfl))) (oB F fun Bv Ba F=>?_)));refine ec0 ym (l5 (S.up ha1) (S.up ha2) Ba) (ca (ag rfl rfl)) S fun Cl B9 S=>?_;refine pe (.bool (!Bv)) (aK rfl) (en Bu (oF F (fun Ap F=>?_) fun Ap F=>?_))
 ·refine cf (aj Ap) (sn AU (sR fun _ Bw=>pe (.agg #[n_,n_,n_]) (aQ [] [n_,n_,n_] rfl rfl) ?_));refine aC S dt ?_;intro Cm z9 S Ca;refine ak (S.top 0 rfl) rfl [n_,n_,n_] rfl rfl dt (all_cons rfl (all_cons rfl (all_cons rfl rfl))) ?_;intro Bx S;replace S:Sat w0 Bx [Box z9 48 [n_,n_,n_],Box Ac 48 [n_,n_,n_],Box Aa 32 [i_ a0,u1,u2]]:=S;refine en Bw (sg fun _ By=>sR fun _ Bz=>pa (i_ 0) (en Bz (bg fun _ BA=>?_)));replace S:=S.nil R6_ 27;replace S:=S.nil R2_ 68;obtain ⟨BB,hL,Bb⟩:=ob F;refine aE (fun k e w=>∃ (U:Value),∃ (Ae:List T3_),∃ (J:Value),∃ (Ad:List T1_),∃ (Af:Int),e 1=pt Aa 0∧e 2=pt Ac 0∧e 4=pt z9 0∧e 5=i_ Af∧Sat w0 w [Own R6_ [J] Ad,Own aR [U] Ae,Box z9 48 [U,J,n_],Box Ac 48 [n_,n_,n_],Box Aa 32 [i_ a0,u1,u2]]∧cD N k a0 a1 a2 [] [] [] Ae Ad [] Af=some BB) N ?_ ?_ ?_
  ·exact ⟨n_,[],n_,[],0,rfl,rfl,rfl,rfl,S,hL⟩
  ·rintro e w ⟨_,_,_,_,_,_,_,_,_,_,hz⟩; exact nn hz
  rintro k Co Cp ⟨U,Ae,J,Ad,Af,Aq,AI,AJ,AK,S,F⟩;refine gn fun _ AV=>sg fun _ AW=>sR fun _ BC=>pM (i_ Af) AK (pe (pt Aa (0 + 0)) (aa Aq) (pe (i_ a0) (ab rfl ((S.boxAt 4 rfl) 0 _ rfl)) (pe (.bool (decide (Af < a0))) (aH rfl rfl) (en BC (oF F (fun Ar F=>?_) fun Ar F=>?_)))))
  ·refine ct Ar (sn AW (sg fun _ BD=>bg fun _ BE=>sR fun _ BF=>?_));refine aW R2_ S dt ?_;intro Cq AX S Cb;refine pa AX (en BF (sg fun _ BG=>sR fun _ BH=>pa (i_ 0) (en BH (bg fun _ BI=>?_))));obtain ⟨BJ,hL,Bc⟩:=ob F;refine aE (fun k e w=>∃ (Ah:Value),∃ (AB:List T1_),∃ (Ai:Int),e 1=pt Aa 0∧e 2=pt Ac 0∧e 4=pt z9 0∧e 5=i_ Af∧e 6=Ah∧e 7=i_ Ai∧Sat w0 w [Own R6_ [Ah] AB,Own R6_ [J] Ad,Own aR [U] Ae,Box z9 48 [U,J,n_],Box Ac 48 [n_,n_,n_],Box Aa 32 [i_ a0,u1,u2]]∧bZ N k a0 a1 a2 [] [] [] Ae Ad [] Af AB Ai=some BJ) N ?_ ?_ ?_
   ·exact ⟨AX,[],0,Aq,AI,AJ,AK,rfl,rfl,S,hL⟩
   ·rintro e w ⟨_,_,_,_,_,_,_,_,_,_,hz⟩; exact nn hz
   rintro k Cr Cs ⟨Ah,AB,Ai,Aj,As,Ag,Am,At,An,S,F⟩;refine gn fun _ AC=>sg fun _ AY=>sR fun _ BK=>pM (i_ Ai) An (pe (pt Aa (0 + 1)) (aa Aj) (pe u1 (ab rfl ((S.boxAt 5 rfl) 1 _ rfl)) (pe (i_ (a1.length:Int)) (ax rfl ha1) (pe (.bool (decide (Ai < (a1.length:Int)))) (aH rfl rfl) (en BK (oF F (fun Au F=>?_) fun Au F=>?_))))))
   ·refine ct Au (sn AY (sg fun _ AZ=>bg fun _ A0=>sR fun _ BL=>pa (i_ 0) (en BL (sg fun _ A1=>sR fun _ BM=>pe (pt Aa (0 + 1)) (aa Aj) (pe u1 (ab rfl ((S.boxAt 5 rfl) 1 _ rfl)) (pM (i_ Ai) An (oB F fun A2 Bd F=>?_)))))));refine aU (wA:=w0) rfl ha1 rfl dt rfl Bd dt ?_;intro Ct Cc Cu Be Bf;obtain ⟨_,_,rfl,Bg,AM⟩:=Be;obtain ⟨rfl,Bh⟩:=Bg;obtain ⟨A3,rfl⟩:=aM AM;refine pe (.agg #[.string A2.1,A3]) (am (cs:=[.string A2.1,A3]) rfl rfl (ar S.below Bf)) (pM (i_ Af) Am (oB F fun Cv Bi F=>?_));refine ec0 ue (iY Bh (S.up AM) Bi) (ca (ag rfl (ag rfl rfl))) S fun Cw Cd S=>?_;refine en BM (oF F (fun Av F=>?_) fun Av F=>?_)
    ·refine ct Av (ac (pa (i_ 1) (en A1 (ac (pM Ah At (pm (i_ 1) (pe (.agg #[i_ 1,i_ 1]) (aQ [(0,[i_ 1]),(1,[i_ 1])] [i_ 1,i_ 1] (d9 rfl (d9 rfl rfl)) rfl) ?_)))))));refine aI [i_ 1,i_ 1] rfl (by rfl) dt rfl dt S dt ?_;intro Cx Cy S Ce;refine oB F fun BN Bj F=>?_;have AP:=S.boxRow 0 rfl;replace S:=S.t1;replace S:=S.int 1;replace S:=S.int 1;replace S:=S.pair;replace S:=S.one;refine aV rfl dt rfl dt S rfl rfl rfl (by simp) AP Bj dt ?_;intro Cz A4 S;refine pa A4 (ah (bn A0 (tn AZ ?_)));replace S:=S.r1;refine ac (pM (i_ Ai) An (oB F fun AD Bk F=>pe (i_ AD) (aD rfl rfl Bk) (pa (i_ AD) (en AC ?_))));replace S:=S.keep 6;exact ⟨A4,BN,AD,Aj,As,Ag,Am,rfl,rfl,S,F⟩
    refine cf Av (sn A1 (ac (pM Ah At (pm (i_ 0) (pe (.agg #[i_ 0,i_ 1]) (aQ [(0,[i_ 0]),(1,[i_ 1])] [i_ 0,i_ 1] (d9 rfl (d9 rfl rfl)) rfl) ?_)))));refine aI [i_ 0,i_ 1] rfl (by rfl) dt rfl dt S dt ?_;intro CA CB S Cf;refine oB F fun BO Bl F=>?_;have AQ:=S.boxRow 0 rfl;replace S:=S.t1;replace S:=S.int 1;replace S:=S.int 0;replace S:=S.pair;replace S:=S.one;refine aV rfl dt rfl dt S rfl rfl rfl (by simp) AQ Bl dt ?_;intro CC A5 S;refine pa A5 (ah (bn A0 (tn AZ ?_)));replace S:=S.r1;refine ac (pM (i_ Ai) An (oB F fun AE Bm F=>pe (i_ AE) (aD rfl rfl Bm) (pa (i_ AE) (en AC ?_))));replace S:=S.keep 6;exact ⟨A5,BO,AE,Aj,As,Ag,Am,rfl,rfl,S,F⟩
   refine cf Au (aG (tx AY (tx AC ?_)));replace F:=exB F Bc;refine bS BI (tn BG (sR fun _ BP=>pe (pt z9 (0 + 0)) (aa Ag) (pe U (ab rfl ((S.boxAt 3 rfl) 0 _ rfl)) (pM Ah At ?_))));refine aI [Ah] (bf rfl (oc (S.rdAt (R:=R6_) 0 rfl))) (by rfl) dt rfl dt S dt ?_;intro CD BQ S Cg;refine oB F fun AF Bn F=>?_;have AR:=S.boxRow 0 rfl;replace S:=S.t3;replace S:=S.t2;replace S:=S.one;refine aV rfl dt rfl dt S rfl rfl rfl (by simp) AR Bn dt ?_;intro CE Ak S;refine pe (pt z9 (0 + 0)) (aa Ag) ?_;refine ak (S.top 3 rfl) rfl [Ak] (bf rfl (oc (S.rdAt (R:=aR) 0 rfl))) rfl dt (all_cons (oc (S.rdAt (R:=aR) 0 rfl)) rfl) ?_;intro BR S;replace S:Sat w0 BR [Box z9 48 [Ak,J,n_],Own aR [Ak] AF,Box BQ 27 [Ah],Own R6_ [J] Ad,Box Ac 48 [n_,n_,n_],Box Aa 32 [i_ a0,u1,u2]]:=S;refine en BP ?_;replace S:=S.r2;refine ac (pe (pt z9 (0 + 1)) (aa Ag) (pe J (ab rfl ((S.boxAt 0 rfl) 1 _ rfl)) (pe (.agg #[i_ 1,i_ 1]) (aQ [(0,[i_ 1]),(1,[i_ 1])] [i_ 1,i_ 1] (d9 rfl (d9 rfl rfl)) rfl) ?_)));refine aI [i_ 1,i_ 1] rfl (by rfl) dt rfl dt S dt ?_;intro CF BS S Ch;refine oB F fun A6 Bo F=>?_;have AS:=S.boxRow 0 rfl;replace S:=S.t3;replace S:=S.int 1;replace S:=S.int 1;replace S:=S.pair;replace S:=S.one;refine aV rfl dt rfl dt S rfl rfl rfl (by simp) AS Bo dt ?_;intro CG Aw S;refine pe (pt z9 (0 + 1)) (aa Ag) ?_;refine ak (S.top 2 rfl) rfl [Aw] (bf rfl (oc (S.rdAt (R:=R6_) 0 rfl))) rfl dt (all_cons (oc (S.rdAt (R:=R6_) 0 rfl)) rfl) ?_;intro BT S;replace S:Sat w0 BT [Box z9 48 [Ak,Aw,n_],Own R6_ [Aw] A6,Box BS 68 [i_ 1,i_ 1],Own aR [Ak] AF,Box Ac 48 [n_,n_,n_],Box Aa 32 [i_ a0,u1,u2]]:=S;refine ah (bn BE (tn BD ?_));replace S:=S.r2;refine ac (pM (i_ Af) Am (oB F fun AG Bp F=>pe (i_ AG) (aD rfl rfl Bp) (pa (i_ AG) (en AV ?_))));replace S:=S.t4.t4.t2.t4.t4;replace S:=S.keep 5;exact ⟨Ak,AF,Aw,A6,AG,Aj,As,Ag,rfl,S,F⟩
  refine cf Ar (aG (tx AW (tx AV ?_)));replace F:=exB F Bb;refine bS BA (tn By (sg fun _ BU=>sR fun _ BV=>pa (i_ 0) (en BV (bg fun _ BW=>?_))));replace S:=S.nil R2_ 68;obtain ⟨BX,hL,Bq⟩:=ob F;refine aE (fun k e w=>∃ (Ab:Value),∃ (Ax:List T1_),∃ (Al:Int),e 1=pt Aa 0∧e 2=pt Ac 0∧e 4=pt z9 0∧e 9=i_ Al∧Sat w0 w [Own R6_ [Ab] Ax,Own R6_ [J] Ad,Own aR [U] Ae,Box z9 48 [U,J,Ab],Box Ac 48 [n_,n_,n_],Box Aa 32 [i_ a0,u1,u2]]∧cH N k a0 a1 a2 [] [] [] Ae Ad Ax Al=some BX) N ?_ ?_ ?_
  ·exact ⟨n_,[],0,Aq,AI,AJ,rfl,S,hL⟩
  ·rintro e w ⟨_,_,_,_,_,_,_,_,hz⟩; exact nn hz
  rintro k CH CI ⟨Ab,Ax,Al,AN,Ay,Ao,AO,S,F⟩;refine gn fun _ A7=>sg fun _ A8=>sR fun _ BY=>pM (i_ Al) AO (pe (pt Aa (0 + 1)) (aa AN) (pe u1 (ab rfl ((S.boxAt 5 rfl) 1 _ rfl)) (pe (i_ (a1.length:Int)) (ax rfl ha1) (pe (.bool (decide (Al < (a1.length:Int)))) (aH rfl rfl) (en BY (oF F (fun Az F=>?_) fun Az F=>?_))))))
  ·refine ct Az (sn A8 (sg fun _ BZ=>bg fun _ B0=>ac (pe (pt z9 (0 + 2)) (aa Ao) (pe Ab (ab rfl ((S.boxAt 3 rfl) 2 _ rfl)) (pe (.agg #[i_ 1,i_ 1]) (aQ [(0,[i_ 1]),(1,[i_ 1])] [i_ 1,i_ 1] (d9 rfl (d9 rfl rfl)) rfl) ?_)))));refine aI [i_ 1,i_ 1] rfl (by rfl) dt rfl dt S dt ?_;intro CJ B1 S Ci;refine oB F fun A9 Br F=>?_;have AT:=S.boxRow 0 rfl;replace S:=S.t1;replace S:=S.int 1;replace S:=S.int 1;replace S:=S.pair;replace S:=S.one;refine aV rfl dt rfl dt S rfl rfl rfl (by simp) AT Br dt ?_;intro CK AA S;refine pe (pt z9 (0 + 2)) (aa Ao) ?_;refine ak (S.top 4 rfl) rfl [AA] (bf rfl (oc (S.rdAt (R:=R6_) 0 rfl))) rfl dt (all_cons (oc (S.rdAt (R:=R6_) 0 rfl)) rfl) ?_;intro B2 S;replace S:Sat w0 B2 [Box z9 48 [U,J,AA],Own R6_ [AA] A9,Box B1 68 [i_ 1,i_ 1],Own R6_ [J] Ad,Own aR [U] Ae,Box Ac 48 [n_,n_,n_],Box Aa 32 [i_ a0,u1,u2]]:=S;refine ah (bn B0 (tn BZ ?_));replace S:=S.r2;refine ac (pM (i_ Al) AO (oB F fun AH Bs F=>pe (i_ AH) (aD rfl rfl Bs) (pa (i_ AH) (en A7 ?_))));replace S:=S.t5.t5.t2.t5.t5.t5;replace S:=S.keep 6;exact ⟨AA,A9,AH,AN,Ay,Ao,rfl,S,F⟩
  refine cf Az (aG (tx A8 (tx A7 ?_)));replace F:=exB F Bq;refine bS BW (tn BU (sg fun _ B3=>?_));replace S:=S.r5;refine ac (pe (.agg #[U,J,Ab]) (am (cs:=[U,J,Ab]) Ao rfl (au (S.boxAt 3 rfl))) ?_);refine ak (S.top 4 rfl) Ay [U,J,Ab] rfl rfl dt (all_cons (oc (S.rdAt (R:=aR) 2 rfl)) (all_cons (oc (S.rdAt (R:=R6_) 1 rfl)) (all_cons (oc (S.rdAt (R:=R6_) 0 rfl)) rfl))) ?_;intro B4 S;replace S:Sat w0 B4 [Box Ac 48 [U,J,Ab],Own R6_ [Ab] Ax,Own R6_ [J] Ad,Own aR [U] Ae,Box z9 48 [U,J,Ab]]:=S;refine pa (.bool true) (en B3 (ae ?_));refine bi (cs:=[U,J,Ab]) rfl Ay rfl (au (S.boxAt 0 rfl)) rfl ?_;replace S:=S.t1.t2.t3;have hr:=oI F;exact ⟨U,J,Ab,cR hr fun r=>.tuple #[.agg #[U,J,Ab],.bool r.2],sP hr (fun r=>[Own aR [U] r.1.1,Own R6_ [J] r.1.2.1,Own R6_ [Ab] r.1.2.2]) (S.keep 3)⟩
 refine ct (ai Ap) (sg fun _ B5=>?_);replace S:=S.r1;refine ac (pe (.agg #[n_,n_,n_]) (aQ [] [n_,n_,n_] rfl rfl) ?_);refine ak (S.top 0 rfl) rfl [n_,n_,n_] rfl rfl dt (all_cons rfl (all_cons rfl (all_cons rfl rfl))) ?_;intro B6 S;replace S:Sat w0 B6 [Box Ac 48 [n_,n_,n_]]:=S;refine pa (.bool false) (en B5 (ae (tr AU ?_)));replace S:=S.nil R6_ 27;replace S:=S.nil R2_ 68;replace S:=S.nil R2_ 68;refine bi (cs:=[n_,n_,n_]) rfl rfl rfl (au (S.boxAt 3 rfl)) rfl ?_;replace S:=S.t1.t2;have hr:=oI F;exact ⟨n_,n_,n_,cR hr fun r=>.tuple #[.agg #[n_,n_,n_],.bool r.2],sP hr (fun r=>[Own aR [n_] r.1.1,Own R6_ [n_] r.1.2.1,Own R6_ [n_] r.1.2.2]) (S.keep 3)⟩
theorem jm {w0:World} {a0:Int} {a1:Int}  {N:Nat} {r:Int} (F:dT N a0 a1=some r): Calls Tryz.prog 116 #[i_ a0,i_ a1] w0 fun e w'=>e=.returned (i_ r)∧Ext w0 w' := by
 unfold dT at F;refine aJ Tryz.func116 rfl rfl dt ?_;have S:=Sat.start w0;refine sR fun _ Ah=>pa (i_ 0) (en Ah (sg fun _ Ai=>bg fun _ Aj=>?_));obtain ⟨Ak,hL,Af⟩:=ob F;refine aE (fun k e w=>∃ (U:Int),∃ (J:Int),e 0=i_ U∧e 1=i_ J∧Sat w0 w []∧cQ N k U J=some Ak) N ?_ ?_ ?_
 ·exact ⟨a0,a1,rfl,rfl,S,hL⟩
 ·rintro e w ⟨_,_,_,_,_,hz⟩; exact nn hz
 rintro k Aq Ar ⟨U,J,Ac,Aa,S,F⟩;refine gn fun _ Ad=>sg fun _ Ae=>sR fun _ Al=>pM (i_ J) Aa (pe (.bool (J != 0)) (bV rfl rfl) (en Al (oF F (fun Ab F=>?_) fun Ab F=>?_)))
 ·refine ct Ab (sn Ae (bg fun _ Am=>sR fun _ An=>pM (i_ U) Ac (pM (i_ J) Aa (oB F fun z9 Ag F=>pe (i_ z9) (jB rfl rfl Ag) (pa (i_ z9) (en An (sR fun _ Ao=>pM (i_ J) Aa (pa (i_ J) (en Ao (ac (pm (i_ z9) (pa (i_ z9) (ah (bn Am (tn Ad ?_)))))))))))))));replace S:=S.keep 0;exact ⟨J,z9,rfl,rfl,S,F⟩
 refine cf Ab (aG (tx Ae (tx Ad ?_)));replace F:=exB F Af;refine bS Aj (tn Ai (sR fun _ Ap=>pM (i_ U) Ac (pa (i_ U) (en Ap (ae (aF rfl rfl ?_))))));exact rI F S
theorem bk {w0:World} {a0:Int} {a1:Int}  {N:Nat} {r:Bool} (F:ay N a0 a1=some r): Calls Tryz.prog 100 #[.agg #[i_ a0,i_ a1]] w0 fun e w'=>e=.returned (.bool r)∧Ext w0 w' := by
 unfold ay at F;refine aJ Tryz.func100 rfl rfl dt ?_;have S:=Sat.start w0;refine sR fun _ Ai=>?_;refine be [i_ a0,i_ a1] rfl S dt ?_;intro Ao z9 S Ak;refine pa (.bool false) (en Ai (sR fun _ Aa=>pe (pt z9 (0 + 1)) (aa rfl) (pe (i_ a1) (ab rfl ((S.boxAt 0 rfl) 1 _ rfl)) (oB F fun Aj Ae F=>?_))));refine ec0 gC (di Ae) (ca (ag rfl (ag rfl (ag rfl rfl)))) S fun Ap Al S=>?_;refine pm (.bool Aj) (oF F (fun U F=>?_) fun U F=>?_)
 ·refine ei U (pe (pt z9 (0 + 0)) (aa rfl) (ei U (pe (i_ a0) (ab rfl ((S.boxAt 0 rfl) 0 _ rfl)) (ei U (oB F fun Ac Af F=>?_)))));refine ec0 gC (di Af) (ca (ag rfl (ag rfl (ag rfl rfl)))) S fun Aq Am S=>?_;refine pe (.bool Ac) (av rfl U rfl) (pm (.bool Ac) (oF F (fun J F=>?_) fun J F=>?_))
  ·refine ei J (pe (pt z9 (0 + 0)) (aa rfl) (ei J (pe (i_ a0) (ab rfl ((S.boxAt 0 rfl) 0 _ rfl)) (ei J (pe (pt z9 (0 + 0)) (aa rfl) (ei J (pe (i_ a0) (ab rfl ((S.boxAt 0 rfl) 0 _ rfl)) (ei J (oB F fun Ad Ag F=>pe (i_ Ad) (iw rfl Ag) (ei J (pe (i_ (imx a0 Ad)) (oP rfl rfl) (ei J (pe (pt z9 (0 + 1)) (aa rfl) (ei J (pe (i_ a1) (ab rfl ((S.boxAt 0 rfl) 1 _ rfl)) (ei J (oB F fun Ab Ah F=>?_)))))))))))))))));refine ec0 mU (jm Ah) (ca (ag rfl (ag rfl rfl))) S fun Ar An S=>?_;refine ei J (pe (.bool (Ab == 1)) (dq rfl rfl) (pe (.bool (Ab == 1)) (av rfl J rfl) (pa (.bool (Ab == 1)) (en Aa (ae (aF rfl rfl ?_))))));exact rB F S
  refine eo J (eo J (eo J (eo J (eo J (eo J (eo J (eo J (eo J (eo J (pe (.bool false) (az rfl J rfl) (pa (.bool false) (en Aa (ae (aF rfl rfl ?_))))))))))))));exact rB F S
 refine eo U (eo U (eo U (pe (.bool false) (az rfl U rfl) (pm (.bool false) (eo rfl (eo rfl (eo rfl (eo rfl (eo rfl (eo rfl (eo rfl (eo rfl (eo rfl (eo rfl (pe (.bool false) (az rfl rfl rfl) (pa (.bool false) (en Aa (ae (aF rfl rfl ?_)))))))))))))))))));exact rB F S
end
section
set_option maxRecDepth 100000
set_option maxHeartbeats 4000000
theorem hY {w0:World} {u0:Value} {a0:List T3_} {a1:Int} {a2:Int} (ha0:aR.rd w0 [u0] a0) {N:Nat} {r:Bool} (F:dc N a0 a1 a2=some r): Calls Tryz.prog 89 #[u0,i_ a1,i_ a2] w0 fun e w'=>e=.returned (.bool r)∧Ext w0 w' := by
 unfold dc at F;refine aJ Tryz.func89 rfl rfl dt ?_;have S:=Sat.start w0;refine sR fun _ AT=>pa (.bool false) (en AT (sg fun _ Am=>sR fun _ AU=>pa (i_ 0) (en AU (bg fun _ An=>?_))));obtain ⟨AV,hL,Aa⟩:=ob F;refine aE (fun k e w=>∃ (J:Int),e 0=u0∧e 1=i_ a1∧e 2=i_ a2∧e 7=i_ J∧Sat w0 w []∧cV N k a0 a1 a2 J=some AV) N ?_ ?_ ?_
 ·exact ⟨0,rfl,rfl,rfl,rfl,S,hL⟩
 ·rintro e w ⟨_,_,_,_,_,_,hz⟩; exact nn hz
 rintro k Bc Bd ⟨J,z9,At,Au,Ab,S,F⟩;refine gn fun _ Ac=>sg fun _ Az=>sR fun _ AW=>pM (i_ J) Ab (pM u0 z9 (pe (i_ (a0.length:Int)) (ax rfl ha0) (pe (.bool (decide (J < (a0.length:Int)))) (aH rfl rfl) (en AW (oF F (fun Ad F=>?_) fun Ad F=>?_)))))
 ·refine ct Ad (sn Az (sg fun _ Ao=>bg fun _ Ap=>sg fun _ AA=>sR fun _ AX=>pM u0 z9 (pM (i_ J) Ab (oB F fun AB AG F=>?_))));refine aU (wA:=w0) rfl ha0 rfl dt rfl AG dt ?_;intro Be A8 Bf Av AH;obtain ⟨AY,rfl⟩:=aM Av;refine pe AY (ab rfl ((ar S.below AH) 0 _ rfl)) (pe (i_ (AB.length:Int)) (ax rfl Av) (pM (i_ a2) Au (pe (.bool ((AB.length:Int) != a2)) (bV rfl rfl) (en AX (oF F (fun Ae F=>?_) fun Ae F=>?_)))))
  ·refine ct Ae (sR fun _ AZ=>pa (.bool false) (en AZ (ae (tr AA (br Ap (tr Ao (tr Ac (br An (tr Am ?_)))))))));replace F:=exL F Aa;refine aF rfl rfl ?_;exact rB F S
  refine cf Ae (sn AA (sR fun _ A0=>pa (i_ 0) (en A0 (bg fun _ AC=>?_))));obtain ⟨A1,hL,Aw⟩:=ob F;refine aE (fun k e w=>∃ (U:Int),e 0=u0∧e 1=i_ a1∧e 2=i_ a2∧e 7=i_ J∧e 8=i_ U∧Sat w0 w []∧cT N k a0 a1 a2 J U=some A1) N ?_ ?_ ?_
  ·exact ⟨0,z9,At,Au,Ab,rfl,S,hL⟩
  ·rintro e w ⟨_,_,_,_,_,_,_,hz⟩; exact nn hz
  rintro k Bg Bh ⟨U,Af,Ax,Ag,Ah,Ai,S,F⟩;refine gn fun _ Aq=>sg fun _ AD=>sR fun _ A2=>pM (i_ U) Ai (pM (i_ a2) Ag (pe (.bool (decide (U < a2))) (aH rfl rfl) (en A2 (oF F (fun Aj F=>?_) fun Aj F=>?_))))
  ·refine ct Aj (sn AD (sg fun _ AE=>bg fun _ AF=>sR fun _ A3=>pM u0 Af (pM (i_ J) Ah (oB F fun Bi AI F=>?_))));refine aU (wA:=w0) rfl ha0 rfl dt rfl AI dt ?_;intro Bj A9 Bk Ay AJ;obtain ⟨A4,rfl⟩:=aM Ay;refine pe A4 (ab rfl ((ar S.below AJ) 0 _ rfl)) (pM (i_ U) Ai (oB F fun Ak AK F=>?_));refine aU (wA:=w0) rfl Ay rfl dt rfl AK dt ?_;intro Bl Ba Bm AM AN;obtain ⟨_,_,rfl,AO,AP⟩:=AM;obtain rfl:=AO;obtain rfl:=AP;refine pe (.agg #[i_ Ak.1,i_ Ak.2]) (am (cs:=[i_ Ak.1,i_ Ak.2]) rfl rfl (ar S.below AN)) (oB F fun A5 AQ F=>?_);refine ec0 fM (bk AQ) (ca (ag rfl rfl)) S fun Bn Bb S=>?_;refine pe (.bool (!A5)) (aK rfl) (en A3 (oF F (fun Al F=>?_) fun Al F=>?_))
   ·refine cf (aj Al) (bl (bn AF (tn AE (ac (pM (i_ U) Ai (oB F fun Ar AR F=>pe (i_ Ar) (aD rfl rfl AR) (pa (i_ Ar) (en Aq ?_))))))));replace S:=S.keep 0;exact ⟨Ar,Af,Ax,Ag,Ah,rfl,S,F⟩
   refine ct (ai Al) (sR fun _ A6=>pa (.bool false) (en A6 (ae (br AF (tr AE (tr Aq (br AC (br Ap (tr Ao (tr Ac (br An (tr Am ?_))))))))))));replace F:=exL F Aw;replace F:=exL F Aa;refine aF rfl rfl ?_;exact rB F S
  refine cf Aj (aG (tx AD (tx Aq ?_)));replace F:=exA F Aw;refine bS AC (bn Ap (tn Ao (ac (pM (i_ J) Ah (oB F fun As AS F=>pe (i_ As) (aD rfl rfl AS) (pa (i_ As) (en Ac ?_)))))));replace S:=S.keep 0;exact ⟨As,Af,Ax,Ag,rfl,S,F⟩
 refine cf Ad (aG (tx Az (tx Ac ?_)));replace F:=exA F Aa;refine bS An (tn Am (sR fun _ A7=>pM u0 z9 (pe (i_ (a0.length:Int)) (ax rfl ha0) (pM (i_ a1) At (pe (.bool ((a0.length:Int) == a1)) (dq rfl rfl) (pa (.bool ((a0.length:Int) == a1)) (en A7 (ae (aF rfl rfl ?_)))))))));exact rB F S
theorem il {w0:World} {u0:Value} {a0:List T3_} {u1:Value} {a1:List T1_} {u2:Value} {a2:List T1_} (ha0:aR.rd w0 [u0] a0) (ha1:R6_.rd w0 [u1] a1) (ha2:R6_.rd w0 [u2] a2) {N:Nat} {r:Bool} (F:bM N a0 a1 a2=some r): Calls Tryz.prog 52 #[.agg #[u0,u1,u2]] w0 fun e w'=>e=.returned (.bool r)∧Ext w0 w' := by
 unfold bM at F;refine aJ Tryz.func52 rfl rfl dt ?_;have S:=Sat.start w0;refine sR fun _ Am=>?_;refine be [u0,u1,u2] rfl S dt ?_;intro Ay Ab S Aq;refine pa (.bool false) (en Am (sR fun _ An=>pe (pt Ab (0 + 2)) (aa rfl) (pe u2 (ab rfl ((S.boxAt 0 rfl) 2 _ rfl)) (pe (i_ (a2.length:Int)) (ax rfl ha2) (pa (i_ (a2.length:Int)) (en An (sR fun _ Ao=>pe (pt Ab (0 + 1)) (aa rfl) (pe u1 (ab rfl ((S.boxAt 0 rfl) 1 _ rfl)) (pe (i_ (a1.length:Int)) (ax rfl ha1) (pa (i_ (a1.length:Int)) (en Ao (sR fun _ Ac=>pm (i_ (a2.length:Int)) (oB F fun Ap Ah F=>?_)))))))))))));refine ec0 gC (di Ah) (ca (ag rfl (ag rfl (ag rfl rfl)))) S fun Az Ar S=>?_;refine pm (.bool Ap) (oF F (fun Aa F=>?_) fun Aa F=>?_)
 ·refine ei Aa (pm (i_ (a1.length:Int)) (ei Aa (oB F fun Ad Ai F=>?_)));refine ec0 gC (di Ai) (ca (ag rfl (ag rfl (ag rfl rfl)))) S fun AA As S=>?_;refine pe (.bool Ad) (av rfl Aa rfl) (pm (.bool Ad) (oF F (fun J F=>?_) fun J F=>?_))
  ·refine ei J (pe (pt Ab (0 + 0)) (aa rfl) (ei J (pe u0 (ab rfl ((S.boxAt 0 rfl) 0 _ rfl)) (ei J (pm (i_ (a1.length:Int)) (ei J (pm (i_ (a2.length:Int)) (ei J (oB F fun Ae Aj F=>?_)))))))));refine ec0 oq (hY (S.up ha0) Aj) (ca (ag rfl (ag rfl (ag rfl rfl)))) S fun AB At S=>?_;refine pe (.bool Ae) (av rfl J rfl) (pm (.bool Ae) (oF F (fun U F=>?_) fun U F=>?_))
   ·refine ei U (pe (pt Ab (0 + 2)) (aa rfl) (ei U (pe u2 (ab rfl ((S.boxAt 0 rfl) 2 _ rfl)) (ei U ?_))));refine aI [u2] (bf rfl (oc ha2)) (by rfl) dt rfl dt S dt ?_;intro AC AD S Au;replace S:=S.roOne (R:=R6_) (W:=w0) ha2;replace S:=S.t1;replace S:=S.lit1;refine ei U (pm (i_ (a2.length:Int)) (ei U (oB F fun Af Ak F=>?_)));refine ec0 oq (hY (sS S.below (S.rdAt (R:=(aB (roR w0 R6_) 27)) 0 rfl)) Ak) (ca (ag rfl (ag rfl (ag rfl rfl)))) S fun AE Av S=>?_;refine pe (.bool Af) (av rfl U rfl) (pm (.bool Af) (oF F (fun z9 F=>?_) fun z9 F=>?_))
    ·refine ei z9 (pe (pt Ab (0 + 1)) (aa rfl) (ei z9 (pe u1 (ab rfl ((S.boxAt 1 rfl) 1 _ rfl)) (ei z9 ?_))));refine aI [u1] (bf rfl (oc ha1)) (by rfl) dt rfl dt S dt ?_;intro AF AG S Aw;replace S:=S.roOne (R:=R6_) (W:=w0) ha1;replace S:=S.t1;replace S:=S.lit1;refine ei z9 (pm (i_ (a1.length:Int)) (ei z9 (oB F fun Ag Al F=>?_)));refine ec0 oq (hY (sS S.below (S.rdAt (R:=(aB (roR w0 R6_) 27)) 0 rfl)) Al) (ca (ag rfl (ag rfl (ag rfl rfl)))) S fun AH Ax S=>?_;refine pe (.bool Ag) (av rfl z9 rfl) (pa (.bool Ag) (en Ac (ae (aF rfl rfl ?_))));exact rB F S
    refine eo z9 (eo z9 (eo z9 (eo z9 (eo z9 (pe (.bool false) (az rfl z9 rfl) (pa (.bool false) (en Ac (ae (aF rfl rfl ?_)))))))));exact rB F S
   refine eo U (eo U (eo U (eo U (eo U (pe (.bool false) (az rfl U rfl) (pm (.bool false) (eo rfl (eo rfl (eo rfl (eo rfl (eo rfl (pe (.bool false) (az rfl rfl rfl) (pa (.bool false) (en Ac (ae (aF rfl rfl ?_))))))))))))))));exact rB F S
  refine eo J (eo J (eo J (eo J (eo J (pe (.bool false) (az rfl J rfl) (pm (.bool false) (eo rfl (eo rfl (eo rfl (eo rfl (eo rfl (pe (.bool false) (az rfl rfl rfl) (pm (.bool false) (eo rfl (eo rfl (eo rfl (eo rfl (eo rfl (pe (.bool false) (az rfl rfl rfl) (pa (.bool false) (en Ac (ae (aF rfl rfl ?_)))))))))))))))))))))));exact rB F S
 refine eo Aa (eo Aa (pe (.bool false) (az rfl Aa rfl) (pm (.bool false) (eo rfl (eo rfl (eo rfl (eo rfl (eo rfl (pe (.bool false) (az rfl rfl rfl) (pm (.bool false) (eo rfl (eo rfl (eo rfl (eo rfl (eo rfl (pe (.bool false) (az rfl rfl rfl) (pm (.bool false) (eo rfl (eo rfl (eo rfl (eo rfl (eo rfl (pe (.bool false) (az rfl rfl rfl) (pa (.bool false) (en Ac (ae (aF rfl rfl ?_)))))))))))))))))))))))))));exact rB F S
theorem lg {w0:World} {u0:Value} {a0:List T1_} {u1:Value} {a1:List T1_} (ha0:R6_.rd w0 [u0] a0) (ha1:R6_.rd w0 [u1] a1) {N:Nat} {r:Bool} (F:cP N a0 a1=some r): Calls Tryz.prog 20 #[u0,u1] w0 fun e w'=>e=.returned (.bool r)∧Ext w0 w' := by
 unfold cP at F;refine aJ Tryz.func20 rfl rfl dt ?_;have S:=Sat.start w0;refine sR fun _ AB=>pa (.bool false) (en AB (sg fun _ Aj=>sR fun _ AC=>pm u0 (pe (i_ (a0.length:Int)) (ax rfl ha0) (pm u1 (pe (i_ (a1.length:Int)) (ax rfl ha1) (pe (.bool ((a0.length:Int) != (a1.length:Int))) (bV rfl rfl) (en AC (oF F (fun Ab F=>?_) fun Ab F=>?_))))))))
 ·refine ct Ab (sR fun _ AD=>pa (.bool false) (en AD (ae (tr Aj (aF rfl rfl ?_)))));exact rB F S
 refine cf Ab (sn Aj (sg fun _ Ak=>sR fun _ AE=>pa (i_ 0) (en AE (bg fun _ Al=>?_))));obtain ⟨AF,hL,Ah⟩:=ob F;refine aE (fun k e w=>∃ (J:Int),e 0=u0∧e 1=u1∧e 5=i_ J∧Sat w0 w []∧bv N k a0 a1 J=some AF) N ?_ ?_ ?_
 ·exact ⟨0,rfl,rfl,rfl,S,hL⟩
 ·rintro e w ⟨_,_,_,_,_,hz⟩; exact nn hz
 rintro k AN AO ⟨J,Ac,Ai,Aa,S,F⟩;refine gn fun _ Af=>sg fun _ Am=>sR fun _ AG=>pM (i_ J) Aa (pM u0 Ac (pe (i_ (a0.length:Int)) (ax rfl ha0) (pe (.bool (decide (J < (a0.length:Int)))) (aH rfl rfl) (en AG (oF F (fun Ad F=>?_) fun Ad F=>?_)))))
 ·refine ct Ad (sn Am (sg fun _ An=>bg fun _ Ao=>sg fun _ AH=>?_));refine e7 (by kernel_rfl) (by kernel_rfl) ?_;refine qM u0 Ac (qM (i_ J) Aa (oB F fun U Ap F=>?_));refine cz (wA:=w0) rfl ha0 rfl dt rfl Ap dt ?_;intro AP AK AQ Aq Ar;obtain ⟨_,_,rfl,As,At⟩:=Aq;obtain rfl:=As;obtain rfl:=At;refine qe (.agg #[i_ U.1,i_ U.2]) (am (cs:=[i_ U.1,i_ U.2]) rfl rfl (ar S.below Ar)) (qM u1 Ai (qM (i_ J) Aa (oB F fun z9 Au F=>?_)));refine cz (wA:=w0) rfl ha1 rfl dt rfl Au dt ?_;intro AR AM AS Av Aw;obtain ⟨_,_,rfl,Ax,Ay⟩:=Av;obtain rfl:=Ax;obtain rfl:=Ay;refine qe (.agg #[i_ z9.1,i_ z9.2]) (am (cs:=[i_ z9.1,i_ z9.2]) rfl rfl (ar S.below Aw)) (qe (.bool (!(U.1 == z9.1 && U.2 == z9.2))) (rO Tryz.underlying68 rfl dt dt rfl rfl Tryz.underlying3 Tryz.underlying3 Tryz.stoodInHeld68 Tryz.eqGuardType68 rfl rfl) (e5 ?_));intro AT Az;replace S:=S.ext Az;refine tn AH (oF F (fun Ae F=>?_) fun Ae F=>?_)
  ·refine cf (aj Ae) (bl (bn Ao (tn An (ac (pM (i_ J) Aa (oB F fun Ag AA F=>pe (i_ Ag) (aD rfl rfl AA) (pa (i_ Ag) (en Af ?_))))))));replace S:=S.keep 0;exact ⟨Ag,Ac,Ai,rfl,S,F⟩
  refine ct (ai Ae) (sR fun _ AI=>pa (.bool false) (en AI (ae (br Ao (tr An (tr Af (br Al (tr Ak ?_))))))));replace F:=exL F Ah;refine aF rfl rfl ?_;exact rB F S
 refine cf Ad (aG (tx Am (tx Af ?_)));replace F:=exA F Ah;refine bS Al (tn Ak (sR fun _ AJ=>pa (.bool true) (en AJ (ae (aF rfl rfl ?_)))));exact rB F S
theorem nI (N:Nat):∀ {w0:World} {a0:Int} {a1:Int} {a2:Int}  {r:T2_} (_:dv N a0 a1 a2=some r), Calls Tryz.prog 90 #[i_ a0,i_ a1,i_ a2] w0 fun e w'=>∃ (q0:Value),e=.returned (q0)∧Sat w0 w' [Own R4_ [q0] r] := by
 induction N with
 | zero=>intros; exact nomatch (show none=some _ by assumption)
 | succ N ih=>
  intro w0 a0 a1 a2 r F;refine aJ Tryz.func90 rfl rfl dt ?_;have S:=Sat.start w0;refine sR fun _ AV=>pa n_ (en AV (sg fun _ Ay=>sR fun _ AW=>pm (i_ a2) (pe (.bool (a2 == 0)) (dq rfl rfl) (en AW (oF F (fun Ac F=>?_) fun Ac F=>?_)))))
  ·refine ct Ac (sR fun _ AX=>?_);refine aW bI S dt ?_;intro Bu AY S Bm;refine aI [AY] (bf rfl (oc (S.rdAt (R:=R0_) 0 rfl))) (by rfl) dt rfl dt S dt ?_;intro Bv Ad S Bn;replace S:=S.t1;replace S:=S.t1;replace S:=S.lit1;refine pa (.slice (some ⟨Ad,0,none⟩) 1 1) (en AX (ae (tr Ay (aF rfl rfl ?_))));have hr:=oI F;exact ⟨(.slice (some ⟨Ad,0,none⟩) 1 1),cR hr fun r=>(.slice (some ⟨Ad,0,none⟩) 1 1),sP hr (fun r=>[Own R4_ [(.slice (some ⟨Ad,0,none⟩) 1 1)] r]) (S.keep 1)⟩
  refine cf Ac (sn Ay (sR fun _ AZ=>?_));refine aW R0_ S dt ?_;intro Bw Az S Bo;refine pa Az (en AZ (sg fun _ A0=>sR fun _ A1=>pm (i_ a0) (pa (i_ a0) (en A1 (bg fun _ A2=>?_)))));obtain ⟨A3,hL,AG⟩:=ob F;refine aE (fun k e w=>∃ (U:Value),∃ (Ae:List T0_),∃ (J:Int),e 1=i_ a1∧e 2=i_ a2∧e 7=U∧e 8=i_ J∧Sat w0 w [Own R4_ [U] Ae]∧gg (dv N) N k a1 a2 Ae J=some A3) N ?_ ?_ ?_
  ·exact ⟨Az,[],a0,rfl,rfl,rfl,rfl,S,hL⟩
  ·rintro e w ⟨_,_,_,_,_,_,_,_,hz⟩; exact nn hz
  rintro k Bx By ⟨U,Ae,J,Af,Ag,Ar,Ah,S,F⟩;refine gn fun _ AA=>sg fun _ AB=>sR fun _ A4=>pM (i_ J) Ah (pM (i_ a2) Ag (oB F fun AC AH F=>pe (i_ AC) (aD rfl rfl AH) (pM (i_ a1) Af (pe (.bool (decide (AC ≤ a1))) (lD rfl rfl) (en A4 (oF F (fun Ai F=>?_) fun Ai F=>?_))))))
  ·refine ct Ai (sn AB (sg fun _ A5=>bg fun _ A6=>sR fun _ A7=>pM (i_ J) Ah (oB F fun A8 AI F=>pe (i_ A8) (aD rfl rfl AI) (pM (i_ a1) Af (pM (i_ a2) Ag (oB F fun A9 AJ F=>pe (i_ A9) (ft rfl rfl AJ) (oB F fun Aj AK F=>?_)))))));refine ec1 uf (ih AK) (ca (ag rfl (ag rfl (ag rfl rfl)))) S fun Bz Aa Bp S=>?_;refine pa Aa (en A7 (sR fun _ Ba=>pa (i_ 0) (en Ba (bg fun _ Bb=>?_))));obtain ⟨Bc,hL,AM⟩:=ob F;refine aE (fun k e w=>∃ (Ab:Value),∃ (Ak:List T0_),∃ (z9:Int),e 1=i_ a1∧e 2=i_ a2∧e 7=Ab∧e 8=i_ J∧e 9=Aa∧e 10=i_ z9∧Sat w0 w [Own R4_ [Aa] Aj,Own R4_ [Ab] Ak]∧dJ (dv N) N k a1 a2 Ak J Aj z9=some Bc) N ?_ ?_ ?_
   ·exact ⟨U,Ae,0,Af,Ag,Ar,Ah,rfl,rfl,S,hL⟩
   ·rintro e w ⟨_,_,_,_,_,_,_,_,_,_,hz⟩; exact nn hz
   rintro k BA BB ⟨Ab,Ak,z9,As,At,Au,Al,Am,An,S,F⟩;refine gn fun _ AD=>sg fun _ AE=>sR fun _ Bd=>pM (i_ z9) An (pM Aa Am (pe (i_ (Aj.length:Int)) (ax rfl (S.rdAt (R:=R4_) 0 rfl)) (pe (.bool (decide (z9 < (Aj.length:Int)))) (aH rfl rfl) (en Bd (oF F (fun Ao F=>?_) fun Ao F=>?_)))))
   ·refine ct Ao (sn AE (sg fun _ Be=>bg fun _ Bf=>ac (pM Ab Au (pM (i_ J) Al ?_))));refine aI [i_ J] rfl (by rfl) dt rfl dt S dt ?_;intro Bg BC S Bq;replace S:=S.int J;replace S:=S.t1;replace S:=S.lit1;refine pM Aa Am (pM (i_ z9) An (oB F fun Bh AN F=>?_));refine aU (wA:=Bg) rfl (S.rdAt (R:=R4_) 1 rfl) rfl dt rfl AN dt ?_;intro BD Br BE Av AO;obtain ⟨Bi,rfl⟩:=aM Av;refine pe Bi (ab rfl (AO 0 _ rfl)) (oB F fun BF AP F=>?_);obtain ⟨Bs,BG,AQ,AR,Aw⟩:=q7 Av;replace S:=S.ints (xs:=Bh);refine aV rfl dt rfl dt S rfl (rfl.trans AQ) rfl AR Aw AP dt ?_;intro BH Bj S;refine aI [Bj] (bf rfl (oc (S.rdAt (R:=R0_) 0 rfl))) (by rfl) dt rfl dt S dt ?_;intro BI BJ S Bt;refine oB F fun Bk AS F=>?_;have Ax:=S.boxRow 0 rfl;replace S:=S.t3;replace S:=S.t2;replace S:=S.one;refine aV rfl dt rfl dt S rfl rfl rfl (by simp) Ax AS dt ?_;intro BK AF S;refine pa AF (ah (bn Bf (tn Be ?_)));replace S:=S.r1;refine ac (pM (i_ z9) An (oB F fun Ap AT F=>pe (i_ Ap) (aD rfl rfl AT) (pa (i_ Ap) (en AD ?_))));replace S:=S.t1;replace S:=S.keep 2;exact ⟨AF,Bk,Ap,As,At,rfl,Al,Am,rfl,S,F⟩
   refine cf Ao (aG (tx AE (tx AD ?_)));replace F:=exB F AM;refine bS Bb (bn A6 (tn A5 ?_));replace S:=S.r0;refine ac (pM (i_ J) Al (oB F fun Aq AU F=>pe (i_ Aq) (aD rfl rfl AU) (pa (i_ Aq) (en AA ?_))));replace S:=S.keep 1;exact ⟨Ab,Ak,Aq,As,At,Au,rfl,S,F⟩
  refine cf Ai (aG (tx AB (tx AA ?_)));replace F:=exB F AG;refine bS A2 (tn A0 (sR fun _ Bl=>pM U Ar (pa U (en Bl (ae (aF rfl rfl ?_))))));have hr:=oI F;exact ⟨U,cR hr fun r=>U,sP hr (fun r=>[Own R4_ [U] r]) (S.keep 1)⟩
theorem oh {w0 : World} {a0 : Int} {a1 : Int} {a2 : Int}  {N : Nat} {r : T2_} (hF : dv N a0 a1 a2 = some r) :
    Calls Tryz.prog 90 #[.int .i64 a0, .int .i64 a1, .int .i64 a2] w0 fun e w' => ∃ (q0 : Value), e = .returned (q0) ∧ Sat w0 w' [Own R4_ [q0] r] := nI N hF
theorem iH {w0:World} {a0:Int} {a1:Int}  {N:Nat} {r:T1_ × Bool} (F:bG N a0 a1=some r): Calls Tryz.prog 138 #[i_ a0,i_ a1] w0 fun e w'=>e=.returned (.tuple #[.agg #[i_ r.1.1,i_ r.1.2],.bool r.2])∧Ext w0 w' := by
 unfold bG at F;refine aJ Tryz.func138 rfl rfl dt ?_;have S:=Sat.start w0;refine sR fun _ AQ=>?_;refine aC S dt ?_;intro Bt Ad S Bk;refine pa (.bool false) (en AQ (sR fun _ AR=>pa (i_ 4000000000000000000) (en AR (sg fun _ Af=>sR fun _ Al=>pm (i_ a1) (pe (.bool (a1 == 0)) (dq rfl rfl) (pm (.bool (a1 == 0)) (oF F (fun J F=>?_) fun J F=>?_)))))))
 ·refine eo J (eo J (eo J (eo J (eo J (eo J (pe (.bool true) (av rfl J rfl) (pm (.bool true) (eo rfl (eo rfl (eo rfl (eo rfl (eo rfl (eo rfl (pe (.bool true) (av rfl rfl rfl) (en Al (ct rfl (sR fun _ AS=>pe (.agg #[i_ 0,i_ 0]) (aQ [] [i_ 0,i_ 0] rfl rfl) ?_)))))))))))))))));refine ak (S.top 0 rfl) rfl [i_ 0,i_ 0] rfl rfl dt (all_cons rfl (all_cons rfl rfl)) ?_;intro AT S;replace S:Sat w0 AT [Box Ad 68 [i_ 0,i_ 0]]:=S;refine pa (.bool false) (en AS (ae (tr Af ?_)));refine bi (cs:=[i_ 0,i_ 0]) rfl rfl rfl (au (S.boxAt 0 rfl)) rfl ?_;have hr:=oI F;exact ⟨cR hr fun r=>.tuple #[.agg #[i_ r.1.1,i_ r.1.2],.bool r.2],S.below⟩
 refine ei J (pm (i_ a0) (ei J (pm (i_ 4000000000000000000) (ei J (oB F fun AU Ax F=>pe (i_ AU) (iw rfl Ax) (ei J (pm (i_ 4000000000000000000) (ei J (oB F fun Am Ay F=>?_)))))))));refine ec0 gC (di Ay) (ca (ag rfl (ag rfl (ag rfl rfl)))) S fun Bu Bl S=>?_;refine ei J (pe (.bool (!Am)) (aK rfl) (pe (.bool (!Am)) (az rfl J rfl) (pm (.bool (!Am)) (oF F (fun U F=>?_) fun U F=>?_))))
 ·refine ei (aj U) (pm (i_ a1) (ei (aj U) (pm (i_ 4000000000000000000) (ei (aj U) (oB F fun AV Az F=>pe (i_ AV) (iw rfl Az) (ei (aj U) (pm (i_ 4000000000000000000) (ei (aj U) (oB F fun Ap AA F=>?_)))))))));refine ec0 gC (di AA) (ca (ag rfl (ag rfl (ag rfl rfl)))) S fun Bv Bm S=>?_;refine ei (aj U) (pe (.bool (!Ap)) (aK rfl) (pe (.bool (!Ap)) (az rfl (aj U) rfl) (en Al (oF F (fun Ag F=>?_) fun Ag F=>?_))))
  ·refine cf (aj Ag) (sn Af (sg fun _ Aq=>sR fun _ AW=>pm (i_ a1) (pe (.bool (decide (a1 < 0))) (aH rfl rfl) (en AW (oF F (fun Ah F=>?_) fun Ah F=>?_)))))
   ·refine ct Ah (sR fun _ AX=>pm (i_ a0) (oB F fun Ae AB F=>pe (i_ Ae) (iw rfl AB) (pa (i_ Ae) (en AX (ac (pm (i_ a1) (oB F fun Ai AC F=>pe (i_ Ai) (iw rfl AC) (pa (i_ Ai) (en Aq (sR fun _ AY=>pm (i_ Ae) (pm (i_ Ae) (oB F fun Ar AD F=>pe (i_ Ar) (iw rfl AD) (pe (i_ (imx Ae Ar)) (oP rfl rfl) (pm (i_ Ai) (oB F fun An AE F=>?_)))))))))))))));refine ec0 mU (jm AE) (ca (ag rfl (ag rfl rfl))) S fun Bw Bn S=>?_;refine pa (i_ An) (en AY (sg fun _ AZ=>?_));obtain ⟨C,hCd⟩:∃ C:World → Prop,∀ w,C w ↔ ∃ G,Sat w0 w ([] ++ G):=⟨_,fun _=>Iff.rfl⟩;refine ck [0,1,2,3,4,5,6,7,8] C (by kernel_rfl) ?_;intro Bx AF;replace S:=S.ext AF;have hC:=(hCd _).2 ⟨_,S⟩;refine aP (i_ Ae) 0 rfl rfl hC (ap rfl (fun w' hw'=>by obtain ⟨_,S⟩:=(hCd _).1 hw'; exact (aq rfl))) ?_;refine aP (i_ An) 1 rfl rfl hC (ap rfl (fun w' hw'=>by obtain ⟨_,S⟩:=(hCd _).1 hw'; exact (aq rfl))) ?_;refine oB F fun z9 AG F=>?_;refine aP (i_ z9) 2 rfl rfl hC (ap rfl (fun w' hw'=>by obtain ⟨_,S⟩:=(hCd _).1 hw'; exact (fj rfl rfl AG))) ?_;refine aP (i_ Ai) 3 rfl rfl hC (ap rfl (fun w' hw'=>by obtain ⟨_,S⟩:=(hCd _).1 hw'; exact (aq rfl))) ?_;refine aP (i_ An) 4 rfl rfl hC (ap rfl (fun w' hw'=>by obtain ⟨_,S⟩:=(hCd _).1 hw'; exact (aq rfl))) ?_;refine oB F fun Aa AH F=>?_;refine aP (i_ Aa) 5 rfl rfl hC (ap rfl (fun w' hw'=>by obtain ⟨_,S⟩:=(hCd _).1 hw'; exact (fj rfl rfl AH))) ?_;refine aP (.agg #[i_ z9,i_ Aa]) 6 rfl rfl hC (ap rfl (fun w' hw'=>by obtain ⟨_,S⟩:=(hCd _).1 hw'; exact (aQ [(0,[i_ z9]),(1,[i_ Aa])] [i_ z9,i_ Aa] (d9 rfl (d9 rfl rfl)) rfl))) ?_;refine aO 7 rfl ?_;refine aC S dt ?_;intro By As S Bo;refine ah ?_;have hC:=(hCd _).2 ⟨_,S⟩;refine ⟨fun _=>hC,?_⟩;refine aO 8 rfl ?_;refine ak (S.top 0 rfl) rfl [i_ z9,i_ Aa] rfl rfl dt (all_cons rfl (all_cons rfl rfl)) ?_;intro A0 S;replace S:Sat w0 A0 [Box As 68 [i_ z9,i_ Aa],Box Ad 68 [i_ 0,i_ 0]]:=S;refine ah ?_;have hC:=(hCd _).2 ⟨_,S⟩;refine ⟨fun _=>hC,?_⟩;refine bu (by kernel_rfl) ?_;refine tn AZ (sg fun _ At=>sR fun _ A1=>pe (.agg #[i_ z9,i_ Aa]) (am (cs:=[i_ z9,i_ Aa]) rfl rfl (au (S.boxAt 0 rfl))) (oB F fun A2 AI F=>?_));refine ec0 fM (bk AI) (ca (ag rfl rfl)) S fun Bz Bp S=>?_;refine pe (.bool (!A2)) (aK rfl) (en A1 (oF F (fun Aj F=>?_) fun Aj F=>?_))
    ·refine cf (aj Aj) (sn At (sR fun _ A3=>pe (.agg #[i_ z9,i_ Aa]) (am (cs:=[i_ z9,i_ Aa]) rfl rfl (au (S.boxAt 0 rfl))) ?_));refine ak (S.top 1 rfl) rfl [i_ z9,i_ Aa] rfl rfl dt (all_cons rfl (all_cons rfl rfl)) ?_;intro A4 S;replace S:Sat w0 A4 [Box Ad 68 [i_ z9,i_ Aa],Box As 68 [i_ z9,i_ Aa]]:=S;refine pa (.bool true) (en A3 (ae ?_));refine bi (cs:=[i_ z9,i_ Aa]) rfl rfl rfl (au (S.boxAt 0 rfl)) rfl ?_;have hr:=oI F;exact ⟨cR hr fun r=>.tuple #[.agg #[i_ r.1.1,i_ r.1.2],.bool r.2],S.below⟩
    refine ct (ai Aj) (sg fun _ A5=>?_);replace S:=S.r0;refine ac (pe (.agg #[i_ 0,i_ 0]) (aQ [] [i_ 0,i_ 0] rfl rfl) ?_);refine ak (S.top 0 rfl) rfl [i_ 0,i_ 0] rfl rfl dt (all_cons rfl (all_cons rfl rfl)) ?_;intro A6 S;replace S:Sat w0 A6 [Box Ad 68 [i_ 0,i_ 0]]:=S;refine pa (.bool false) (en A5 (ae (tr At ?_)));refine bi (cs:=[i_ 0,i_ 0]) rfl rfl rfl (au (S.boxAt 0 rfl)) rfl ?_;have hr:=oI F;exact ⟨cR hr fun r=>.tuple #[.agg #[i_ r.1.1,i_ r.1.2],.bool r.2],S.below⟩
   refine cf Ah (sn Aq (sR fun _ A7=>pm (i_ a0) (pm (i_ a0) (oB F fun Au AJ F=>pe (i_ Au) (iw rfl AJ) (pe (i_ (imx a0 Au)) (oP rfl rfl) (pm (i_ a1) (oB F fun Ao AK F=>?_)))))));refine ec0 mU (jm AK) (ca (ag rfl (ag rfl rfl))) S fun BA Bq S=>?_;refine pa (i_ Ao) (en A7 (sg fun _ A8=>?_));obtain ⟨C,hCd⟩:∃ C:World → Prop,∀ w,C w ↔ ∃ G,Sat w0 w ([] ++ G):=⟨_,fun _=>Iff.rfl⟩;refine ck [0,1,2,3,4,5,6,7,8] C (by kernel_rfl) ?_;intro BB AM;replace S:=S.ext AM;have hC:=(hCd _).2 ⟨_,S⟩;refine aP (i_ a0) 0 rfl rfl hC (ap rfl (fun w' hw'=>by obtain ⟨_,S⟩:=(hCd _).1 hw'; exact (aq rfl))) ?_;refine aP (i_ Ao) 1 rfl rfl hC (ap rfl (fun w' hw'=>by obtain ⟨_,S⟩:=(hCd _).1 hw'; exact (aq rfl))) ?_;refine oB F fun Ab AN F=>?_;refine aP (i_ Ab) 2 rfl rfl hC (ap rfl (fun w' hw'=>by obtain ⟨_,S⟩:=(hCd _).1 hw'; exact (fj rfl rfl AN))) ?_;refine aP (i_ a1) 3 rfl rfl hC (ap rfl (fun w' hw'=>by obtain ⟨_,S⟩:=(hCd _).1 hw'; exact (aq rfl))) ?_;refine aP (i_ Ao) 4 rfl rfl hC (ap rfl (fun w' hw'=>by obtain ⟨_,S⟩:=(hCd _).1 hw'; exact (aq rfl))) ?_;refine oB F fun Ac AO F=>?_;refine aP (i_ Ac) 5 rfl rfl hC (ap rfl (fun w' hw'=>by obtain ⟨_,S⟩:=(hCd _).1 hw'; exact (fj rfl rfl AO))) ?_;refine aP (.agg #[i_ Ab,i_ Ac]) 6 rfl rfl hC (ap rfl (fun w' hw'=>by obtain ⟨_,S⟩:=(hCd _).1 hw'; exact (aQ [(0,[i_ Ab]),(1,[i_ Ac])] [i_ Ab,i_ Ac] (d9 rfl (d9 rfl rfl)) rfl))) ?_;refine aO 7 rfl ?_;refine aC S dt ?_;intro BC Av S Br;refine ah ?_;have hC:=(hCd _).2 ⟨_,S⟩;refine ⟨fun _=>hC,?_⟩;refine aO 8 rfl ?_;refine ak (S.top 0 rfl) rfl [i_ Ab,i_ Ac] rfl rfl dt (all_cons rfl (all_cons rfl rfl)) ?_;intro A9 S;replace S:Sat w0 A9 [Box Av 68 [i_ Ab,i_ Ac],Box Ad 68 [i_ 0,i_ 0]]:=S;refine ah ?_;have hC:=(hCd _).2 ⟨_,S⟩;refine ⟨fun _=>hC,?_⟩;refine bu (by kernel_rfl) ?_;refine tn A8 (sg fun _ Aw=>sR fun _ Ba=>pe (.agg #[i_ Ab,i_ Ac]) (am (cs:=[i_ Ab,i_ Ac]) rfl rfl (au (S.boxAt 0 rfl))) (oB F fun Bb AP F=>?_));refine ec0 fM (bk AP) (ca (ag rfl rfl)) S fun BD Bs S=>?_;refine pe (.bool (!Bb)) (aK rfl) (en Ba (oF F (fun Ak F=>?_) fun Ak F=>?_))
   ·refine cf (aj Ak) (sn Aw (sR fun _ Bc=>pe (.agg #[i_ Ab,i_ Ac]) (am (cs:=[i_ Ab,i_ Ac]) rfl rfl (au (S.boxAt 0 rfl))) ?_));refine ak (S.top 1 rfl) rfl [i_ Ab,i_ Ac] rfl rfl dt (all_cons rfl (all_cons rfl rfl)) ?_;intro Bd S;replace S:Sat w0 Bd [Box Ad 68 [i_ Ab,i_ Ac],Box Av 68 [i_ Ab,i_ Ac]]:=S;refine pa (.bool true) (en Bc (ae ?_));refine bi (cs:=[i_ Ab,i_ Ac]) rfl rfl rfl (au (S.boxAt 0 rfl)) rfl ?_;have hr:=oI F;exact ⟨cR hr fun r=>.tuple #[.agg #[i_ r.1.1,i_ r.1.2],.bool r.2],S.below⟩
   refine ct (ai Ak) (sg fun _ Be=>?_);replace S:=S.r0;refine ac (pe (.agg #[i_ 0,i_ 0]) (aQ [] [i_ 0,i_ 0] rfl rfl) ?_);refine ak (S.top 0 rfl) rfl [i_ 0,i_ 0] rfl rfl dt (all_cons rfl (all_cons rfl rfl)) ?_;intro Bf S;replace S:Sat w0 Bf [Box Ad 68 [i_ 0,i_ 0]]:=S;refine pa (.bool false) (en Be (ae (tr Aw ?_)));refine bi (cs:=[i_ 0,i_ 0]) rfl rfl rfl (au (S.boxAt 0 rfl)) rfl ?_;have hr:=oI F;exact ⟨cR hr fun r=>.tuple #[.agg #[i_ r.1.1,i_ r.1.2],.bool r.2],S.below⟩
  refine ct (ai Ag) (sR fun _ Bg=>pe (.agg #[i_ 0,i_ 0]) (aQ [] [i_ 0,i_ 0] rfl rfl) ?_);refine ak (S.top 0 rfl) rfl [i_ 0,i_ 0] rfl rfl dt (all_cons rfl (all_cons rfl rfl)) ?_;intro Bh S;replace S:Sat w0 Bh [Box Ad 68 [i_ 0,i_ 0]]:=S;refine pa (.bool false) (en Bg (ae (tr Af ?_)));refine bi (cs:=[i_ 0,i_ 0]) rfl rfl rfl (au (S.boxAt 0 rfl)) rfl ?_;have hr:=oI F;exact ⟨cR hr fun r=>.tuple #[.agg #[i_ r.1.1,i_ r.1.2],.bool r.2],S.below⟩
 refine eo (ai U) (eo (ai U) (eo (ai U) (eo (ai U) (eo (ai U) (eo (ai U) (pe (.bool true) (av rfl (ai U) rfl) (en Al (ct rfl (sR fun _ Bi=>pe (.agg #[i_ 0,i_ 0]) (aQ [] [i_ 0,i_ 0] rfl rfl) ?_)))))))));refine ak (S.top 0 rfl) rfl [i_ 0,i_ 0] rfl rfl dt (all_cons rfl (all_cons rfl rfl)) ?_;intro Bj S;replace S:Sat w0 Bj [Box Ad 68 [i_ 0,i_ 0]]:=S;refine pa (.bool false) (en Bi (ae (tr Af ?_)));refine bi (cs:=[i_ 0,i_ 0]) rfl rfl rfl (au (S.boxAt 0 rfl)) rfl ?_;have hr:=oI F;exact ⟨cR hr fun r=>.tuple #[.agg #[i_ r.1.1,i_ r.1.2],.bool r.2],S.below⟩
theorem gL {w0:World} {a0:Int} {a1:Int} {a2:Int} {a3:Int}  {N:Nat} {r:T1_ × Bool} (F:dh N a0 a1 a2 a3=some r): Calls Tryz.prog 134 #[.agg #[i_ a0,i_ a1],.agg #[i_ a2,i_ a3]] w0 fun e w'=>e=.returned (.tuple #[.agg #[i_ r.1.1,i_ r.1.2],.bool r.2])∧Ext w0 w' := by
 unfold dh at F;refine aJ Tryz.func134 rfl rfl dt ?_;have S:=Sat.start w0;refine sR fun _ An=>?_;refine be [i_ a0,i_ a1] rfl S dt ?_;intro AF Ab S Ay;refine be [i_ a2,i_ a3] rfl S dt ?_;intro AG Ac S Az;refine aC S dt ?_;intro AH z9 S AA;refine pa (.bool false) (en An (sg fun _ Ad=>sR fun _ Ae=>pe (.agg #[i_ a0,i_ a1]) (am (cs:=[i_ a0,i_ a1]) rfl rfl (au (S.boxAt 2 rfl))) (oB F fun Af Ai F=>?_)));refine ec0 fM (bk Ai) (ca (ag rfl rfl)) S fun AI AB S=>?_;refine pe (.bool (!Af)) (aK rfl) (pm (.bool (!Af)) (oF F (fun U F=>?_) fun U F=>?_))
 ·refine ei (aj U) (pe (.agg #[i_ a2,i_ a3]) (am (cs:=[i_ a2,i_ a3]) rfl rfl (au (S.boxAt 1 rfl))) (ei (aj U) (oB F fun Ag Aj F=>?_)));refine ec0 fM (bk Aj) (ca (ag rfl rfl)) S fun AJ AC S=>?_;refine ei (aj U) (pe (.bool (!Ag)) (aK rfl) (pe (.bool (!Ag)) (az rfl (aj U) rfl) (en Ae (oF F (fun Aa F=>?_) fun Aa F=>?_))))
  ·refine cf (aj Aa) (sn Ad (sR fun _ Ao=>pe (pt Ab (0 + 0)) (aa rfl) (pe (i_ a0) (ab rfl ((S.boxAt 2 rfl) 0 _ rfl)) (pe (pt Ac (0 + 1)) (aa rfl) (pe (i_ a3) (ab rfl ((S.boxAt 1 rfl) 1 _ rfl)) (oB F fun Ap Ak F=>pe (i_ Ap) (dr rfl rfl Ak) (pe (pt Ab (0 + 1)) (aa rfl) (pe (i_ a1) (ab rfl ((S.boxAt 2 rfl) 1 _ rfl)) (pe (pt Ac (0 + 0)) (aa rfl) (pe (i_ a2) (ab rfl ((S.boxAt 1 rfl) 0 _ rfl)) (oB F fun Aq Al F=>pe (i_ Aq) (dr rfl rfl Al) (oB F fun J Am F=>?_))))))))))));refine ec0 po (iH Am) (ca (ag rfl (ag rfl rfl))) S fun AK AD S=>?_;refine pm (.tuple #[.agg #[i_ J.1.1,i_ J.1.2],.bool J.2]) (pe (.agg #[i_ J.1.1,i_ J.1.2]) (an rfl rfl) (pe (.bool J.2) (an rfl rfl) ?_));refine aC S dt ?_;intro AM Ah S AE;refine ak (S.top 0 rfl) rfl [i_ J.1.1,i_ J.1.2] rfl rfl dt (all_cons rfl (all_cons rfl rfl)) ?_;intro Ar S;replace S:Sat w0 Ar [Box Ah 68 [i_ J.1.1,i_ J.1.2],Box z9 68 [i_ 0,i_ 0],Box Ac 68 [i_ a2,i_ a3],Box Ab 68 [i_ a0,i_ a1]]:=S;refine pa (.bool J.2) (en Ao (sg fun _ As=>?_));replace S:=S.r3.r2;refine ac (pe (.agg #[i_ J.1.1,i_ J.1.2]) (am (cs:=[i_ J.1.1,i_ J.1.2]) rfl rfl (au (S.boxAt 0 rfl))) (pm (.bool J.2) ?_));refine ak (S.top 1 rfl) rfl [i_ J.1.1,i_ J.1.2] rfl rfl dt (all_cons rfl (all_cons rfl rfl)) ?_;intro At S;replace S:Sat w0 At [Box z9 68 [i_ J.1.1,i_ J.1.2],Box Ah 68 [i_ J.1.1,i_ J.1.2]]:=S;refine pa (.bool J.2) (en As (ae ?_));refine bi (cs:=[i_ J.1.1,i_ J.1.2]) rfl rfl rfl (au (S.boxAt 0 rfl)) rfl ?_;have hr:=oI F;exact ⟨cR hr fun r=>.tuple #[.agg #[i_ r.1.1,i_ r.1.2],.bool r.2],S.below⟩
  refine ct (ai Aa) (sg fun _ Au=>?_);replace S:=S.r2.r1;refine ac (pe (.agg #[i_ 0,i_ 0]) (aQ [] [i_ 0,i_ 0] rfl rfl) ?_);refine ak (S.top 0 rfl) rfl [i_ 0,i_ 0] rfl rfl dt (all_cons rfl (all_cons rfl rfl)) ?_;intro Av S;replace S:Sat w0 Av [Box z9 68 [i_ 0,i_ 0]]:=S;refine pa (.bool false) (en Au (ae (tr Ad ?_)));refine bi (cs:=[i_ 0,i_ 0]) rfl rfl rfl (au (S.boxAt 0 rfl)) rfl ?_;have hr:=oI F;exact ⟨cR hr fun r=>.tuple #[.agg #[i_ r.1.1,i_ r.1.2],.bool r.2],S.below⟩
 refine eo (ai U) (eo (ai U) (eo (ai U) (pe (.bool true) (av rfl (ai U) rfl) (en Ae (ct rfl (sg fun _ Aw=>?_))))));replace S:=S.r2.r1;refine ac (pe (.agg #[i_ 0,i_ 0]) (aQ [] [i_ 0,i_ 0] rfl rfl) ?_);refine ak (S.top 0 rfl) rfl [i_ 0,i_ 0] rfl rfl dt (all_cons rfl (all_cons rfl rfl)) ?_;intro Ax S;replace S:Sat w0 Ax [Box z9 68 [i_ 0,i_ 0]]:=S;refine pa (.bool false) (en Aw (ae (tr Ad ?_)));refine bi (cs:=[i_ 0,i_ 0]) rfl rfl rfl (au (S.boxAt 0 rfl)) rfl ?_;have hr:=oI F;exact ⟨cR hr fun r=>.tuple #[.agg #[i_ r.1.1,i_ r.1.2],.bool r.2],S.below⟩
theorem gI {w0:World} {a0:Int} {a1:Int} {a2:Int} {a3:Int}  {N:Nat} {r:T1_ × Bool} (F:bK N a0 a1 a2 a3=some r): Calls Tryz.prog 156 #[.agg #[i_ a0,i_ a1],.agg #[i_ a2,i_ a3]] w0 fun e w'=>e=.returned (.tuple #[.agg #[i_ r.1.1,i_ r.1.2],.bool r.2])∧Ext w0 w' := by
 unfold bK at F;refine aJ Tryz.func156 rfl rfl dt ?_;have S:=Sat.start w0;refine sR fun _ An=>?_;refine be [i_ a0,i_ a1] rfl S dt ?_;intro AF Ab S Ay;refine be [i_ a2,i_ a3] rfl S dt ?_;intro AG Ac S Az;refine aC S dt ?_;intro AH z9 S AA;refine pa (.bool false) (en An (sg fun _ Ad=>sR fun _ Ae=>pe (.agg #[i_ a0,i_ a1]) (am (cs:=[i_ a0,i_ a1]) rfl rfl (au (S.boxAt 2 rfl))) (oB F fun Af Ai F=>?_)));refine ec0 fM (bk Ai) (ca (ag rfl rfl)) S fun AI AB S=>?_;refine pe (.bool (!Af)) (aK rfl) (pm (.bool (!Af)) (oF F (fun U F=>?_) fun U F=>?_))
 ·refine ei (aj U) (pe (.agg #[i_ a2,i_ a3]) (am (cs:=[i_ a2,i_ a3]) rfl rfl (au (S.boxAt 1 rfl))) (ei (aj U) (oB F fun Ag Aj F=>?_)));refine ec0 fM (bk Aj) (ca (ag rfl rfl)) S fun AJ AC S=>?_;refine ei (aj U) (pe (.bool (!Ag)) (aK rfl) (pe (.bool (!Ag)) (az rfl (aj U) rfl) (en Ae (oF F (fun Aa F=>?_) fun Aa F=>?_))))
  ·refine cf (aj Aa) (sn Ad (sR fun _ Ao=>pe (pt Ab (0 + 0)) (aa rfl) (pe (i_ a0) (ab rfl ((S.boxAt 2 rfl) 0 _ rfl)) (pe (pt Ac (0 + 0)) (aa rfl) (pe (i_ a2) (ab rfl ((S.boxAt 1 rfl) 0 _ rfl)) (oB F fun Ap Ak F=>pe (i_ Ap) (dr rfl rfl Ak) (pe (pt Ab (0 + 1)) (aa rfl) (pe (i_ a1) (ab rfl ((S.boxAt 2 rfl) 1 _ rfl)) (pe (pt Ac (0 + 1)) (aa rfl) (pe (i_ a3) (ab rfl ((S.boxAt 1 rfl) 1 _ rfl)) (oB F fun Aq Al F=>pe (i_ Aq) (dr rfl rfl Al) (oB F fun J Am F=>?_))))))))))));refine ec0 po (iH Am) (ca (ag rfl (ag rfl rfl))) S fun AK AD S=>?_;refine pm (.tuple #[.agg #[i_ J.1.1,i_ J.1.2],.bool J.2]) (pe (.agg #[i_ J.1.1,i_ J.1.2]) (an rfl rfl) (pe (.bool J.2) (an rfl rfl) ?_));refine aC S dt ?_;intro AM Ah S AE;refine ak (S.top 0 rfl) rfl [i_ J.1.1,i_ J.1.2] rfl rfl dt (all_cons rfl (all_cons rfl rfl)) ?_;intro Ar S;replace S:Sat w0 Ar [Box Ah 68 [i_ J.1.1,i_ J.1.2],Box z9 68 [i_ 0,i_ 0],Box Ac 68 [i_ a2,i_ a3],Box Ab 68 [i_ a0,i_ a1]]:=S;refine pa (.bool J.2) (en Ao (sg fun _ As=>?_));replace S:=S.r3.r2;refine ac (pe (.agg #[i_ J.1.1,i_ J.1.2]) (am (cs:=[i_ J.1.1,i_ J.1.2]) rfl rfl (au (S.boxAt 0 rfl))) (pm (.bool J.2) ?_));refine ak (S.top 1 rfl) rfl [i_ J.1.1,i_ J.1.2] rfl rfl dt (all_cons rfl (all_cons rfl rfl)) ?_;intro At S;replace S:Sat w0 At [Box z9 68 [i_ J.1.1,i_ J.1.2],Box Ah 68 [i_ J.1.1,i_ J.1.2]]:=S;refine pa (.bool J.2) (en As (ae ?_));refine bi (cs:=[i_ J.1.1,i_ J.1.2]) rfl rfl rfl (au (S.boxAt 0 rfl)) rfl ?_;have hr:=oI F;exact ⟨cR hr fun r=>.tuple #[.agg #[i_ r.1.1,i_ r.1.2],.bool r.2],S.below⟩
  refine ct (ai Aa) (sg fun _ Au=>?_);replace S:=S.r2.r1;refine ac (pe (.agg #[i_ 0,i_ 0]) (aQ [] [i_ 0,i_ 0] rfl rfl) ?_);refine ak (S.top 0 rfl) rfl [i_ 0,i_ 0] rfl rfl dt (all_cons rfl (all_cons rfl rfl)) ?_;intro Av S;replace S:Sat w0 Av [Box z9 68 [i_ 0,i_ 0]]:=S;refine pa (.bool false) (en Au (ae (tr Ad ?_)));refine bi (cs:=[i_ 0,i_ 0]) rfl rfl rfl (au (S.boxAt 0 rfl)) rfl ?_;have hr:=oI F;exact ⟨cR hr fun r=>.tuple #[.agg #[i_ r.1.1,i_ r.1.2],.bool r.2],S.below⟩
 refine eo (ai U) (eo (ai U) (eo (ai U) (pe (.bool true) (av rfl (ai U) rfl) (en Ae (ct rfl (sg fun _ Aw=>?_))))));replace S:=S.r2.r1;refine ac (pe (.agg #[i_ 0,i_ 0]) (aQ [] [i_ 0,i_ 0] rfl rfl) ?_);refine ak (S.top 0 rfl) rfl [i_ 0,i_ 0] rfl rfl dt (all_cons rfl (all_cons rfl rfl)) ?_;intro Ax S;replace S:Sat w0 Ax [Box z9 68 [i_ 0,i_ 0]]:=S;refine pa (.bool false) (en Aw (ae (tr Ad ?_)));refine bi (cs:=[i_ 0,i_ 0]) rfl rfl rfl (au (S.boxAt 0 rfl)) rfl ?_;have hr:=oI F;exact ⟨cR hr fun r=>.tuple #[.agg #[i_ r.1.1,i_ r.1.2],.bool r.2],S.below⟩
theorem jK {w0:World} {a0:Int} {a1:Int} {a2:Int} {a3:Int}  {N:Nat} {r:T1_ × Bool} (F:bJ N a0 a1 a2 a3=some r): Calls Tryz.prog 101 #[.agg #[i_ a0,i_ a1],.agg #[i_ a2,i_ a3]] w0 fun e w'=>e=.returned (.tuple #[.agg #[i_ r.1.1,i_ r.1.2],.bool r.2])∧Ext w0 w' := by
 unfold bJ at F;refine aJ Tryz.func101 rfl rfl dt ?_;have S:=Sat.start w0;refine sR fun _ Ap=>?_;refine be [i_ a0,i_ a1] rfl S dt ?_;intro AJ z9 S AC;refine be [i_ a2,i_ a3] rfl S dt ?_;intro AK Aa S AD;refine aC S dt ?_;intro AM Ab S AE;refine pa (.bool false) (en Ap (sg fun _ Ad=>sR fun _ Ae=>pe (.agg #[i_ a0,i_ a1]) (am (cs:=[i_ a0,i_ a1]) rfl rfl (au (S.boxAt 2 rfl))) (oB F fun Af Ai F=>?_)));refine ec0 fM (bk Ai) (ca (ag rfl rfl)) S fun AN AF S=>?_;refine pe (.bool (!Af)) (aK rfl) (pm (.bool (!Af)) (oF F (fun U F=>?_) fun U F=>?_))
 ·refine ei (aj U) (pe (.agg #[i_ a2,i_ a3]) (am (cs:=[i_ a2,i_ a3]) rfl rfl (au (S.boxAt 1 rfl))) (ei (aj U) (oB F fun Ag Aj F=>?_)));refine ec0 fM (bk Aj) (ca (ag rfl rfl)) S fun AO AG S=>?_;refine ei (aj U) (pe (.bool (!Ag)) (aK rfl) (pe (.bool (!Ag)) (az rfl (aj U) rfl) (en Ae (oF F (fun Ac F=>?_) fun Ac F=>?_))))
  ·refine cf (aj Ac) (sn Ad (sR fun _ Aq=>pe (pt z9 (0 + 0)) (aa rfl) (pe (i_ a0) (ab rfl ((S.boxAt 2 rfl) 0 _ rfl)) (pe (pt Aa (0 + 1)) (aa rfl) (pe (i_ a3) (ab rfl ((S.boxAt 1 rfl) 1 _ rfl)) (oB F fun Ar Ak F=>pe (i_ Ar) (dr rfl rfl Ak) (pe (pt Aa (0 + 0)) (aa rfl) (pe (i_ a2) (ab rfl ((S.boxAt 1 rfl) 0 _ rfl)) (pe (pt z9 (0 + 1)) (aa rfl) (pe (i_ a1) (ab rfl ((S.boxAt 2 rfl) 1 _ rfl)) (oB F fun As Al F=>pe (i_ As) (dr rfl rfl Al) (oB F fun At Am F=>pe (i_ At) (aD rfl rfl Am) (pe (pt z9 (0 + 1)) (aa rfl) (pe (i_ a1) (ab rfl ((S.boxAt 2 rfl) 1 _ rfl)) (pe (pt Aa (0 + 1)) (aa rfl) (pe (i_ a3) (ab rfl ((S.boxAt 1 rfl) 1 _ rfl)) (oB F fun Au An F=>pe (i_ Au) (dr rfl rfl An) (oB F fun J Ao F=>?_))))))))))))))))));refine ec0 po (iH Ao) (ca (ag rfl (ag rfl rfl))) S fun AP AH S=>?_;refine pm (.tuple #[.agg #[i_ J.1.1,i_ J.1.2],.bool J.2]) (pe (.agg #[i_ J.1.1,i_ J.1.2]) (an rfl rfl) (pe (.bool J.2) (an rfl rfl) ?_));refine aC S dt ?_;intro AQ Ah S AI;refine ak (S.top 0 rfl) rfl [i_ J.1.1,i_ J.1.2] rfl rfl dt (all_cons rfl (all_cons rfl rfl)) ?_;intro Av S;replace S:Sat w0 Av [Box Ah 68 [i_ J.1.1,i_ J.1.2],Box Ab 68 [i_ 0,i_ 0],Box Aa 68 [i_ a2,i_ a3],Box z9 68 [i_ a0,i_ a1]]:=S;refine pa (.bool J.2) (en Aq (sg fun _ Aw=>?_));replace S:=S.r3.r2;refine ac (pe (.agg #[i_ J.1.1,i_ J.1.2]) (am (cs:=[i_ J.1.1,i_ J.1.2]) rfl rfl (au (S.boxAt 0 rfl))) (pm (.bool J.2) ?_));refine ak (S.top 1 rfl) rfl [i_ J.1.1,i_ J.1.2] rfl rfl dt (all_cons rfl (all_cons rfl rfl)) ?_;intro Ax S;replace S:Sat w0 Ax [Box Ab 68 [i_ J.1.1,i_ J.1.2],Box Ah 68 [i_ J.1.1,i_ J.1.2]]:=S;refine pa (.bool J.2) (en Aw (ae ?_));refine bi (cs:=[i_ J.1.1,i_ J.1.2]) rfl rfl rfl (au (S.boxAt 0 rfl)) rfl ?_;have hr:=oI F;exact ⟨cR hr fun r=>.tuple #[.agg #[i_ r.1.1,i_ r.1.2],.bool r.2],S.below⟩
  refine ct (ai Ac) (sg fun _ Ay=>?_);replace S:=S.r2.r1;refine ac (pe (.agg #[i_ 0,i_ 0]) (aQ [] [i_ 0,i_ 0] rfl rfl) ?_);refine ak (S.top 0 rfl) rfl [i_ 0,i_ 0] rfl rfl dt (all_cons rfl (all_cons rfl rfl)) ?_;intro Az S;replace S:Sat w0 Az [Box Ab 68 [i_ 0,i_ 0]]:=S;refine pa (.bool false) (en Ay (ae (tr Ad ?_)));refine bi (cs:=[i_ 0,i_ 0]) rfl rfl rfl (au (S.boxAt 0 rfl)) rfl ?_;have hr:=oI F;exact ⟨cR hr fun r=>.tuple #[.agg #[i_ r.1.1,i_ r.1.2],.bool r.2],S.below⟩
 refine eo (ai U) (eo (ai U) (eo (ai U) (pe (.bool true) (av rfl (ai U) rfl) (en Ae (ct rfl (sg fun _ AA=>?_))))));replace S:=S.r2.r1;refine ac (pe (.agg #[i_ 0,i_ 0]) (aQ [] [i_ 0,i_ 0] rfl rfl) ?_);refine ak (S.top 0 rfl) rfl [i_ 0,i_ 0] rfl rfl dt (all_cons rfl (all_cons rfl rfl)) ?_;intro AB S;replace S:Sat w0 AB [Box Ab 68 [i_ 0,i_ 0]]:=S;refine pa (.bool false) (en AA (ae (tr Ad ?_)));refine bi (cs:=[i_ 0,i_ 0]) rfl rfl rfl (au (S.boxAt 0 rfl)) rfl ?_;have hr:=oI F;exact ⟨cR hr fun r=>.tuple #[.agg #[i_ r.1.1,i_ r.1.2],.bool r.2],S.below⟩
theorem jQ {w0:World} {a0:Int} {a1:Int} {a2:Int} {a3:Int}  {N:Nat} {r:T1_ × Bool} (F:dA N a0 a1 a2 a3=some r): Calls Tryz.prog 157 #[.agg #[i_ a0,i_ a1],.agg #[i_ a2,i_ a3]] w0 fun e w'=>e=.returned (.tuple #[.agg #[i_ r.1.1,i_ r.1.2],.bool r.2])∧Ext w0 w' := by
 unfold dA at F;refine aJ Tryz.func157 rfl rfl dt ?_;have S:=Sat.start w0;refine sR fun _ Ah=>?_;refine be [i_ a0,i_ a1] rfl S dt ?_;intro Ax Ai S Ar;refine be [i_ a2,i_ a3] rfl S dt ?_;intro Ay Aa S As;refine aC S dt ?_;intro Az Ab S At;refine pa (.bool false) (en Ah (sg fun _ Ac=>sR fun _ Aj=>pe (.agg #[i_ a2,i_ a3]) (am (cs:=[i_ a2,i_ a3]) rfl rfl (au (S.boxAt 1 rfl))) (oB F fun Ak Ae F=>?_)));refine ec0 fM (bk Ae) (ca (ag rfl rfl)) S fun AA Au S=>?_;refine pe (.bool (!Ak)) (aK rfl) (en Aj (oF F (fun U F=>?_) fun U F=>?_))
 ·refine cf (aj U) (sn Ac (sR fun _ Al=>pe (.agg #[i_ a0,i_ a1]) (am (cs:=[i_ a0,i_ a1]) rfl rfl (au (S.boxAt 2 rfl))) (pe (pt Aa (0 + 0)) (aa rfl) (pe (i_ a2) (ab rfl ((S.boxAt 1 rfl) 0 _ rfl)) (oB F fun z9 Af F=>pe (i_ z9) (iw rfl Af) (pe (pt Aa (0 + 1)) (aa rfl) (pe (i_ a3) (ab rfl ((S.boxAt 1 rfl) 1 _ rfl)) (pe (.agg #[i_ z9,i_ a3]) (aQ [(0,[i_ z9]),(1,[i_ a3])] [i_ z9,i_ a3] (d9 rfl (d9 rfl rfl)) rfl) (oB F fun J Ag F=>?_)))))))));refine ec0 rN (jK Ag) (ca (ag rfl (ag rfl rfl))) S fun AB Av S=>?_;refine pm (.tuple #[.agg #[i_ J.1.1,i_ J.1.2],.bool J.2]) (pe (.agg #[i_ J.1.1,i_ J.1.2]) (an rfl rfl) (pe (.bool J.2) (an rfl rfl) ?_));refine aC S dt ?_;intro AC Ad S Aw;refine ak (S.top 0 rfl) rfl [i_ J.1.1,i_ J.1.2] rfl rfl dt (all_cons rfl (all_cons rfl rfl)) ?_;intro Am S;replace S:Sat w0 Am [Box Ad 68 [i_ J.1.1,i_ J.1.2],Box Ab 68 [i_ 0,i_ 0],Box Aa 68 [i_ a2,i_ a3],Box Ai 68 [i_ a0,i_ a1]]:=S;refine pa (.bool J.2) (en Al (sg fun _ An=>?_));replace S:=S.r3.r2;refine ac (pe (.agg #[i_ J.1.1,i_ J.1.2]) (am (cs:=[i_ J.1.1,i_ J.1.2]) rfl rfl (au (S.boxAt 0 rfl))) (pm (.bool J.2) ?_));refine ak (S.top 1 rfl) rfl [i_ J.1.1,i_ J.1.2] rfl rfl dt (all_cons rfl (all_cons rfl rfl)) ?_;intro Ao S;replace S:Sat w0 Ao [Box Ab 68 [i_ J.1.1,i_ J.1.2],Box Ad 68 [i_ J.1.1,i_ J.1.2]]:=S;refine pa (.bool J.2) (en An (ae ?_));refine bi (cs:=[i_ J.1.1,i_ J.1.2]) rfl rfl rfl (au (S.boxAt 0 rfl)) rfl ?_;have hr:=oI F;exact ⟨cR hr fun r=>.tuple #[.agg #[i_ r.1.1,i_ r.1.2],.bool r.2],S.below⟩
 refine ct (ai U) (sg fun _ Ap=>?_);replace S:=S.r2.r1;refine ac (pe (.agg #[i_ 0,i_ 0]) (aQ [] [i_ 0,i_ 0] rfl rfl) ?_);refine ak (S.top 0 rfl) rfl [i_ 0,i_ 0] rfl rfl dt (all_cons rfl (all_cons rfl rfl)) ?_;intro Aq S;replace S:Sat w0 Aq [Box Ab 68 [i_ 0,i_ 0]]:=S;refine pa (.bool false) (en Ap (ae (tr Ac ?_)));refine bi (cs:=[i_ 0,i_ 0]) rfl rfl rfl (au (S.boxAt 0 rfl)) rfl ?_;have hr:=oI F;exact ⟨cR hr fun r=>.tuple #[.agg #[i_ r.1.1,i_ r.1.2],.bool r.2],S.below⟩
theorem kZ {w0:World} {Ad:World} {G0:List Asn} {u0:Value} {a0:List T3_} {a1:Int} (S:Sat Ad w0 (Own aR [u0] a0 :: G0)) {N:Nat} {r:Bool × T6_} (F:fq N a0 a1=some r): Calls Tryz.prog 133 #[u0,i_ a1] w0 fun e w'=>e=.returned (.bool r.1)∧Sat Ad w' (Own aR [u0] r.2 :: G0) := by
 unfold fq at F;refine aJ Tryz.func133 rfl rfl dt ?_;refine sR fun _ Dm=>pa (.bool false) (en Dm (sg fun _ Bs=>sR fun _ Dn=>pa (i_ 0) (en Dn (bg fun _ Bt=>?_))));obtain ⟨Do,hL,A6⟩:=ob F;refine aE (fun k e w=>∃ (Aq:List T3_),∃ (Aa:Int),e 0=u0∧e 1=i_ a1∧e 5=i_ Aa∧Sat Ad w (Own aR [u0] Aq :: G0)∧cd N k Aq a1 Aa=some Do) N ?_ ?_ ?_
 ·exact ⟨a0,0,rfl,rfl,rfl,S,hL⟩
 ·rintro e w ⟨_,_,_,_,_,_,hz⟩; exact nn hz
 rintro k Ei Ar ⟨Aq,Aa,Ao,Am,Ap,S,F⟩;refine gn fun _ Ax=>sg fun _ B5=>sR fun _ Dp=>pM (i_ Aa) Ap (pM u0 Ao (pe (i_ (Aq.length:Int)) (ax rfl (S.rdAt (R:=aR) 0 rfl)) (pe (.bool (decide (Aa < (Aq.length:Int)))) (aH rfl rfl) (en Dp (oF F (fun A7 F=>?_) fun A7 F=>?_)))))
 ·refine ct A7 (sn B5 (sg fun _ AO=>bg fun _ AP=>sg fun _ Bu=>sR fun _ B6=>pM (i_ Aa) Ap (pM (i_ a1) Am (pe (.bool (Aa == a1)) (dq rfl rfl) (pm (.bool (Aa == a1)) (oF F (fun Ac F=>?_) fun Ac F=>?_))))))
  ·refine eo Ac (eo Ac (eo Ac (eo Ac (eo Ac (eo Ac (eo Ac (eo Ac (eo Ac (pe (.bool true) (av rfl Ac rfl) (en B6 (ct rfl (aG (tx Bu (bS AP (tn AO (ac (pM (i_ Aa) Ap (oB F fun Bv Cf F=>pe (i_ Bv) (aD rfl rfl Cf) (pa (i_ Bv) (en Ax ?_))))))))))))))))))));exact ⟨Aq,Bv,Ao,Am,rfl,S,F⟩
  refine ei Ac (pM u0 Ao (ei Ac (pM (i_ Aa) Ap (ei Ac (oB F fun Ej Cg F=>?_)))));refine aU (wA:=Ar) rfl (S.rdAt (R:=aR) 0 rfl) rfl dt rfl Cg dt ?_;intro Ek D4 El Af Ah;obtain ⟨Dq,rfl⟩:=aM Af;refine ei Ac (pe Dq (ab rfl (Ah 0 _ rfl)) (ei Ac (pM (i_ a1) Am (ei Ac (oB F fun Bw Ch F=>?_)))));refine aU (wA:=Ar) rfl Af rfl dt rfl Ch dt ?_;intro Dr Ci Em Cj Ai;obtain ⟨_,_,rfl,Ck,Cl⟩:=Cj;obtain rfl:=Ck;obtain rfl:=Cl;refine ei Ac (pe (pt Dr (Ci + 0)) (aa rfl) (ei Ac (pe (i_ Bw.1) (ab rfl (Ai 0 _ rfl)) (ei Ac (pe (.bool (Bw.1 == 0)) (dq rfl rfl) (pe (.bool (Bw.1 == 0)) (az rfl Ac rfl) (en B6 (oF F (fun A8 F=>?_) fun A8 F=>?_))))))))
  ·refine ct A8 (aG (tx Bu (bS AP (tn AO (ac (pM (i_ Aa) Ap (oB F fun Bx Cm F=>pe (i_ Bx) (aD rfl rfl Cm) (pa (i_ Bx) (en Ax ?_)))))))));exact ⟨Aq,Bx,Ao,Am,rfl,S,F⟩
  refine cf A8 (sn Bu (sg fun _ Ds=>?_));obtain ⟨AV,A9,S⟩:=S.frz;replace S:Sat Ad Ar (Frz Ar AV :: G0):=S;refine oB F fun En Co F=>oB F fun Ba Cp F=>oB F fun Eo Cq F=>oB F fun Bb Cr F=>oB F fun J BK F=>?_;refine fX (fun e w=>∃ (Ab:Nat),e 0=u0∧e 1=i_ a1∧e 5=i_ Aa∧e 6=pt Ab 0∧e 7=.bool J.2∧Sat Ad w (Frz Ar AV :: Box Ab 68 [i_ J.1.1,i_ J.1.2] :: G0)) ?_ ?_
  ·obtain ⟨C,hCd⟩:∃ C:World → Prop,∀ w,C w ↔ ∃ G,Sat Ad w ([Frz Ar AV] ++ G):=⟨_,fun _=>Iff.rfl⟩;refine ck [0,1,2,3,4,5,6,7,8,9,10,11,12,13,14,15,16,17,18,19,20] C (by kernel_rfl) ?_;intro Ep AQ;replace S:=S.ext AQ;have Ah:=ar AQ Ah;have Af:=fW Af AQ;have Ai:=ar AQ Ai;have hC:=(hCd _).2 ⟨_,S⟩;refine aP u0 0 rfl rfl hC (ap rfl (fun w' hw'=>by obtain ⟨_,S⟩:=(hCd _).1 hw'; exact (aq Ao))) ?_;refine aP (i_ Aa) 1 rfl rfl hC (ap rfl (fun w' hw'=>by obtain ⟨_,S⟩:=(hCd _).1 hw'; exact (aq Ap))) ?_;refine dk (by kernel_rfl) 2 rfl hC (by kernel_rfl) (by kernel_rfl) rfl A9 rfl rfl Co dt ?_;intro Er D5 Es Et BL Az AW Cs;replace Az:=fun q hq=>(fun _ h=>h) q (Az q hq);replace AW:=(fun _ h=>h) _ AW;obtain ⟨Dt,rfl⟩:=aM (Rep.own_rd _ BL);refine aP Dt 3 rfl rfl hC (ap rfl (fun w' hw'=>by obtain ⟨_,S⟩:=(hCd _).1 hw'; exact (ab rfl ((S.frzCells 0 rfl AW Cs) 0 _ rfl)))) ?_;refine aP (i_ a1) 4 rfl rfl hC (ap rfl (fun w' hw'=>by obtain ⟨_,S⟩:=(hCd _).1 hw'; exact (aq Am))) ?_;refine dk (by kernel_rfl) 5 rfl hC (by kernel_rfl) (by kernel_rfl) rfl BL rfl rfl Cp dt ?_;intro Eu D6 Ev Ew Ct AA AX Cu;replace AA:=fun q hq=>Az q (AA q hq);replace AX:=Az _ AX;obtain ⟨_,_,_,_,rfl,rfl,Cv,Cw⟩:=Ct;have DS:=fun q hq=>AA q (List.mem_append_left _ hq);have DT:=fun q hq=>AA q (List.mem_append_right _ hq);obtain ⟨rfl,_⟩:=Cv;obtain ⟨rfl,_⟩:=Cw;refine aP (.agg #[i_ Ba.1,i_ Ba.2]) 6 rfl rfl hC (ap rfl (fun w' hw'=>by obtain ⟨_,S⟩:=(hCd _).1 hw'; exact (am (cs:=[i_ Ba.1,i_ Ba.2]) rfl rfl (S.frzCells 0 rfl AX Cu)))) ?_;refine aP u0 7 rfl rfl hC (ap rfl (fun w' hw'=>by obtain ⟨_,S⟩:=(hCd _).1 hw'; exact (aq Ao))) ?_;refine aP (i_ a1) 8 rfl rfl hC (ap rfl (fun w' hw'=>by obtain ⟨_,S⟩:=(hCd _).1 hw'; exact (aq Am))) ?_;refine dk (by kernel_rfl) 9 rfl hC (by kernel_rfl) (by kernel_rfl) rfl A9 rfl rfl Cq dt ?_;intro Ex D7 Ey Ez BM AB AY Cx;replace AB:=fun q hq=>(fun _ h=>h) q (AB q hq);replace AY:=(fun _ h=>h) _ AY;obtain ⟨Du,rfl⟩:=aM (Rep.own_rd _ BM);refine aP Du 10 rfl rfl hC (ap rfl (fun w' hw'=>by obtain ⟨_,S⟩:=(hCd _).1 hw'; exact (ab rfl ((S.frzCells 0 rfl AY Cx) 0 _ rfl)))) ?_;refine aP (i_ a1) 11 rfl rfl hC (ap rfl (fun w' hw'=>by obtain ⟨_,S⟩:=(hCd _).1 hw'; exact (aq Am))) ?_;refine dk (by kernel_rfl) 12 rfl hC (by kernel_rfl) (by kernel_rfl) rfl BM rfl rfl Cr dt ?_;intro EA D8 EB EC Cy AC AZ Cz;replace AC:=fun q hq=>AB q (AC q hq);replace AZ:=AB _ AZ;obtain ⟨_,_,_,_,rfl,rfl,CA,CB⟩:=Cy;have DU:=fun q hq=>AC q (List.mem_append_left _ hq);have DV:=fun q hq=>AC q (List.mem_append_right _ hq);obtain ⟨rfl,_⟩:=CA;obtain ⟨rfl,_⟩:=CB;refine aP (.agg #[i_ Bb.1,i_ Bb.2]) 13 rfl rfl hC (ap rfl (fun w' hw'=>by obtain ⟨_,S⟩:=(hCd _).1 hw'; exact (am (cs:=[i_ Bb.1,i_ Bb.2]) rfl rfl (S.frzCells 0 rfl AZ Cz)))) ?_;refine fh 14 18 (by kernel_rfl) rfl rfl ?_ ?_
   ·refine ec0 mV (gL BK) (ca (ag rfl (ag rfl rfl))) S fun Dv As S=>?_;have Ah:=ar As Ah;have Af:=fW Af As;have Ai:=ar As Ai;refine ah ?_;have hC:=(hCd _).2 ⟨_,S⟩;refine ⟨fun _=>hC,?_⟩;refine aP (.tuple #[.agg #[i_ J.1.1,i_ J.1.2],.bool J.2]) 15 rfl rfl hC (ap rfl (fun w' hw'=>by obtain ⟨_,S⟩:=(hCd _).1 hw'; exact (aq rfl))) ?_;refine aP (.agg #[i_ J.1.1,i_ J.1.2]) 16 rfl rfl hC (ap rfl (fun w' hw'=>by obtain ⟨_,S⟩:=(hCd _).1 hw'; exact (an rfl rfl))) ?_;refine aP (.bool J.2) 17 rfl rfl hC (ap rfl (fun w' hw'=>by obtain ⟨_,S⟩:=(hCd _).1 hw'; exact (an rfl rfl))) ?_;refine aO 18 rfl ?_;refine aC S dt ?_;intro Dw Ab S At;have Ah:=ar At Ah;have Af:=fW Af At;have Ai:=ar At Ai;refine ah ?_;replace S:=S.t1;have hC:=(hCd _).2 ⟨_,S⟩;refine ⟨fun _=>hC,?_⟩;refine aO 19 rfl ?_;refine ak (S.top 1 rfl) rfl [i_ J.1.1,i_ J.1.2] rfl rfl dt (all_cons rfl (all_cons rfl rfl)) ?_;intro By S;replace S:Sat Ad By (Box Ab 68 [i_ J.1.1,i_ J.1.2] :: Frz Ar AV :: G0):=S;refine ah ?_;replace S:=S.t1;have hC:=(hCd _).2 ⟨_,S⟩;refine ⟨fun _=>hC,?_⟩;refine aO 20 rfl ?_;refine pa (.bool J.2) (ah ?_);refine ⟨fun _=>hC,?_⟩;refine bu (by kernel_rfl) ?_;exact ⟨rfl,Ab,Ao,Am,Ap,rfl,rfl,S⟩
   refine aC S dt ?_;intro Dw Ab S At;have Ah:=ar At Ah;have Af:=fW Af At;have Ai:=ar At Ai;refine ah ?_;replace S:=S.t1;have hC:=(hCd _).2 ⟨_,S⟩;refine ⟨fun _=>hC,?_⟩;refine aO 14 rfl ?_;refine ec0 mV (gL BK) (ca (ag rfl (ag rfl rfl))) S fun Dv As S=>?_;have Ah:=ar As Ah;have Af:=fW Af As;have Ai:=ar As Ai;refine ah ?_;have hC:=(hCd _).2 ⟨_,S⟩;refine ⟨fun _=>hC,?_⟩;refine aO 15 rfl ?_;refine pm (.tuple #[.agg #[i_ J.1.1,i_ J.1.2],.bool J.2]) (ah ?_);refine ⟨fun _=>hC,?_⟩;refine aP (.agg #[i_ J.1.1,i_ J.1.2]) 16 rfl rfl hC (ap rfl (fun w' hw'=>by obtain ⟨_,S⟩:=(hCd _).1 hw'; exact (an rfl rfl))) ?_;refine aP (.bool J.2) 17 rfl rfl hC (ap rfl (fun w' hw'=>by obtain ⟨_,S⟩:=(hCd _).1 hw'; exact (an rfl rfl))) ?_;refine aO 19 rfl ?_;refine ak (S.top 1 rfl) rfl [i_ J.1.1,i_ J.1.2] rfl rfl dt (all_cons rfl (all_cons rfl rfl)) ?_;intro By S;replace S:Sat Ad By (Box Ab 68 [i_ J.1.1,i_ J.1.2] :: Frz Ar AV :: G0):=S;refine ah ?_;replace S:=S.t1;have hC:=(hCd _).2 ⟨_,S⟩;refine ⟨fun _=>hC,?_⟩;refine aO 20 rfl ?_;refine pa (.bool J.2) (ah ?_);refine ⟨fun _=>hC,?_⟩;refine bu (by kernel_rfl) ?_;exact ⟨rfl,Ab,Ao,Am,Ap,rfl,rfl,S⟩
  rintro ED Dx ⟨Ab,CC,BN,CD,CE,CF,S⟩;replace S:=S.unfrz A9;replace S:Sat Ad Dx (Own aR [u0] Aq :: Box Ab 68 [i_ J.1.1,i_ J.1.2] :: G0):=S;refine tn Ds (sg fun _ B7=>sR fun _ Dy=>pM (i_ a1) BN (pa (i_ a1) (en Dy (bg fun _ B8=>?_))));obtain ⟨Dz,hL,BO⟩:=ob F;refine aE (fun k e w=>∃ (An:List T3_),∃ (Au:Bool),∃ (Aj:Int),e 0=u0∧e 1=i_ a1∧e 5=i_ Aa∧e 6=pt Ab 0∧e 7=.bool Au∧e 8=i_ Aj∧Sat Ad w (Own aR [u0] An :: Box Ab 68 [i_ J.1.1,i_ J.1.2] :: G0)∧bT N k An a1 Aa J.1.1 J.1.2 Au Aj=some Dz) N ?_ ?_ ?_
  ·exact ⟨Aq,J.2,a1,CC,BN,CD,CE,CF,rfl,S,hL⟩
  ·rintro e w ⟨_,_,_,_,_,_,_,_,_,_,hz⟩; exact nn hz
  rintro k EE Av ⟨An,Au,Aj,Aw,AD,AE,Bc,Bd,AR,S,F⟩;refine gn fun _ Be=>sg fun _ Bz=>sR fun _ B9=>pM (i_ Aj) AR (pM u0 Aw (pM (i_ Aa) AE (oB F fun BA CG F=>?_)));refine aU (wA:=Av) rfl (S.rdAt (R:=aR) 0 rfl) rfl dt rfl CG dt ?_;intro EF D9 EG Ag Ak;obtain ⟨DA,rfl⟩:=aM Ag;refine pe DA (ab rfl (Ak 0 _ rfl)) (pe (i_ (BA.length:Int)) (ax rfl Ag) (pe (.bool (decide (Aj < (BA.length:Int)))) (aH rfl rfl) (pm (.bool (decide (Aj < (BA.length:Int)))) (oF F (fun AF F=>?_) fun AF F=>?_))))
  ·refine ei AF (pM (.bool Au) Bd (pe (.bool Au) (av rfl AF rfl) (en B9 (oF F (fun Bf F=>?_) fun Bf F=>?_))))
   ·refine ct Bf (sn Bz (sg fun _ Ca=>bg fun _ Cb=>sg fun _ DB=>?_));obtain ⟨A0,BP,S⟩:=S.frz;replace S:Sat Ad Av (Frz Av A0 :: Box Ab 68 [i_ J.1.1,i_ J.1.2] :: G0):=S;refine oB F fun EH CH F=>oB F fun Bg CI F=>oB F fun z9 BQ F=>?_;refine fX (fun e w=>∃ (Al:Nat),e 0=u0∧e 1=i_ a1∧e 5=i_ Aa∧e 6=pt Ab 0∧e 8=i_ Aj∧e 9=pt Al 0∧e 10=.bool z9.2∧Sat Ad w (Box Ab 68 [i_ J.1.1,i_ J.1.2] :: Frz Av A0 :: Box Al 68 [i_ z9.1.1,i_ z9.1.2] :: G0)) ?_ ?_
    ·obtain ⟨C,hCd⟩:∃ C:World → Prop,∀ w,C w ↔ ∃ G,Sat Ad w ([Box Ab 68 [i_ J.1.1,i_ J.1.2],Frz Av A0] ++ G):=⟨_,fun _=>Iff.rfl⟩;refine ck [0,1,2,3,4,5,6,7,8,9,10,11,12,13,14] C (by kernel_rfl) ?_;intro EI Bh;replace S:=S.ext Bh;have Ak:=ar Bh Ak;have Ag:=fW Ag Bh;replace S:=S.t1;have hC:=(hCd _).2 ⟨_,S⟩;refine aP (.agg #[i_ J.1.1,i_ J.1.2]) 0 rfl rfl hC (ap rfl (fun w' hw'=>by obtain ⟨_,S⟩:=(hCd _).1 hw'; exact (am (cs:=[i_ J.1.1,i_ J.1.2]) Bc rfl (au (S.boxAt 0 rfl))))) ?_;refine aP u0 1 rfl rfl hC (ap rfl (fun w' hw'=>by obtain ⟨_,S⟩:=(hCd _).1 hw'; exact (aq Aw))) ?_;refine aP (i_ a1) 2 rfl rfl hC (ap rfl (fun w' hw'=>by obtain ⟨_,S⟩:=(hCd _).1 hw'; exact (aq AD))) ?_;refine dk (by kernel_rfl) 3 rfl hC (by kernel_rfl) (by kernel_rfl) rfl BP rfl rfl CH dt ?_;intro EJ Ea EK EM BR AG A1 CJ;replace AG:=fun q hq=>(fun _ h=>h) q (AG q hq);replace A1:=(fun _ h=>h) _ A1;obtain ⟨DC,rfl⟩:=aM (Rep.own_rd _ BR);refine aP DC 4 rfl rfl hC (ap rfl (fun w' hw'=>by obtain ⟨_,S⟩:=(hCd _).1 hw'; exact (ab rfl ((S.frzCells 1 rfl A1 CJ) 0 _ rfl)))) ?_;refine aP (i_ Aj) 5 rfl rfl hC (ap rfl (fun w' hw'=>by obtain ⟨_,S⟩:=(hCd _).1 hw'; exact (aq AR))) ?_;refine dk (by kernel_rfl) 6 rfl hC (by kernel_rfl) (by kernel_rfl) rfl BR rfl rfl CI dt ?_;intro EN Eb EO EP CK AH A2 CL;replace AH:=fun q hq=>AG q (AH q hq);replace A2:=AG _ A2;obtain ⟨_,_,_,_,rfl,rfl,CM,CN⟩:=CK;have DW:=fun q hq=>AH q (List.mem_append_left _ hq);have DX:=fun q hq=>AH q (List.mem_append_right _ hq);obtain ⟨rfl,_⟩:=CM;obtain ⟨rfl,_⟩:=CN;refine aP (.agg #[i_ Bg.1,i_ Bg.2]) 7 rfl rfl hC (ap rfl (fun w' hw'=>by obtain ⟨_,S⟩:=(hCd _).1 hw'; exact (am (cs:=[i_ Bg.1,i_ Bg.2]) rfl rfl (S.frzCells 1 rfl A2 CL)))) ?_;refine fh 8 12 (by kernel_rfl) rfl rfl ?_ ?_
     ·refine ec0 nc (gI BQ) (ca (ag rfl (ag rfl rfl))) S fun DD AI S=>?_;have Ak:=ar AI Ak;have Ag:=fW Ag AI;refine ah ?_;have hC:=(hCd _).2 ⟨_,S⟩;refine ⟨fun _=>hC,?_⟩;refine aP (.tuple #[.agg #[i_ z9.1.1,i_ z9.1.2],.bool z9.2]) 9 rfl rfl hC (ap rfl (fun w' hw'=>by obtain ⟨_,S⟩:=(hCd _).1 hw'; exact (aq rfl))) ?_;refine aP (.agg #[i_ z9.1.1,i_ z9.1.2]) 10 rfl rfl hC (ap rfl (fun w' hw'=>by obtain ⟨_,S⟩:=(hCd _).1 hw'; exact (an rfl rfl))) ?_;refine aP (.bool z9.2) 11 rfl rfl hC (ap rfl (fun w' hw'=>by obtain ⟨_,S⟩:=(hCd _).1 hw'; exact (an rfl rfl))) ?_;refine aO 12 rfl ?_;refine aC S dt ?_;intro DE Al S AJ;have Ak:=ar AJ Ak;have Ag:=fW Ag AJ;refine ah ?_;replace S:=S.t2.t2;have hC:=(hCd _).2 ⟨_,S⟩;refine ⟨fun _=>hC,?_⟩;refine aO 13 rfl ?_;refine ak (S.top 2 rfl) rfl [i_ z9.1.1,i_ z9.1.2] rfl rfl dt (all_cons rfl (all_cons rfl rfl)) ?_;intro BB S;replace S:Sat Ad BB (Box Al 68 [i_ z9.1.1,i_ z9.1.2] :: Box Ab 68 [i_ J.1.1,i_ J.1.2] :: Frz Av A0 :: G0):=S;refine ah ?_;replace S:=S.t2.t2;have hC:=(hCd _).2 ⟨_,S⟩;refine ⟨fun _=>hC,?_⟩;refine aO 14 rfl ?_;refine pa (.bool z9.2) (ah ?_);refine ⟨fun _=>hC,?_⟩;refine bu (by kernel_rfl) ?_;exact ⟨rfl,Al,Aw,AD,AE,Bc,AR,rfl,rfl,S⟩
     refine aC S dt ?_;intro DE Al S AJ;have Ak:=ar AJ Ak;have Ag:=fW Ag AJ;refine ah ?_;replace S:=S.t2.t2;have hC:=(hCd _).2 ⟨_,S⟩;refine ⟨fun _=>hC,?_⟩;refine aO 8 rfl ?_;refine ec0 nc (gI BQ) (ca (ag rfl (ag rfl rfl))) S fun DD AI S=>?_;have Ak:=ar AI Ak;have Ag:=fW Ag AI;refine ah ?_;have hC:=(hCd _).2 ⟨_,S⟩;refine ⟨fun _=>hC,?_⟩;refine aO 9 rfl ?_;refine pm (.tuple #[.agg #[i_ z9.1.1,i_ z9.1.2],.bool z9.2]) (ah ?_);refine ⟨fun _=>hC,?_⟩;refine aP (.agg #[i_ z9.1.1,i_ z9.1.2]) 10 rfl rfl hC (ap rfl (fun w' hw'=>by obtain ⟨_,S⟩:=(hCd _).1 hw'; exact (an rfl rfl))) ?_;refine aP (.bool z9.2) 11 rfl rfl hC (ap rfl (fun w' hw'=>by obtain ⟨_,S⟩:=(hCd _).1 hw'; exact (an rfl rfl))) ?_;refine aO 13 rfl ?_;refine ak (S.top 2 rfl) rfl [i_ z9.1.1,i_ z9.1.2] rfl rfl dt (all_cons rfl (all_cons rfl rfl)) ?_;intro BB S;replace S:Sat Ad BB (Box Al 68 [i_ z9.1.1,i_ z9.1.2] :: Box Ab 68 [i_ J.1.1,i_ J.1.2] :: Frz Av A0 :: G0):=S;refine ah ?_;replace S:=S.t2.t2;have hC:=(hCd _).2 ⟨_,S⟩;refine ⟨fun _=>hC,?_⟩;refine aO 14 rfl ?_;refine pa (.bool z9.2) (ah ?_);refine ⟨fun _=>hC,?_⟩;refine bu (by kernel_rfl) ?_;exact ⟨rfl,Al,Aw,AD,AE,Bc,AR,rfl,rfl,S⟩
    rintro EQ Ay ⟨Al,Bi,BS,Bj,BT,Bk,CO,BU,S⟩;replace S:=S.t1;replace S:=S.unfrz BP;replace S:Sat Ad Ay (Own aR [u0] An :: Box Ab 68 [i_ J.1.1,i_ J.1.2] :: Box Al 68 [i_ z9.1.1,i_ z9.1.2] :: G0):=S;refine tn DB (sg fun _ DF=>?_);obtain ⟨A3,BV,S⟩:=S.frz;replace S:Sat Ad Ay (Frz Ay A3 :: Box Ab 68 [i_ J.1.1,i_ J.1.2] :: Box Al 68 [i_ z9.1.1,i_ z9.1.2] :: G0):=S;refine oB F fun ER CP F=>oB F fun Bl CQ F=>oB F fun U BW F=>?_;refine fX (fun e w=>∃ (Ae:Nat),e 0=u0∧e 1=i_ a1∧e 5=i_ Aa∧e 6=pt Ab 0∧e 8=i_ Aj∧e 10=.bool z9.2∧e 11=pt Ae 0∧e 12=.bool U.2∧Sat Ad w (Box Ab 68 [i_ J.1.1,i_ J.1.2] :: Frz Ay A3 :: Box Ae 68 [i_ U.1.1,i_ U.1.2] :: G0)) ?_ ?_
    ·obtain ⟨C,hCd⟩:∃ C:World → Prop,∀ w,C w ↔ ∃ G,Sat Ad w ([Box Al 68 [i_ z9.1.1,i_ z9.1.2],Frz Ay A3] ++ G):=⟨_,fun _=>Iff.rfl⟩;refine ck [0,1,2,3,4,5,6,7,8,9,10,11,12,13,14] C (by kernel_rfl) ?_;intro ES CR;replace S:=S.ext CR;replace S:=S.t2;have hC:=(hCd _).2 ⟨_,S⟩;refine aP u0 0 rfl rfl hC (ap rfl (fun w' hw'=>by obtain ⟨_,S⟩:=(hCd _).1 hw'; exact (aq Bi))) ?_;refine aP (i_ Aa) 1 rfl rfl hC (ap rfl (fun w' hw'=>by obtain ⟨_,S⟩:=(hCd _).1 hw'; exact (aq Bj))) ?_;refine dk (by kernel_rfl) 2 rfl hC (by kernel_rfl) (by kernel_rfl) rfl BV rfl rfl CP dt ?_;intro ET Ec EU EV BX AK A4 CS;replace AK:=fun q hq=>(fun _ h=>h) q (AK q hq);replace A4:=(fun _ h=>h) _ A4;obtain ⟨DG,rfl⟩:=aM (Rep.own_rd _ BX);refine aP DG 3 rfl rfl hC (ap rfl (fun w' hw'=>by obtain ⟨_,S⟩:=(hCd _).1 hw'; exact (ab rfl ((S.frzCells 1 rfl A4 CS) 0 _ rfl)))) ?_;refine aP (i_ Aj) 4 rfl rfl hC (ap rfl (fun w' hw'=>by obtain ⟨_,S⟩:=(hCd _).1 hw'; exact (aq Bk))) ?_;refine dk (by kernel_rfl) 5 rfl hC (by kernel_rfl) (by kernel_rfl) rfl BX rfl rfl CQ dt ?_;intro EW Ed EX EY CT AM A5 CU;replace AM:=fun q hq=>AK q (AM q hq);replace A5:=AK _ A5;obtain ⟨_,_,_,_,rfl,rfl,CV,CX⟩:=CT;have DY:=fun q hq=>AM q (List.mem_append_left _ hq);have DZ:=fun q hq=>AM q (List.mem_append_right _ hq);obtain ⟨rfl,_⟩:=CV;obtain ⟨rfl,_⟩:=CX;refine aP (.agg #[i_ Bl.1,i_ Bl.2]) 6 rfl rfl hC (ap rfl (fun w' hw'=>by obtain ⟨_,S⟩:=(hCd _).1 hw'; exact (am (cs:=[i_ Bl.1,i_ Bl.2]) rfl rfl (S.frzCells 1 rfl A5 CU)))) ?_;refine aP (.agg #[i_ z9.1.1,i_ z9.1.2]) 7 rfl rfl hC (ap rfl (fun w' hw'=>by obtain ⟨_,S⟩:=(hCd _).1 hw'; exact (am (cs:=[i_ z9.1.1,i_ z9.1.2]) CO rfl (au (S.boxAt 0 rfl))))) ?_;refine fh 8 12 (by kernel_rfl) rfl rfl ?_ ?_
     ·refine ec0 se (jQ BW) (ca (ag rfl (ag rfl rfl))) S fun DH CY S=>?_;refine ah ?_;have hC:=(hCd _).2 ⟨_,S⟩;refine ⟨fun _=>hC,?_⟩;refine aP (.tuple #[.agg #[i_ U.1.1,i_ U.1.2],.bool U.2]) 9 rfl rfl hC (ap rfl (fun w' hw'=>by obtain ⟨_,S⟩:=(hCd _).1 hw'; exact (aq rfl))) ?_;refine aP (.agg #[i_ U.1.1,i_ U.1.2]) 10 rfl rfl hC (ap rfl (fun w' hw'=>by obtain ⟨_,S⟩:=(hCd _).1 hw'; exact (an rfl rfl))) ?_;refine aP (.bool U.2) 11 rfl rfl hC (ap rfl (fun w' hw'=>by obtain ⟨_,S⟩:=(hCd _).1 hw'; exact (an rfl rfl))) ?_;refine aO 12 rfl ?_;refine aC S dt ?_;intro DI Ae S CZ;refine ah ?_;replace S:=S.t2.t2;have hC:=(hCd _).2 ⟨_,S⟩;refine ⟨fun _=>hC,?_⟩;refine aO 13 rfl ?_;refine ak (S.top 2 rfl) rfl [i_ U.1.1,i_ U.1.2] rfl rfl dt (all_cons rfl (all_cons rfl rfl)) ?_;intro BC S;replace S:Sat Ad BC (Box Ae 68 [i_ U.1.1,i_ U.1.2] :: Box Al 68 [i_ z9.1.1,i_ z9.1.2] :: Frz Ay A3 :: Box Ab 68 [i_ J.1.1,i_ J.1.2] :: G0):=S;refine ah ?_;replace S:=S.t2.t2;have hC:=(hCd _).2 ⟨_,S⟩;refine ⟨fun _=>hC,?_⟩;refine aO 14 rfl ?_;refine pa (.bool U.2) (ah ?_);refine ⟨fun _=>hC,?_⟩;refine bu (by kernel_rfl) ?_;replace S:=S.t2.t2.t3;replace S:=S.r3;exact ⟨rfl,Ae,Bi,BS,Bj,BT,Bk,BU,rfl,rfl,S⟩
     refine aC S dt ?_;intro DI Ae S CZ;refine ah ?_;replace S:=S.t2.t2;have hC:=(hCd _).2 ⟨_,S⟩;refine ⟨fun _=>hC,?_⟩;refine aO 8 rfl ?_;refine ec0 se (jQ BW) (ca (ag rfl (ag rfl rfl))) S fun DH CY S=>?_;refine ah ?_;have hC:=(hCd _).2 ⟨_,S⟩;refine ⟨fun _=>hC,?_⟩;refine aO 9 rfl ?_;refine pm (.tuple #[.agg #[i_ U.1.1,i_ U.1.2],.bool U.2]) (ah ?_);refine ⟨fun _=>hC,?_⟩;refine aP (.agg #[i_ U.1.1,i_ U.1.2]) 10 rfl rfl hC (ap rfl (fun w' hw'=>by obtain ⟨_,S⟩:=(hCd _).1 hw'; exact (an rfl rfl))) ?_;refine aP (.bool U.2) 11 rfl rfl hC (ap rfl (fun w' hw'=>by obtain ⟨_,S⟩:=(hCd _).1 hw'; exact (an rfl rfl))) ?_;refine aO 13 rfl ?_;refine ak (S.top 2 rfl) rfl [i_ U.1.1,i_ U.1.2] rfl rfl dt (all_cons rfl (all_cons rfl rfl)) ?_;intro BC S;replace S:Sat Ad BC (Box Ae 68 [i_ U.1.1,i_ U.1.2] :: Box Al 68 [i_ z9.1.1,i_ z9.1.2] :: Frz Ay A3 :: Box Ab 68 [i_ J.1.1,i_ J.1.2] :: G0):=S;refine ah ?_;replace S:=S.t2.t2;have hC:=(hCd _).2 ⟨_,S⟩;refine ⟨fun _=>hC,?_⟩;refine aO 14 rfl ?_;refine pa (.bool U.2) (ah ?_);refine ⟨fun _=>hC,?_⟩;refine bu (by kernel_rfl) ?_;replace S:=S.t2.t2.t3;replace S:=S.r3;exact ⟨rfl,Ae,Bi,BS,Bj,BT,Bk,BU,rfl,rfl,S⟩
    rintro EZ BD ⟨Ae,AS,BY,AT,BZ,AU,C0,B0,C1,S⟩;replace S:=S.t1;replace S:=S.unfrz BV;replace S:Sat Ad BD (Own aR [u0] An :: Box Ab 68 [i_ J.1.1,i_ J.1.2] :: Box Ae 68 [i_ U.1.1,i_ U.1.2] :: G0):=S;refine tn DF (sR fun _ Cc=>pM (.bool z9.2) C0 (pm (.bool z9.2) (oF F (fun AN F=>?_) fun AN F=>?_)))
    ·refine ei AN (pM (.bool U.2) C1 (pe (.bool U.2) (av rfl AN rfl) (pa (.bool U.2) (en Cc (oB F fun DJ B1 F=>?_)))));obtain ⟨BE,D1,E0,C2,Bm,S⟩:=S.takeOutC (m:=1) B1 rfl;obtain ⟨Bn,rfl⟩:=aM Bm;replace S:Sat Ad BD (Own R6_ [Bn] DJ :: l6 R6_ 27 u0 An (Aa:Int).toNat [Bn] BE 1 :: Box Ab 68 [i_ J.1.1,i_ J.1.2] :: Box Ae 68 [i_ U.1.1,i_ U.1.2] :: G0):=S;obtain ⟨C,hCd⟩:∃ C:World → Prop,∀ w,C w ↔ ∃ G,Sat Ad w ([Box Ae 68 [i_ U.1.1,i_ U.1.2],l6 R6_ 27 u0 An (Aa:Int).toNat [Bn] BE 1] ++ G):=⟨_,fun _=>Iff.rfl⟩;refine ck [0,1,2,3,4,5,6] C (by kernel_rfl) ?_;intro E2 B2;replace S:=S.ext B2;have Bm:=fW Bm B2;replace S:=S.t1.t3;have hC:=(hCd _).2 ⟨_,S⟩;refine aP u0 0 rfl rfl hC (ap rfl (fun w' hw'=>by obtain ⟨_,S⟩:=(hCd _).1 hw'; exact (aq AS))) ?_;refine aP (i_ Aa) 1 rfl rfl hC (ap rfl (fun w' hw'=>by obtain ⟨_,S⟩:=(hCd _).1 hw'; exact (aq AT))) ?_;refine aP (pt BE ((Aa:Int).toNat * 1)) 2 rfl rfl hC (ap rfl (fun w' hw'=>by obtain ⟨_,S⟩:=(hCd _).1 hw'; exact (jy (v:=u0) rfl C2 rfl B1))) ?_;refine aP Bn 3 rfl rfl hC (ap rfl (fun w' hw'=>by obtain ⟨_,S⟩:=(hCd _).1 hw'; exact (ab rfl ((S.holeCells 1 rfl) 0 _ rfl)))) ?_;refine aP (i_ Aj) 4 rfl rfl hC (ap rfl (fun w' hw'=>by obtain ⟨_,S⟩:=(hCd _).1 hw'; exact (aq AU))) ?_;refine aO 5 rfl ?_;refine pe (.agg #[i_ U.1.1,i_ U.1.2]) (am (cs:=[i_ U.1.1,i_ U.1.2]) B0 rfl (au (S.boxAt 0 rfl))) (ah ?_);refine ⟨fun _=>hC,?_⟩;refine aO 6 rfl ?_;refine oB F fun E3 C3 F=>?_;replace S:=S.t2;refine dO S rfl rfl dt rfl C3 dt ?_;intro E4 Ee E5 C4 C5 Ef;obtain ⟨_,_,rfl,C6,C7⟩:=C5;obtain rfl:=C6;obtain rfl:=C7;refine ah ?_;refine ⟨fun _=>hC,?_⟩;refine aO 7 rfl ?_;refine oB F fun E6 C8 F=>?_;replace S:=S.int U.1.2;replace S:=S.int U.1.1;replace S:=S.pair;refine fC rfl C4 S C8 rfl rfl ?_;intro DK S;replace S:=S.t2;replace S:=S.t1;refine oB F fun Cd C9 F=>?_;replace S:=S.putBackC C9;replace S:Sat Ad DK (Own aR [u0] Cd :: Box Ae 68 [i_ U.1.1,i_ U.1.2] :: Box Ab 68 [i_ J.1.1,i_ J.1.2] :: G0):=S;refine ah ?_;refine ⟨fun h=>(nomatch (show false=true from h)),?_⟩;refine bu (by kernel_rfl) ?_;refine bn Cb (tn Ca ?_);replace S:=S.r1;refine ac (pM (i_ Aj) AU (oB F fun BF Da F=>pe (i_ BF) (aD rfl rfl Da) (pa (i_ BF) (en Be ?_))));exact ⟨Cd,U.2,BF,AS,BY,AT,BZ,rfl,rfl,S,F⟩
    refine eo AN (pe (.bool false) (az rfl AN rfl) (pa (.bool false) (en Cc (oB F fun DL B3 F=>?_))));obtain ⟨BG,D2,E7,Db,Bo,S⟩:=S.takeOutC (m:=1) B3 rfl;obtain ⟨Bp,rfl⟩:=aM Bo;replace S:Sat Ad BD (Own R6_ [Bp] DL :: l6 R6_ 27 u0 An (Aa:Int).toNat [Bp] BG 1 :: Box Ab 68 [i_ J.1.1,i_ J.1.2] :: Box Ae 68 [i_ U.1.1,i_ U.1.2] :: G0):=S;obtain ⟨C,hCd⟩:∃ C:World → Prop,∀ w,C w ↔ ∃ G,Sat Ad w ([Box Ae 68 [i_ U.1.1,i_ U.1.2],l6 R6_ 27 u0 An (Aa:Int).toNat [Bp] BG 1] ++ G):=⟨_,fun _=>Iff.rfl⟩;refine ck [0,1,2,3,4,5,6] C (by kernel_rfl) ?_;intro E8 B4;replace S:=S.ext B4;have Bo:=fW Bo B4;replace S:=S.t1.t3;have hC:=(hCd _).2 ⟨_,S⟩;refine aP u0 0 rfl rfl hC (ap rfl (fun w' hw'=>by obtain ⟨_,S⟩:=(hCd _).1 hw'; exact (aq AS))) ?_;refine aP (i_ Aa) 1 rfl rfl hC (ap rfl (fun w' hw'=>by obtain ⟨_,S⟩:=(hCd _).1 hw'; exact (aq AT))) ?_;refine aP (pt BG ((Aa:Int).toNat * 1)) 2 rfl rfl hC (ap rfl (fun w' hw'=>by obtain ⟨_,S⟩:=(hCd _).1 hw'; exact (jy (v:=u0) rfl Db rfl B3))) ?_;refine aP Bp 3 rfl rfl hC (ap rfl (fun w' hw'=>by obtain ⟨_,S⟩:=(hCd _).1 hw'; exact (ab rfl ((S.holeCells 1 rfl) 0 _ rfl)))) ?_;refine aP (i_ Aj) 4 rfl rfl hC (ap rfl (fun w' hw'=>by obtain ⟨_,S⟩:=(hCd _).1 hw'; exact (aq AU))) ?_;refine aO 5 rfl ?_;refine pe (.agg #[i_ U.1.1,i_ U.1.2]) (am (cs:=[i_ U.1.1,i_ U.1.2]) B0 rfl (au (S.boxAt 0 rfl))) (ah ?_);refine ⟨fun _=>hC,?_⟩;refine aO 6 rfl ?_;refine oB F fun E9 Dc F=>?_;replace S:=S.t2;refine dO S rfl rfl dt rfl Dc dt ?_;intro Fa Eg Fb Dd De Eh;obtain ⟨_,_,rfl,Df,Dg⟩:=De;obtain rfl:=Df;obtain rfl:=Dg;refine ah ?_;refine ⟨fun _=>hC,?_⟩;refine aO 7 rfl ?_;refine oB F fun Fc Dh F=>?_;replace S:=S.int U.1.2;replace S:=S.int U.1.1;replace S:=S.pair;refine fC rfl Dd S Dh rfl rfl ?_;intro DM S;replace S:=S.t2;replace S:=S.t1;refine oB F fun Ce Di F=>?_;replace S:=S.putBackC Di;replace S:Sat Ad DM (Own aR [u0] Ce :: Box Ae 68 [i_ U.1.1,i_ U.1.2] :: Box Ab 68 [i_ J.1.1,i_ J.1.2] :: G0):=S;refine ah ?_;refine ⟨fun h=>(nomatch (show false=true from h)),?_⟩;refine bu (by kernel_rfl) ?_;refine bn Cb (tn Ca ?_);replace S:=S.r1;refine ac (pM (i_ Aj) AU (oB F fun BH Dj F=>pe (i_ BH) (aD rfl rfl Dj) (pa (i_ BH) (en Be ?_))));exact ⟨Ce,false,BH,AS,BY,AT,BZ,rfl,rfl,S,F⟩
   refine cf Bf (aG (tx Bz (tx Be ?_)));replace F:=exB F BO;refine bS B8 (tn B7 (sg fun _ DN=>?_));replace S:=S.r1;refine ac (pM (.bool Au) Bd (pe (.bool (!Au)) (aK rfl) (en DN (oF F (fun Bq F=>?_) fun Bq F=>?_))))
   ·refine cf (aj Bq) (bl (bn AP (tn AO (ac (pM (i_ Aa) AE (oB F fun BI Dk F=>pe (i_ BI) (aD rfl rfl Dk) (pa (i_ BI) (en Ax ?_))))))));exact ⟨An,BI,Aw,AD,rfl,S,F⟩
   refine ct (ai Bq) (sR fun _ DO=>pa (.bool false) (en DO (ae (br AP (tr AO (tr Ax (br Bt (tr Bs ?_))))))));replace F:=exL F A6;refine aF rfl rfl ?_;have hr:=oI F;exact ⟨(cR hr fun r=>.bool r.1 :),Eq.mp (congrArg (fun (r:Bool × T6_)=>Sat Ad Av (Own aR [u0] r.2 :: G0)) hr :) S⟩
  refine eo AF (pe (.bool false) (az rfl AF rfl) (en B9 (cf rfl (aG (tx Bz (tx Be ?_))))));replace F:=exB F BO;refine bS B8 (tn B7 (sg fun _ DP=>?_));replace S:=S.r1;refine ac (pM (.bool Au) Bd (pe (.bool (!Au)) (aK rfl) (en DP (oF F (fun Br F=>?_) fun Br F=>?_))))
  ·refine cf (aj Br) (bl (bn AP (tn AO (ac (pM (i_ Aa) AE (oB F fun BJ Dl F=>pe (i_ BJ) (aD rfl rfl Dl) (pa (i_ BJ) (en Ax ?_))))))));exact ⟨An,BJ,Aw,AD,rfl,S,F⟩
  refine ct (ai Br) (sR fun _ DQ=>pa (.bool false) (en DQ (ae (br AP (tr AO (tr Ax (br Bt (tr Bs ?_))))))));replace F:=exL F A6;refine aF rfl rfl ?_;have hr:=oI F;exact ⟨(cR hr fun r=>.bool r.1 :),Eq.mp (congrArg (fun (r:Bool × T6_)=>Sat Ad Av (Own aR [u0] r.2 :: G0)) hr :) S⟩
 refine cf A7 (aG (tx B5 (tx Ax ?_)));replace F:=exA F A6;refine bS Bt (tn Bs (sR fun _ DR=>pa (.bool true) (en DR (ae (aF rfl rfl ?_)))));have hr:=oI F;exact ⟨(cR hr fun r=>.bool r.1 :),Eq.mp (congrArg (fun (r:Bool × T6_)=>Sat Ad Ar (Own aR [u0] r.2 :: G0)) hr :) S⟩
theorem ky {w0:World} {u0:Value} {a0:List T3_} {u1:Value} {a1:List T1_} (ha0:aR.rd w0 [u0] a0) (ha1:R6_.rd w0 [u1] a1) {N:Nat} {r:T3_ × Bool} (F:bo N a0 a1=some r): Calls Tryz.prog 91 #[u0,u1] w0 fun e w'=>∃ (q0:Value),e=.returned (.tuple #[q0,.bool r.2])∧Sat w0 w' [Own R6_ [q0] r.1] := by
 unfold bo at F;refine aJ Tryz.func91 rfl rfl dt ?_;have S:=Sat.start w0;refine sR fun _ DY=>pa n_ (pa (.bool false) (en DY (sR fun _ DZ=>pm u1 (pe (i_ (a1.length:Int)) (ax rfl ha1) (pa (i_ (a1.length:Int)) (en DZ (sg fun _ BE=>sR fun _ Cf=>pm (i_ (a1.length:Int)) (pe (.bool (decide (6 < (a1.length:Int)))) (eF rfl rfl) (pm (.bool (decide (6 < (a1.length:Int)))) (oF F (fun Ac F=>?_) fun Ac F=>?_))))))))))
 ·refine eo Ac (eo Ac (eo Ac (eo Ac (eo Ac (pe (.bool true) (av rfl Ac rfl) (en Cf (ct rfl (sR fun _ D1=>?_))))))));refine aW R2_ S dt ?_;intro FF AZ S Fa;refine pa AZ (pa (.bool false) (en D1 (ae (tr BE (cw rfl rfl rfl ?_)))));have hr:=oI F;exact ⟨AZ,cR hr fun r=>.tuple #[AZ,.bool r.2],sP hr (fun r=>[Own R6_ [AZ] r.1]) (S.keep 1)⟩
 refine ei Ac (pm u0 (ei Ac (pm (i_ (a1.length:Int)) (ei Ac (pm (i_ (a1.length:Int)) (ei Ac (oB F fun Cg CP F=>?_)))))));refine ec0 oq (hY (S.up ha0) CP) (ca (ag rfl (ag rfl (ag rfl rfl)))) S fun FG Fb S=>?_;refine ei Ac (pe (.bool (!Cg)) (aK rfl) (pe (.bool (!Cg)) (az rfl Ac rfl) (en Cf (oF F (fun A0 F=>?_) fun A0 F=>?_))))
 ·refine cf (aj A0) (sn BE (sR fun _ D2=>?_));refine aW R6_ S dt ?_;intro FH Ch S Fc;refine pa Ch (en D2 (sg fun _ Ci=>sR fun _ D4=>pa (i_ 0) (en D4 (bg fun _ Cj=>?_))));obtain ⟨D5,hL,BS⟩:=ob F;refine aE (fun k e w=>∃ (AO:Value),∃ (A1:List T3_),∃ (Aj:Int),e 0=u0∧e 1=u1∧e 6=i_ (a1.length:Int)∧e 7=AO∧e 8=i_ Aj∧Sat w0 w [Own aR [AO] A1]∧bt N k a0 a1 (a1.length:Int) A1 Aj=some D5) N ?_ ?_ ?_
  ·exact ⟨Ch,[],0,rfl,rfl,rfl,rfl,rfl,S,hL⟩
  ·rintro e w ⟨_,_,_,_,_,_,_,_,_,hz⟩; exact nn hz
  rintro k FI FJ ⟨AO,A1,Aj,AI,Av,Aw,BT,Ap,S,F⟩;refine gn fun _ BF=>sg fun _ Ck=>sR fun _ D6=>pM (i_ Aj) Ap (pM (i_ (a1.length:Int)) Aw (pe (.bool (decide (Aj < (a1.length:Int)))) (aH rfl rfl) (en D6 (oF F (fun A2 F=>?_) fun A2 F=>?_))))
  ·refine ct A2 (sn Ck (sg fun _ Cl=>bg fun _ Cm=>sg fun _ Co=>sR fun _ D7=>pM u1 Av (pM (i_ Aj) Ap (oB F fun A3 CQ F=>?_))));refine aU (wA:=w0) rfl ha1 rfl dt rfl CQ dt ?_;intro FK Fd FL CR CS;obtain ⟨_,_,rfl,CT,CU⟩:=CR;obtain rfl:=CT;obtain rfl:=CU;refine pe (.agg #[i_ A3.1,i_ A3.2]) (am (cs:=[i_ A3.1,i_ A3.2]) rfl rfl (ar S.below CS)) (oB F fun D8 CV F=>?_);refine ec0 fM (bk CV) (ca (ag rfl rfl)) S fun FM Fe S=>?_;refine pe (.bool (!D8)) (aK rfl) (en D7 (oF F (fun A4 F=>?_) fun A4 F=>?_))
   ·refine cf (aj A4) (sn Co (oB F fun FN CX F=>oB F fun Ad CY F=>oB F fun FO A5 F=>oB F fun FP A6 F=>oB F fun Cp A7 F=>?_));refine fX (fun e w=>∃ (Ag:Value),e 0=u0∧e 1=u1∧e 6=i_ (a1.length:Int)∧e 7=Ag∧e 8=i_ Aj∧Sat w0 w [Own aR [Ag] Cp]) ?_ ?_
    ·obtain ⟨C,hCd⟩:∃ C:World → Prop,∀ w,C w ↔ ∃ G,Sat w0 w ([] ++ G):=⟨_,fun _=>Iff.rfl⟩;refine ck [0,1,2,3,4,5,6,7,8,9,10,11,12,13,14,15] C (by kernel_rfl) ?_;intro FQ CZ;replace S:=S.ext CZ;have hC:=(hCd _).2 ⟨_,S⟩;refine aP AO 0 rfl rfl hC (ap rfl (fun w' hw'=>by obtain ⟨_,S⟩:=(hCd _).1 hw'; exact (aq BT))) ?_;refine aP u0 2 rfl rfl hC (ap rfl (fun w' hw'=>by obtain ⟨_,S⟩:=(hCd _).1 hw'; exact (aq AI))) ?_;refine aP (i_ Aj) 3 rfl rfl hC (ap rfl (fun w' hw'=>by obtain ⟨_,S⟩:=(hCd _).1 hw'; exact (aq Ap))) ?_;refine fH (wA:=w0) (by kernel_rfl) 4 rfl hC (by kernel_rfl) (by kernel_rfl) rfl ha0 rfl dt rfl CX dt ?_;intro FR Ff FS AJ C0;obtain ⟨D9,rfl⟩:=aM AJ;refine aP D9 5 rfl rfl hC (ap rfl (fun w' hw'=>by obtain ⟨_,S⟩:=(hCd _).1 hw'; exact (ab rfl ((ar S.below C0) 0 _ rfl)))) ?_;refine aP u1 7 rfl rfl hC (ap rfl (fun w' hw'=>by obtain ⟨_,S⟩:=(hCd _).1 hw'; exact (aq Av))) ?_;refine aP (i_ Aj) 8 rfl rfl hC (ap rfl (fun w' hw'=>by obtain ⟨_,S⟩:=(hCd _).1 hw'; exact (aq Ap))) ?_;refine fH (wA:=w0) (by kernel_rfl) 9 rfl hC (by kernel_rfl) (by kernel_rfl) rfl ha1 rfl dt rfl CY dt ?_;intro FT Fg FU C1 C2;obtain ⟨_,_,rfl,C3,C4⟩:=C1;obtain rfl:=C3;obtain rfl:=C4;refine aP (.agg #[i_ Ad.1,i_ Ad.2]) 10 rfl rfl hC (ap rfl (fun w' hw'=>by obtain ⟨_,S⟩:=(hCd _).1 hw'; exact (am (cs:=[i_ Ad.1,i_ Ad.2]) rfl rfl (ar S.below C2)))) ?_;refine fh 1 11 (by kernel_rfl) rfl rfl ?_ ?_
     ·refine aW R2_ S dt ?_;intro Ea Eb S C5;refine ah ?_;have hC:=(hCd _).2 ⟨_,S⟩;refine ⟨fun _=>hC,?_⟩;refine fh 6 11 (by kernel_rfl) rfl rfl ?_ ?_
      ·obtain ⟨BU,Cq,BV,Ax,Ay,Am,Az⟩:=nj (S.up AJ);replace S:=S.freeL (R:=R2_) Az;refine aV rfl dt rfl dt S rfl (rfl.trans Ax) rfl Ay Am A5 dt ?_;intro Cr Cs S;refine ah ?_;have hC:=(hCd _).2 ⟨_,S⟩;refine ⟨fun _=>hC,?_⟩;refine aO 11 rfl ?_;refine aI [i_ Ad.1,i_ Ad.2] rfl (by rfl) dt rfl dt S dt ?_;intro Ct Cu S BW;refine ah ?_;have hC:=(hCd _).2 ⟨_,S⟩;refine ⟨fun _=>hC,?_⟩;refine aO 12 rfl ?_;have An:=S.boxRow 0 rfl;replace S:=S.t1;replace S:=S.int Ad.2;replace S:=S.int Ad.1;replace S:=S.pair;replace S:=S.one;refine aV rfl dt rfl dt S rfl rfl rfl (by simp) An A6 dt ?_;intro Cv AP S;refine ah ?_;have hC:=(hCd _).2 ⟨_,S⟩;refine ⟨fun _=>hC,?_⟩;refine aO 13 rfl ?_;refine aI [AP] (bf rfl (oc (S.rdAt (R:=R6_) 0 rfl))) (by rfl) dt rfl dt S dt ?_;intro Cw Cx S BX;refine ah ?_;have hC:=(hCd _).2 ⟨_,S⟩;refine ⟨fun _=>hC,?_⟩;refine aO 14 rfl ?_;have Ao:=S.boxRow 0 rfl;replace S:=S.t3;replace S:=S.t2;replace S:=S.one;refine aV rfl dt rfl dt S rfl rfl rfl (by simp) Ao A7 dt ?_;intro Cy Ag S;refine ah ?_;have hC:=(hCd _).2 ⟨_,S⟩;refine ⟨fun _=>hC,?_⟩;refine aO 15 rfl ?_;refine pa Ag (ah ?_);refine ⟨fun _=>hC,?_⟩;refine bu (by kernel_rfl) ?_;replace S:=S.r2.r1;exact ⟨rfl,Ag,AI,Av,Aw,rfl,Ap,S⟩
      refine aI [i_ Ad.1,i_ Ad.2] rfl (by rfl) dt rfl dt S dt ?_;intro Ct Cu S BW;refine ah ?_;have hC:=(hCd _).2 ⟨_,S⟩;refine ⟨fun _=>hC,?_⟩;refine aO 6 rfl ?_;obtain ⟨BU,Cq,BV,Ax,Ay,Am,Az⟩:=nj (S.up AJ);replace S:=S.t1;replace S:=S.freeL (R:=R2_) Az;refine aV rfl dt rfl dt S rfl (rfl.trans Ax) rfl Ay Am A5 dt ?_;intro Cr Cs S;refine ah ?_;have hC:=(hCd _).2 ⟨_,S⟩;refine ⟨fun _=>hC,?_⟩;refine aO 12 rfl ?_;have An:=S.boxRow 1 rfl;replace S:=S.int Ad.2;replace S:=S.int Ad.1;replace S:=S.pair;replace S:=S.one;refine aV rfl dt rfl dt S rfl rfl rfl (by simp) An A6 dt ?_;intro Cv AP S;refine ah ?_;have hC:=(hCd _).2 ⟨_,S⟩;refine ⟨fun _=>hC,?_⟩;refine aO 13 rfl ?_;refine aI [AP] (bf rfl (oc (S.rdAt (R:=R6_) 0 rfl))) (by rfl) dt rfl dt S dt ?_;intro Cw Cx S BX;refine ah ?_;have hC:=(hCd _).2 ⟨_,S⟩;refine ⟨fun _=>hC,?_⟩;refine aO 14 rfl ?_;have Ao:=S.boxRow 0 rfl;replace S:=S.t3;replace S:=S.t2;replace S:=S.one;refine aV rfl dt rfl dt S rfl rfl rfl (by simp) Ao A7 dt ?_;intro Cy Ag S;refine ah ?_;have hC:=(hCd _).2 ⟨_,S⟩;refine ⟨fun _=>hC,?_⟩;refine aO 15 rfl ?_;refine pa Ag (ah ?_);refine ⟨fun _=>hC,?_⟩;refine bu (by kernel_rfl) ?_;replace S:=S.r2.r1;exact ⟨rfl,Ag,AI,Av,Aw,rfl,Ap,S⟩
     refine aI [i_ Ad.1,i_ Ad.2] rfl (by rfl) dt rfl dt S dt ?_;intro Ct Cu S BW;refine ah ?_;have hC:=(hCd _).2 ⟨_,S⟩;refine ⟨fun _=>hC,?_⟩;refine aO 1 rfl ?_;refine aW R2_ S dt ?_;intro Ea Eb S C5;refine ah ?_;have hC:=(hCd _).2 ⟨_,S⟩;refine ⟨fun _=>hC,?_⟩;refine aO 6 rfl ?_;obtain ⟨BU,Cq,BV,Ax,Ay,Am,Az⟩:=nj (S.up AJ);replace S:=S.freeL (R:=R2_) Az;refine aV rfl dt rfl dt S rfl (rfl.trans Ax) rfl Ay Am A5 dt ?_;intro Cr Cs S;refine ah ?_;have hC:=(hCd _).2 ⟨_,S⟩;refine ⟨fun _=>hC,?_⟩;refine aO 12 rfl ?_;have An:=S.boxRow 1 rfl;replace S:=S.int Ad.2;replace S:=S.int Ad.1;replace S:=S.pair;replace S:=S.one;refine aV rfl dt rfl dt S rfl rfl rfl (by simp) An A6 dt ?_;intro Cv AP S;refine ah ?_;have hC:=(hCd _).2 ⟨_,S⟩;refine ⟨fun _=>hC,?_⟩;refine aO 13 rfl ?_;refine aI [AP] (bf rfl (oc (S.rdAt (R:=R6_) 0 rfl))) (by rfl) dt rfl dt S dt ?_;intro Cw Cx S BX;refine ah ?_;have hC:=(hCd _).2 ⟨_,S⟩;refine ⟨fun _=>hC,?_⟩;refine aO 14 rfl ?_;have Ao:=S.boxRow 0 rfl;replace S:=S.t3;replace S:=S.t2;replace S:=S.one;refine aV rfl dt rfl dt S rfl rfl rfl (by simp) Ao A7 dt ?_;intro Cy Ag S;refine ah ?_;have hC:=(hCd _).2 ⟨_,S⟩;refine ⟨fun _=>hC,?_⟩;refine aO 15 rfl ?_;refine pa Ag (ah ?_);refine ⟨fun _=>hC,?_⟩;refine bu (by kernel_rfl) ?_;replace S:=S.r2.r1;exact ⟨rfl,Ag,AI,Av,Aw,rfl,Ap,S⟩
    rintro FV FW ⟨Ag,C6,C7,C8,C9,Da,S⟩;refine bn Cm (tn Cl (ac (pM (i_ Aj) Da (oB F fun BG Db F=>pe (i_ BG) (aD rfl rfl Db) (pa (i_ BG) (en BF ?_))))));replace S:=S.keep 1;exact ⟨Ag,Cp,BG,C6,C7,C8,C9,rfl,S,F⟩
   refine ct (ai A4) (sg fun _ Ec=>?_);replace S:=S.r0;refine ac ?_;refine aW R2_ S dt ?_;intro FX A8 S Fh;refine pa A8 (pa (.bool false) (en Ec (ae (tr Co (br Cm (tr Cl (tr BF (br Cj (tr Ci ?_)))))))));replace F:=exL F BS;refine cw rfl rfl rfl ?_;have hr:=oI F;exact ⟨A8,cR hr fun r=>.tuple #[A8,.bool r.2],sP hr (fun r=>[Own R6_ [A8] r.1]) (S.keep 1)⟩
  refine cf A2 (aG (tx Ck (tx BF ?_)));replace F:=exA F BS;refine bS Cj (tn Ci (sg fun _ AQ=>sR fun _ Ed=>pa (i_ 0) (en Ed (bg fun _ AR=>?_))));obtain ⟨Ee,hL,AA⟩:=ob F;refine aE (fun k e w=>∃ (U:Value),∃ (Aq:List T3_),∃ (Aa:Int),e 6=i_ (a1.length:Int)∧e 7=U∧e 9=i_ Aa∧Sat w0 w [Own aR [U] Aq]∧bp N k (a1.length:Int) Aq Aa=some Ee) N ?_ ?_ ?_
  ·exact ⟨AO,A1,0,Aw,BT,rfl,S,hL⟩
  ·rintro e w ⟨_,_,_,_,_,_,_,hz⟩; exact nn hz
  rintro k FY FZ ⟨U,Aq,Aa,A9,BY,Ba,S,F⟩;refine gn fun _ Au=>sg fun _ Cz=>sR fun _ Ef=>pM (i_ Aa) Ba (pM (i_ (a1.length:Int)) A9 (pe (.bool (decide (Aa < (a1.length:Int)))) (aH rfl rfl) (en Ef (oF F (fun Bb F=>?_) fun Bb F=>?_))))
  ·refine ct Bb (sn Cz (sg fun _ AF=>bg fun _ AG=>sR fun _ Eg=>pM (i_ Aa) Ba (pa (i_ Aa) (en Eg (sg fun _ CA=>bg fun _ CB=>?_)))));obtain ⟨Eh,hL,BZ⟩:=ob F;refine aE (fun k e w=>∃ (Ae:Int),e 6=i_ (a1.length:Int)∧e 7=U∧e 9=i_ Aa∧e 10=i_ Ae∧Sat w0 w [Own aR [U] Aq]∧bw N k (a1.length:Int) Aq Aa Ae=some Eh) N ?_ ?_ ?_
   ·exact ⟨Aa,A9,BY,Ba,rfl,S,hL⟩
   ·rintro e w ⟨_,_,_,_,_,_,hz⟩; exact nn hz
   rintro k F0 Ei ⟨Ae,As,Ab,Ah,Ai,S,F⟩;refine gn fun _ BH=>sg fun _ BI=>sR fun _ CC=>pM (i_ Ae) Ai (pM (i_ (a1.length:Int)) As (pe (.bool (decide (Ae < (a1.length:Int)))) (aH rfl rfl) (pm (.bool (decide (Ae < (a1.length:Int)))) (oF F (fun z9 F=>?_) fun z9 F=>?_))))
   ·refine ei z9 (pM U Ab (ei z9 (pM (i_ Ae) Ai (ei z9 (oB F fun F3 Dc F=>?_)))));refine dO S rfl rfl dt rfl Dc dt ?_;intro F4 Fi F5 Fj AK Bc;obtain ⟨Ej,rfl⟩:=aM AK;refine ei z9 (pe Ej (ab rfl (Bc 0 _ rfl)) (ei z9 (pM (i_ Aa) Ah (ei z9 (oB F fun BJ Dd F=>?_)))));refine aU (wA:=Ei) rfl AK rfl dt rfl Dd dt ?_;intro Ek De F6 Df Bd;obtain ⟨_,_,rfl,Dg,Dh⟩:=Df;obtain rfl:=Dg;obtain rfl:=Dh;refine ei z9 (pe (pt Ek (De + 0)) (aa rfl) (ei z9 (pe (i_ BJ.1) (ab rfl (Bd 0 _ rfl)) (ei z9 (pe (.bool (BJ.1 == 0)) (dq rfl rfl) (pe (.bool (BJ.1 == 0)) (av rfl z9 rfl) (en CC (oF F (fun Be F=>?_) fun Be F=>?_))))))))
    ·refine ct Be (sn BI (bg fun _ El=>ac (pM (i_ Ae) Ai (oB F fun BK Di F=>pe (i_ BK) (aD rfl rfl Di) (pa (i_ BK) (ah (bn El (tn BH ?_))))))));replace S:=S.keep 1;exact ⟨BK,As,Ab,Ah,rfl,S,F⟩
    refine cf Be (aG (tx BI (tx BH ?_)));replace F:=exB F BZ;refine bS CB (tn CA (sg fun _ CD=>sR fun _ Em=>pM (i_ Ae) Ai (pM (i_ (a1.length:Int)) As (pe (.bool (Ae == (a1.length:Int))) (dq rfl rfl) (en Em (oF F (fun Bf F=>?_) fun Bf F=>?_))))))
    ·refine ct Bf (sg fun _ En=>?_);replace S:=S.r0;refine ac ?_;refine aW R2_ S dt ?_;intro F7 Bg S Bh;have Bc:=ar Bh Bc;have AK:=fW AK Bh;have Bd:=ar Bh Bd;refine pa Bg (pa (.bool false) (en En (ae (tr CD (br AG (tr AF (tr Au (br AR (tr AQ ?_)))))))));replace F:=exL F AA;refine cw rfl rfl rfl ?_;have hr:=oI F;exact ⟨Bg,cR hr fun r=>.tuple #[Bg,.bool r.2],sP hr (fun r=>[Own R6_ [Bg] r.1]) (S.keep 1)⟩
    refine cf Bf (sn CD (sR fun _ Eo=>pM U Ab (pM (i_ Ae) Ai (oB F fun Ep B0 F=>?_))));refine dO S rfl rfl dt rfl B0 dt ?_;intro F8 Fk F9 Dj B1 B2;obtain ⟨AS,rfl⟩:=aM B1;refine pe AS (ab rfl (B2 0 _ rfl)) (pa AS (en Eo (sR fun _ Er=>pM U Ab (pM (i_ Ae) Ai (pM U Ab (pM (i_ Aa) Ah (oB F fun Ga Bi F=>?_)))))));refine dO S rfl rfl dt rfl Bi dt ?_;intro Es Fl Gb Bj B3 B4;obtain ⟨CE,rfl⟩:=aM B3;refine pe CE (ab rfl (B4 0 _ rfl)) (oB F fun Gc Dk F=>?_);refine dO S rfl rfl dt rfl Dk dt ?_;intro Gd Fm Ge Dl Dm Fo;obtain ⟨Gf,rfl⟩:=aM Dm;refine oB F fun Et Dn F=>?_;have BA:Value.oneCell' AS=true:=(oc B1);have BB:Value.oneCell' CE=true:=(oc B3);refine lO S Dl Dj Bj rfl B0 Bi B2 B4 Dn rfl (bf rfl BB) BB ?_;intro Eu S;replace S:Sat w0 Eu [nR R6_ 27 U (Et.set (Aa:Int).toNat Ep) (Aa:Int).toNat AS]:=S;refine en Er (sR fun _ Ev=>pM U Ab (pM (i_ Aa) Ah (pm AS (pe (pt Es ((Aa:Int).toNat * 1)) (jy (v:=U) rfl Bj rfl Bi) (oB F fun Ew Do F=>?_)))));refine lN S Bj Do rfl (bf rfl BA) BA ?_;intro Ex S;replace S:Sat w0 Ex [Own aR [U] Ew]:=S;refine en Ev (sR fun _ Ey=>pM U Ab (pM (i_ Aa) Ah (oB F fun BL Dp F=>?_)));refine dC rD (kZ S Dp) (ca (ag rfl (ag rfl rfl))) dt ?_;rintro _ Ez ⟨rfl,S⟩;refine ⟨_,rfl,?_⟩;replace S:Sat w0 Ez [Own aR [U] BL.2]:=S;refine pe (.bool (!BL.1)) (aK rfl) (en Ey (oF F (fun Bk F=>?_) fun Bk F=>?_))
    ·refine cf (aj Bk) (bl (bn AG (tn AF (ac (pM (i_ Aa) Ah (oB F fun BM Dq F=>pe (i_ BM) (aD rfl rfl Dq) (pa (i_ BM) (en Au ?_))))))));replace S:=S.keep 1;exact ⟨U,BL.2,BM,As,Ab,rfl,S,F⟩
    refine ct (ai Bk) (sg fun _ EA=>?_);replace S:=S.r0;refine ac ?_;refine aW R2_ S dt ?_;intro Gg Bl S Fq;refine pa Bl (pa (.bool false) (en EA (ae (br AG (tr AF (tr Au (br AR (tr AQ ?_))))))));replace F:=exL F AA;refine cw rfl rfl rfl ?_;have hr:=oI F;exact ⟨Bl,cR hr fun r=>.tuple #[Bl,.bool r.2],sP hr (fun r=>[Own R6_ [Bl] r.1]) (S.keep 1)⟩
   refine eo z9 (eo z9 (eo z9 (eo z9 (eo z9 (eo z9 (eo z9 (eo z9 (eo z9 (pe (.bool false) (az rfl z9 rfl) (en CC (cf rfl (aG (tx BI (tx BH ?_))))))))))))));replace F:=exB F BZ;refine bS CB (tn CA (sg fun _ CF=>sR fun _ EB=>pM (i_ Ae) Ai (pM (i_ (a1.length:Int)) As (pe (.bool (Ae == (a1.length:Int))) (dq rfl rfl) (en EB (oF F (fun Bm F=>?_) fun Bm F=>?_))))))
   ·refine ct Bm (sg fun _ EC=>?_);replace S:=S.r0;refine ac ?_;refine aW R2_ S dt ?_;intro Gh Bn S Fr;refine pa Bn (pa (.bool false) (en EC (ae (tr CF (br AG (tr AF (tr Au (br AR (tr AQ ?_)))))))));replace F:=exL F AA;refine cw rfl rfl rfl ?_;have hr:=oI F;exact ⟨Bn,cR hr fun r=>.tuple #[Bn,.bool r.2],sP hr (fun r=>[Own R6_ [Bn] r.1]) (S.keep 1)⟩
   refine cf Bm (sn CF (sR fun _ ED=>pM U Ab (pM (i_ Ae) Ai (oB F fun EE B5 F=>?_))));refine dO S rfl rfl dt rfl B5 dt ?_;intro Gi Fs Gj Dr B6 B7;obtain ⟨AT,rfl⟩:=aM B6;refine pe AT (ab rfl (B7 0 _ rfl)) (pa AT (en ED (sR fun _ EF=>pM U Ab (pM (i_ Ae) Ai (pM U Ab (pM (i_ Aa) Ah (oB F fun Gk Bo F=>?_)))))));refine dO S rfl rfl dt rfl Bo dt ?_;intro EG Ft Gl Bp B8 B9;obtain ⟨CG,rfl⟩:=aM B8;refine pe CG (ab rfl (B9 0 _ rfl)) (oB F fun Gm Ds F=>?_);refine dO S rfl rfl dt rfl Ds dt ?_;intro Gn Fu Gp Dt Du Fv;obtain ⟨Gq,rfl⟩:=aM Du;refine oB F fun EH Dv F=>?_;have BC:Value.oneCell' AT=true:=(oc B6);have BD:Value.oneCell' CG=true:=(oc B8);refine lO S Dt Dr Bp rfl B5 Bo B7 B9 Dv rfl (bf rfl BD) BD ?_;intro EI S;replace S:Sat w0 EI [nR R6_ 27 U (EH.set (Aa:Int).toNat EE) (Aa:Int).toNat AT]:=S;refine en EF (sR fun _ EJ=>pM U Ab (pM (i_ Aa) Ah (pm AT (pe (pt EG ((Aa:Int).toNat * 1)) (jy (v:=U) rfl Bp rfl Bo) (oB F fun EK Dw F=>?_)))));refine lN S Bp Dw rfl (bf rfl BC) BC ?_;intro EM S;replace S:Sat w0 EM [Own aR [U] EK]:=S;refine en EJ (sR fun _ EN=>pM U Ab (pM (i_ Aa) Ah (oB F fun BN Dx F=>?_)));refine dC rD (kZ S Dx) (ca (ag rfl (ag rfl rfl))) dt ?_;rintro _ EO ⟨rfl,S⟩;refine ⟨_,rfl,?_⟩;replace S:Sat w0 EO [Own aR [U] BN.2]:=S;refine pe (.bool (!BN.1)) (aK rfl) (en EN (oF F (fun Bq F=>?_) fun Bq F=>?_))
   ·refine cf (aj Bq) (bl (bn AG (tn AF (ac (pM (i_ Aa) Ah (oB F fun BO Dy F=>pe (i_ BO) (aD rfl rfl Dy) (pa (i_ BO) (en Au ?_))))))));replace S:=S.keep 1;exact ⟨U,BN.2,BO,As,Ab,rfl,S,F⟩
   refine ct (ai Bq) (sg fun _ EP=>?_);replace S:=S.r0;refine ac ?_;refine aW R2_ S dt ?_;intro Gr Br S Fw;refine pa Br (pa (.bool false) (en EP (ae (br AG (tr AF (tr Au (br AR (tr AQ ?_))))))));replace F:=exL F AA;refine cw rfl rfl rfl ?_;have hr:=oI F;exact ⟨Br,cR hr fun r=>.tuple #[Br,.bool r.2],sP hr (fun r=>[Own R6_ [Br] r.1]) (S.keep 1)⟩
  refine cf Bb (aG (tx Cz (tx Au ?_)));replace F:=exA F AA;refine bS AR (tn AQ (sR fun _ EQ=>?_));refine aW R2_ S dt ?_;intro Gs CH S Fx;refine pa CH (en EQ (sg fun _ CI=>sR fun _ ER=>pa (i_ 0) (en ER (bg fun _ CJ=>?_))));obtain ⟨ES,hL,Ca⟩:=ob F;refine aE (fun k e w=>∃ (Af:Value),∃ (Ar:List T1_),∃ (Ak:Int),e 6=i_ (a1.length:Int)∧e 7=U∧e 12=Af∧e 13=i_ Ak∧Sat w0 w [Own R6_ [Af] Ar,Own aR [U] Aq]∧bq N k (a1.length:Int) Aq Ar Ak=some ES) N ?_ ?_ ?_
  ·exact ⟨CH,[],0,A9,BY,rfl,rfl,S,hL⟩
  ·rintro e w ⟨_,_,_,_,_,_,_,_,hz⟩; exact nn hz
  rintro k Gt AH ⟨Af,Ar,Ak,AM,AN,Bs,At,S,F⟩;refine gn fun _ BP=>sg fun _ CK=>sR fun _ ET=>pM (i_ Ak) At (pM (i_ (a1.length:Int)) AM (pe (.bool (decide (Ak < (a1.length:Int)))) (aH rfl rfl) (en ET (oF F (fun Bt F=>?_) fun Bt F=>?_))))
  ·refine ct Bt (sn CK (sg fun _ CL=>bg fun _ CM=>sg fun _ EU=>?_));replace S:=S.t1;obtain ⟨AU,Bu,S⟩:=S.frz;replace S:Sat w0 AH [Frz AH AU,Own R6_ [Af] Ar]:=S;refine oB F fun Gu Dz F=>oB F fun Bv DA F=>oB F fun Gv DB F=>oB F fun Bw DC F=>oB F fun J Cb F=>?_;refine fX (fun e w=>∃ (Al:Nat),e 6=i_ (a1.length:Int)∧e 7=U∧e 12=Af∧e 13=i_ Ak∧e 14=pt Al 0∧e 15=.bool J.2∧Sat w0 w [Frz AH AU,Own R6_ [Af] Ar,Box Al 68 [i_ J.1.1,i_ J.1.2]]) ?_ ?_
   ·obtain ⟨C,hCd⟩:∃ C:World → Prop,∀ w,C w ↔ ∃ G,Sat w0 w ([Frz AH AU] ++ G):=⟨_,fun _=>Iff.rfl⟩;refine ck [0,1,2,3,4,5,6,7,8,9,10,11,12,13,14,15,16,17,18,19,20] C (by kernel_rfl) ?_;intro Gw DD;replace S:=S.ext DD;have hC:=(hCd _).2 ⟨_,S⟩;refine aP U 0 rfl rfl hC (ap rfl (fun w' hw'=>by obtain ⟨_,S⟩:=(hCd _).1 hw'; exact (aq AN))) ?_;refine aP (i_ Ak) 1 rfl rfl hC (ap rfl (fun w' hw'=>by obtain ⟨_,S⟩:=(hCd _).1 hw'; exact (aq At))) ?_;refine dk (by kernel_rfl) 2 rfl hC (by kernel_rfl) (by kernel_rfl) rfl Bu rfl rfl Dz dt ?_;intro Gx Fy Gy Gz Cc AB AV DE;replace AB:=fun q hq=>(fun _ h=>h) q (AB q hq);replace AV:=(fun _ h=>h) _ AV;obtain ⟨EV,rfl⟩:=aM (Rep.own_rd _ Cc);refine aP EV 3 rfl rfl hC (ap rfl (fun w' hw'=>by obtain ⟨_,S⟩:=(hCd _).1 hw'; exact (ab rfl ((S.frzCells 0 rfl AV DE) 0 _ rfl)))) ?_;refine aP (i_ (a1.length:Int)) 4 rfl rfl hC (ap rfl (fun w' hw'=>by obtain ⟨_,S⟩:=(hCd _).1 hw'; exact (aq AM))) ?_;refine dk (by kernel_rfl) 5 rfl hC (by kernel_rfl) (by kernel_rfl) rfl Cc rfl rfl DA dt ?_;intro GA Fz GB GC DF AC AW DG;replace AC:=fun q hq=>AB q (AC q hq);replace AW:=AB _ AW;obtain ⟨_,_,_,_,rfl,rfl,DH,DI⟩:=DF;have E6:=fun q hq=>AC q (List.mem_append_left _ hq);have E7:=fun q hq=>AC q (List.mem_append_right _ hq);obtain ⟨rfl,_⟩:=DH;obtain ⟨rfl,_⟩:=DI;refine aP (.agg #[i_ Bv.1,i_ Bv.2]) 6 rfl rfl hC (ap rfl (fun w' hw'=>by obtain ⟨_,S⟩:=(hCd _).1 hw'; exact (am (cs:=[i_ Bv.1,i_ Bv.2]) rfl rfl (S.frzCells 0 rfl AW DG)))) ?_;refine aP U 7 rfl rfl hC (ap rfl (fun w' hw'=>by obtain ⟨_,S⟩:=(hCd _).1 hw'; exact (aq AN))) ?_;refine aP (i_ Ak) 8 rfl rfl hC (ap rfl (fun w' hw'=>by obtain ⟨_,S⟩:=(hCd _).1 hw'; exact (aq At))) ?_;refine dk (by kernel_rfl) 9 rfl hC (by kernel_rfl) (by kernel_rfl) rfl Bu rfl rfl DB dt ?_;intro GD FA GE GF Cd AD AX DJ;replace AD:=fun q hq=>(fun _ h=>h) q (AD q hq);replace AX:=(fun _ h=>h) _ AX;obtain ⟨EW,rfl⟩:=aM (Rep.own_rd _ Cd);refine aP EW 10 rfl rfl hC (ap rfl (fun w' hw'=>by obtain ⟨_,S⟩:=(hCd _).1 hw'; exact (ab rfl ((S.frzCells 0 rfl AX DJ) 0 _ rfl)))) ?_;refine aP (i_ Ak) 11 rfl rfl hC (ap rfl (fun w' hw'=>by obtain ⟨_,S⟩:=(hCd _).1 hw'; exact (aq At))) ?_;refine dk (by kernel_rfl) 12 rfl hC (by kernel_rfl) (by kernel_rfl) rfl Cd rfl rfl DC dt ?_;intro GG FB GH GI DK AE AY DL;replace AE:=fun q hq=>AD q (AE q hq);replace AY:=AD _ AY;obtain ⟨_,_,_,_,rfl,rfl,DM,DN⟩:=DK;have E8:=fun q hq=>AE q (List.mem_append_left _ hq);have E9:=fun q hq=>AE q (List.mem_append_right _ hq);obtain ⟨rfl,_⟩:=DM;obtain ⟨rfl,_⟩:=DN;refine aP (.agg #[i_ Bw.1,i_ Bw.2]) 13 rfl rfl hC (ap rfl (fun w' hw'=>by obtain ⟨_,S⟩:=(hCd _).1 hw'; exact (am (cs:=[i_ Bw.1,i_ Bw.2]) rfl rfl (S.frzCells 0 rfl AY DL)))) ?_;refine fh 14 18 (by kernel_rfl) rfl rfl ?_ ?_
    ·refine ec0 mV (gL Cb) (ca (ag rfl (ag rfl rfl))) S fun EX DO S=>?_;refine ah ?_;have hC:=(hCd _).2 ⟨_,S⟩;refine ⟨fun _=>hC,?_⟩;refine aP (.tuple #[.agg #[i_ J.1.1,i_ J.1.2],.bool J.2]) 15 rfl rfl hC (ap rfl (fun w' hw'=>by obtain ⟨_,S⟩:=(hCd _).1 hw'; exact (aq rfl))) ?_;refine aP (.agg #[i_ J.1.1,i_ J.1.2]) 16 rfl rfl hC (ap rfl (fun w' hw'=>by obtain ⟨_,S⟩:=(hCd _).1 hw'; exact (an rfl rfl))) ?_;refine aP (.bool J.2) 17 rfl rfl hC (ap rfl (fun w' hw'=>by obtain ⟨_,S⟩:=(hCd _).1 hw'; exact (an rfl rfl))) ?_;refine aO 18 rfl ?_;refine aC S dt ?_;intro EY Al S DP;refine ah ?_;replace S:=S.t1;have hC:=(hCd _).2 ⟨_,S⟩;refine ⟨fun _=>hC,?_⟩;refine aO 19 rfl ?_;refine ak (S.top 1 rfl) rfl [i_ J.1.1,i_ J.1.2] rfl rfl dt (all_cons rfl (all_cons rfl rfl)) ?_;intro BQ S;replace S:Sat w0 BQ [Box Al 68 [i_ J.1.1,i_ J.1.2],Frz AH AU,Own R6_ [Af] Ar]:=S;refine ah ?_;replace S:=S.t1;have hC:=(hCd _).2 ⟨_,S⟩;refine ⟨fun _=>hC,?_⟩;refine aO 20 rfl ?_;refine pa (.bool J.2) (ah ?_);refine ⟨fun _=>hC,?_⟩;refine bu (by kernel_rfl) ?_;replace S:=S.t1.t2.t2;exact ⟨rfl,Al,AM,AN,Bs,At,rfl,rfl,S⟩
    refine aC S dt ?_;intro EY Al S DP;refine ah ?_;replace S:=S.t1;have hC:=(hCd _).2 ⟨_,S⟩;refine ⟨fun _=>hC,?_⟩;refine aO 14 rfl ?_;refine ec0 mV (gL Cb) (ca (ag rfl (ag rfl rfl))) S fun EX DO S=>?_;refine ah ?_;have hC:=(hCd _).2 ⟨_,S⟩;refine ⟨fun _=>hC,?_⟩;refine aO 15 rfl ?_;refine pm (.tuple #[.agg #[i_ J.1.1,i_ J.1.2],.bool J.2]) (ah ?_);refine ⟨fun _=>hC,?_⟩;refine aP (.agg #[i_ J.1.1,i_ J.1.2]) 16 rfl rfl hC (ap rfl (fun w' hw'=>by obtain ⟨_,S⟩:=(hCd _).1 hw'; exact (an rfl rfl))) ?_;refine aP (.bool J.2) 17 rfl rfl hC (ap rfl (fun w' hw'=>by obtain ⟨_,S⟩:=(hCd _).1 hw'; exact (an rfl rfl))) ?_;refine aO 19 rfl ?_;refine ak (S.top 1 rfl) rfl [i_ J.1.1,i_ J.1.2] rfl rfl dt (all_cons rfl (all_cons rfl rfl)) ?_;intro BQ S;replace S:Sat w0 BQ [Box Al 68 [i_ J.1.1,i_ J.1.2],Frz AH AU,Own R6_ [Af] Ar]:=S;refine ah ?_;replace S:=S.t1;have hC:=(hCd _).2 ⟨_,S⟩;refine ⟨fun _=>hC,?_⟩;refine aO 20 rfl ?_;refine pa (.bool J.2) (ah ?_);refine ⟨fun _=>hC,?_⟩;refine bu (by kernel_rfl) ?_;replace S:=S.t1.t2.t2;exact ⟨rfl,Al,AM,AN,Bs,At,rfl,rfl,S⟩
   rintro GJ EZ ⟨Al,DQ,DR,DS,DT,DU,DV,S⟩;replace S:=S.unfrz Bu;replace S:Sat w0 EZ [Own aR [U] Aq,Own R6_ [Af] Ar,Box Al 68 [i_ J.1.1,i_ J.1.2]]:=S;refine tn EU (sg fun _ CN=>sR fun _ E0=>pM (.bool J.2) DV (pe (.bool (!J.2)) (aK rfl) (en E0 (oF F (fun Bx F=>?_) fun Bx F=>?_))))
   ·refine cf (aj Bx) (sn CN (ac (pM Af DS (pe (.agg #[i_ J.1.1,i_ J.1.2]) (am (cs:=[i_ J.1.1,i_ J.1.2]) DU rfl (au (S.boxAt 2 rfl))) ?_))));refine aI [i_ J.1.1,i_ J.1.2] rfl (by rfl) dt rfl dt S dt ?_;intro GK GL S FC;refine oB F fun E2 DW F=>?_;have Ce:=S.boxRow 0 rfl;replace S:=S.t2;replace S:=S.int J.1.2;replace S:=S.int J.1.1;replace S:=S.pair;replace S:=S.one;refine aV rfl dt rfl dt S rfl rfl rfl (by simp) Ce DW dt ?_;intro GM CO S;refine pa CO (ah (bn CM (tn CL ?_)));replace S:=S.r3.r1;refine ac (pM (i_ Ak) DT (oB F fun BR DX F=>pe (i_ BR) (aD rfl rfl DX) (pa (i_ BR) (en BP ?_))));replace S:=S.keep 2;exact ⟨CO,E2,BR,DQ,DR,rfl,rfl,S,F⟩
   refine ct (ai Bx) (sg fun _ E3=>?_);replace S:=S.r2.r1.r0;refine ac ?_;refine aW R2_ S dt ?_;intro GN By S FD;refine pa By (pa (.bool false) (en E3 (ae (tr CN (br CM (tr CL (tr BP (br CJ (tr CI ?_)))))))));replace F:=exL F Ca;refine cw rfl rfl rfl ?_;have hr:=oI F;exact ⟨By,cR hr fun r=>.tuple #[By,.bool r.2],sP hr (fun r=>[Own R6_ [By] r.1]) (S.keep 1)⟩
  refine cf Bt (aG (tx CK (tx BP ?_)));replace F:=exA F Ca;refine bS CJ (tn CI (sg fun _ E4=>?_));replace S:=S.r1;refine ac (pM Af Bs (pa Af (pa (.bool true) (en E4 (ae (cw rfl rfl rfl ?_))))));have hr:=oI F;exact ⟨Af,cR hr fun r=>.tuple #[Af,.bool r.2],sP hr (fun r=>[Own R6_ [Af] r.1]) (S.keep 1)⟩
 refine ct (ai A0) (sR fun _ E5=>?_);refine aW R2_ S dt ?_;intro GO Bz S FE;refine pa Bz (pa (.bool false) (en E5 (ae (tr BE (cw rfl rfl rfl ?_)))));have hr:=oI F;exact ⟨Bz,cR hr fun r=>.tuple #[Bz,.bool r.2],sP hr (fun r=>[Own R6_ [Bz] r.1]) (S.keep 1)⟩
theorem kH {w0:World} {a0:Int} {a1:Int} {a2:Int} {a3:Int}  {N:Nat} {r:Int} (F:cl N a0 a1 a2 a3=some r): Calls Tryz.prog 60 #[.agg #[i_ a0,i_ a1],.agg #[i_ a2,i_ a3]] w0 fun e w'=>e=.returned (i_ r)∧Ext w0 w' := by
 unfold cl at F;refine aJ Tryz.func60 rfl rfl dt ?_;have S:=Sat.start w0;refine sR fun _ Ap=>?_;refine be [i_ a0,i_ a1] rfl S dt ?_;intro AD Ae S Az;refine be [i_ a2,i_ a3] rfl S dt ?_;intro AE Af S AA;refine pa (i_ 0) (en Ap (sg fun _ Ad=>sR fun _ Ag=>pe (.agg #[i_ a0,i_ a1]) (am (cs:=[i_ a0,i_ a1]) rfl rfl (au (S.boxAt 1 rfl))) (oB F fun Ah Al F=>?_)));refine ec0 fM (bk Al) (ca (ag rfl rfl)) S fun AF AB S=>?_;refine pe (.bool (!Ah)) (aK rfl) (pm (.bool (!Ah)) (oF F (fun J F=>?_) fun J F=>?_))
 ·refine ei (aj J) (pe (.agg #[i_ a2,i_ a3]) (am (cs:=[i_ a2,i_ a3]) rfl rfl (au (S.boxAt 0 rfl))) (ei (aj J) (oB F fun Ai Am F=>?_)));refine ec0 fM (bk Am) (ca (ag rfl rfl)) S fun AG AC S=>?_;refine ei (aj J) (pe (.bool (!Ai)) (aK rfl) (pe (.bool (!Ai)) (az rfl (aj J) rfl) (en Ag (oF F (fun Aa F=>?_) fun Aa F=>?_))))
  ·refine cf (aj Aa) (sn Ad (sR fun _ Aq=>pe (pt Ae (0 + 0)) (aa rfl) (pe (i_ a0) (ab rfl ((S.boxAt 1 rfl) 0 _ rfl)) (pe (pt Af (0 + 1)) (aa rfl) (pe (i_ a3) (ab rfl ((S.boxAt 0 rfl) 1 _ rfl)) (oB F fun U An F=>pe (i_ U) (dr rfl rfl An) (pa (i_ U) (en Aq (sR fun _ Ar=>pe (pt Af (0 + 0)) (aa rfl) (pe (i_ a2) (ab rfl ((S.boxAt 0 rfl) 0 _ rfl)) (pe (pt Ae (0 + 1)) (aa rfl) (pe (i_ a1) (ab rfl ((S.boxAt 1 rfl) 1 _ rfl)) (oB F fun z9 Ao F=>pe (i_ z9) (dr rfl rfl Ao) (pa (i_ z9) (en Ar (sg fun _ Aj=>sg fun _ As=>?_))))))))))))))));replace S:=S.r1.r0;refine ac (pm (i_ U) (pm (i_ z9) (pe (.bool (decide (U < z9))) (aH rfl rfl) (en As (oF F (fun Ab F=>?_) fun Ab F=>?_)))))
   ·refine ct Ab (sR fun _ At=>pa (i_ (-1)) (en At (ae (tr Aj (aF rfl rfl ?_)))));exact rI F S
   refine cf Ab (sn Aj (sg fun _ Ak=>sR fun _ Au=>pm (i_ U) (pm (i_ z9) (pe (.bool (decide (z9 < U))) (eF rfl rfl) (en Au (oF F (fun Ac F=>?_) fun Ac F=>?_))))))
   ·refine ct Ac (sR fun _ Av=>pa (i_ 1) (en Av (ae (tr Ak (aF rfl rfl ?_)))));exact rI F S
   refine cf Ac (sn Ak (sR fun _ Aw=>pa (i_ 0) (en Aw (ae (aF rfl rfl ?_)))));exact rI F S
  refine ct (ai Aa) (sg fun _ Ax=>?_);replace S:=S.r1.r0;refine ac (pa (i_ 0) (en Ax (ae (tr Ad (aF rfl rfl ?_)))));exact rI F S
 refine eo (ai J) (eo (ai J) (eo (ai J) (pe (.bool true) (av rfl (ai J) rfl) (en Ag (ct rfl (sg fun _ Ay=>?_))))));replace S:=S.r1.r0;refine ac (pa (i_ 0) (en Ay (ae (tr Ad (aF rfl rfl ?_)))));exact rI F S
end
end Go.Proofs.YtijmbnbnojicjaaGreatDoor
