/- Plain laws: all bindings, walked atom by atom. -/
import Derived.Test.YtnipkopfefkojaaV1
namespace Go.Proofs.Ytnipkopfefkojaa
open Go.RowKit

def at0 (b:List Int) (v:Int):Int:=b.getD v.toNat 0
def hY (vs t:List Int):Nat→Nat→List Int→Option (List Int)
 | 0,_,row=>some row
 | m+1,k,row=>if at0 row (vs.getD k 0)=-1∨at0 row (vs.getD k 0)=t.getD k 0 then hY vs t m (k+1) (row.set (vs.getD k 0).toNat (t.getD k 0)) else none
def l8V (ts:List ba):List aQ→List Int→aD
 | [],row=>[row]
 | a :: l,row=>(dw ts a).flatMap fun t=>match hY a.2 t a.2.length 0 row with | some row'=>l8V ts l row' | none=>[]
def kq (row b:List Int):Prop:=b.length=row.length∧∀ v:Int,0≤v→v<row.length→at0 row v≠-1→at0 b v=at0 row v
theorem wT {row:List Int} {v w x:Int} (hv:0≤v) (hvl:v<row.length) (hw:0≤w):at0 (row.set v.toNat x) w=if w=v then x else at0 row w:=by
 unfold at0
 by_cases h:w=v
 ·subst h
  rw [if_pos rfl,List.getD_eq_getElem?_getD,List.getElem?_set_self (by omega),Option.getD_some]
 ·rw [if_neg h,List.getD_eq_getElem?_getD,List.getElem?_set_ne (by omega),List.getD_eq_getElem?_getD]
theorem qk {vs t:List Int} (hl:t.length=vs.length) (ht:∀ x∈t,0≤x):∀ (m k:Nat) (row:List Int),k+m=vs.length→(∀ v∈vs,0≤v∧v<(row.length:Int)) →
  match hY vs t m k row with
  | none=>∀ b,kq row b→¬ ∀ j,k≤j→j<k+m→at0 b (vs.getD j 0)=t.getD j 0
  | some row'=>row'.length=row.length∧(∀ b,kq row' b↔kq row b∧∀ j,k≤j→j<k+m→at0 b (vs.getD j 0)=t.getD j 0)∧∀ v:Int,0≤v→(at0 row' v=-1↔at0 row v=-1∧∀ j,k≤j→j<k+m→vs.getD j 0≠v):=by
 intro m
 induction m with
 | zero =>
  intro k row _ _
  unfold hY
  exact ⟨rfl,fun b=>⟨fun h=>⟨h,fun j h1 h2=>by omega⟩,fun h=>h.1⟩,fun v _=>⟨fun h=>⟨h,fun j h1 h2=>by omega⟩,fun h=>h.1⟩⟩
 | succ m ih =>
  intro k row hk hb
  have hkv:k<vs.length:=by omega
  obtain ⟨hv0,hv1⟩:=hb _ (List.getElem_mem hkv)
  have ev:vs.getD k 0=vs[k]:=bb hkv
  have et:t.getD k 0=t[k]'(by omega):=bb (by omega)
  have ht0:=ht _ (List.getElem_mem (show k<t.length by omega))
  unfold hY
  rw [ev,et]
  by_cases hc:at0 row vs[k]=-1∨at0 row vs[k]=t[k]
  ·rw [if_pos hc]
   have hset:∀ w:Int,0≤w→at0 (row.set (vs[k]).toNat (t[k]'(by omega))) w=if w=vs[k] then t[k]'(by omega) else at0 row w:=fun w hw=>wT hv0 hv1 hw
   have hcom:∀ b,kq (row.set (vs[k]).toNat (t[k]'(by omega))) b↔kq row b∧at0 b vs[k]=t[k]'(by omega):=fun b=>by
    unfold kq
    rw [List.length_set]
    constructor
    ·rintro ⟨h1,h2⟩
     have h3:at0 b vs[k]=t[k]'(by omega):=by
      have:=h2 vs[k] hv0 hv1 (by rw [hset _ hv0,if_pos rfl];omega)
      rwa [hset _ hv0,if_pos rfl] at this
     refine ⟨⟨h1,fun w w0 w1 hw=>?_⟩,h3⟩
     by_cases e:w=vs[k]
     ·subst e
      rcases hc with hc | hc
      ·exact absurd hc hw
      ·rw [hc];exact h3
     ·have:=h2 w w0 w1 (by rw [hset _ w0,if_neg e];exact hw)
      rwa [hset _ w0,if_neg e] at this
    ·rintro ⟨⟨h1,h2⟩,h3⟩
     refine ⟨h1,fun w w0 w1 hw=>?_⟩
     rw [hset _ w0] at hw ⊢
     by_cases e:w=vs[k]
     ·rw [if_pos e,e];exact h3
     ·rw [if_neg e] at hw ⊢;exact h2 w w0 w1 hw
   have hall:∀ (P:Nat→Prop),(∀ j,k≤j→j<k+(m+1)→P j)↔P k∧∀ j,k+1≤j→j<k+1+m→P j:=fun P =>
    ⟨fun h=>⟨h k (Nat.le_refl _) (by omega),fun j h1 h2=>h j (by omega) (by omega)⟩,fun h j h1 h2=>by
     by_cases e:j=k
     ·subst e;exact h.1
     ·exact h.2 j (by omega) (by omega)⟩
   have hi:=ih (k+1) (row.set (vs[k]).toNat (t[k]'(by omega))) (by omega) (fun v hv=>by rw [List.length_set];exact hb v hv)
   cases he:hY vs t m (k+1) (row.set (vs[k]).toNat (t[k]'(by omega))) with
   | none =>
    rw [he] at hi
    intro b hbc hj
    rw [hall] at hj
    rw [ev,et] at hj
    exact hi b ((hcom b).2 ⟨hbc,hj.1⟩) hj.2
   | some row' =>
    rw [he] at hi
    obtain ⟨i1,i2,i3⟩:=hi
    refine ⟨by rw [i1,List.length_set],fun b=>?_,fun v hv=>?_⟩
    ·rw [i2,hcom,hall,ev,et];exact and_assoc
    ·rw [i3 v hv,hset v hv,hall,ev]
     by_cases e:v=vs[k]
     ·subst e
      rw [if_pos rfl]
      exact ⟨fun h=>by have:=h.1;omega,fun h=>absurd rfl h.2.1⟩
     ·rw [if_neg e]
      exact ⟨fun h=>⟨h.1,fun e2=>e e2.symm,h.2⟩,fun h=>⟨h.1,h.2.2⟩⟩
  ·rw [if_neg hc]
   intro b hbc hj
   have h1:=hj k (Nat.le_refl _) (by omega)
   rw [ev,et] at h1
   have h2:=hbc.2 vs[k] hv0 hv1 (fun e=>hc (.inl e))
   exact hc (.inr (by rw [← h2];exact h1))
theorem sS {vs t b:List Int} (hl:t.length=vs.length):vs.map (at0 b)=t↔∀ j,0≤j→j<0+vs.length→at0 b (vs.getD j 0)=t.getD j 0:=by
 constructor
 ·rintro rfl j _ h
  rw [bb (xs:=vs) (by omega),kY (by omega)]
 ·intro h
  refine List.ext_getElem (by rw [List.length_map,hl]) fun j h1 h2=>?_
  have hj:j<vs.length:=by omega
  have:=h j (Nat.zero_le _) (by omega)
  rw [bb hj,bb h2] at this
  rw [List.getElem_map];exact this
theorem uo {ts:List ba}:∀ {l:List aQ} {row b:List Int},(∀ a∈l,(∀ v∈a.2,0≤v∧v<(row.length:Int))∧∀ x∈dw ts a,x.length=a.2.length∧∀ y∈x,0≤y) →
  (b∈l8V ts l row↔(kq row b∧∀ v:Int,0≤v→v<row.length→at0 row v=-1→(∀ a∈l,v∉a.2)→at0 b v=-1)∧ii ts l (at0 b))
 | [],row,b,_=>by
  unfold l8V
  rw [List.mem_singleton]
  constructor
  ·rintro rfl
   exact ⟨⟨⟨rfl,fun _ _ _ _=>rfl⟩,fun v _ _ h _=>h⟩,fun a ha=>absurd ha (by simp)⟩
  ·rintro ⟨⟨⟨h1,h2⟩,h3⟩,_⟩
   refine List.ext_getElem h1 fun i i1 i2=>?_
   have e:∀ (r:List Int) (h:i<r.length),at0 r (i:Int)=r[i]:=fun r h=>by unfold at0;rw [Int.toNat_natCast,bb h]
   by_cases hm:at0 row (i:Int)=-1
   ·have:=h3 (i:Int) (by omega) (by omega) hm (by simp)
    rw [e _ i1] at this
    rw [e _ i2] at hm
    rw [this,hm]
   ·have:=h2 (i:Int) (by omega) (by omega) hm
    rwa [e _ i1,e _ i2] at this
 | a :: l,row,b,hok=>by
  obtain ⟨ha,hr⟩:=hok a List.mem_cons_self
  unfold l8V
  rw [List.mem_flatMap]
  have key:∀ t∈dw ts a,(b∈(match hY a.2 t a.2.length 0 row with | some row'=>l8V ts l row' | none=>[])↔a.2.map (at0 b)=t∧((kq row b∧∀ v:Int,0≤v→v<row.length→at0 row v=-1→(∀ a'∈a :: l,v∉a'.2)→at0 b v=-1)∧ii ts l (at0 b))):=fun t ht=>by
   obtain ⟨hl,h0⟩:=hr t ht
   have hs:=qk hl h0 a.2.length 0 row (by omega) ha
   cases he:hY a.2 t a.2.length 0 row with
   | none =>
    rw [he] at hs
    constructor
    ·intro h;cases h
    ·rintro ⟨h1,⟨h2,_⟩,_⟩
     exact absurd ((sS hl).1 h1) (hs b h2)
   | some row' =>
    rw [he] at hs
    obtain ⟨s1,s2,s3⟩:=hs
    show b∈l8V ts l row'↔_
    rw [uo (fun a' h'=>by rw [s1];exact hok a' (List.mem_cons_of_mem _ h')),s2,← sS hl,s1]
    have hv:∀ v:Int,0≤v→((∀ j,0≤j→j<0+a.2.length→a.2.getD j 0≠v)↔v∉a.2):=fun v _=>by
     constructor
     ·intro h hm
      obtain ⟨j,hj,e⟩:=List.getElem_of_mem hm
      exact h j (Nat.zero_le _) (by omega) (by rw [bb hj];exact e)
     ·intro h j _ hj e
      rw [bb (by omega)] at e
      exact h (by rw [← e];exact List.getElem_mem _)
    constructor
    ·rintro ⟨⟨⟨h1,h2⟩,h3⟩,h4⟩
     refine ⟨h2,⟨h1,fun v v0 v1 e hno=>h3 v v0 v1 ((s3 v v0).2 ⟨e,(hv v v0).2 (hno a List.mem_cons_self)⟩) fun a' h'=>hno a' (List.mem_cons_of_mem _ h')⟩,h4⟩
    ·rintro ⟨h2,⟨h1,h3⟩,h4⟩
     refine ⟨⟨⟨h1,h2⟩,fun v v0 v1 e hno=>?_⟩,h4⟩
     obtain ⟨e1,e2⟩:=(s3 v v0).1 e
     exact h3 v v0 v1 e1 fun a' h'=>by
      rcases List.mem_cons.1 h' with rfl | h'
      ·exact (hv v v0).1 e2
      ·exact hno a' h'
  constructor
  ·rintro ⟨t,ht,hb⟩
   obtain ⟨h1,h2,h3⟩:=(key t ht).1 hb
   refine ⟨h2,fun a' h'=>?_⟩
   rcases List.mem_cons.1 h' with rfl | h'
   ·rw [h1];exact ht
   ·exact h3 a' h'
  ·rintro ⟨h2,h3⟩
   exact ⟨_,h3 a List.mem_cons_self,(key _ (h3 a List.mem_cons_self)).2 ⟨rfl,h2,fun a' h'=>h3 a' (List.mem_cons_of_mem _ h')⟩⟩
theorem rH {ts:List ba}:∀ {l:List aQ} {row:List Int},(∀ a∈l,(dw ts a).length≤16)→(l8V ts l row).length≤16 ^ l.length
 | [],_,_=>Nat.le_refl _
 | a :: l,row,h=>by
  unfold l8V
  have h2:=kn (g:=fun t=>match hY a.2 t a.2.length 0 row with | some row'=>l8V ts l row' | none=>[]) (k:=16 ^ l.length) (fun t=>by
   cases hY a.2 t a.2.length 0 row with
   | none=>exact Nat.zero_le _
   | some row'=>exact rH fun a' h'=>h a' (List.mem_cons_of_mem _ h')) (dw ts a)
  refine Nat.le_trans h2 ?_
  rw [List.length_cons,Nat.pow_succ,Nat.mul_comm (16 ^ l.length)]
  exact Nat.mul_le_mul_right _ (h a List.mem_cons_self)
section
variable {ts:List ba} {n:Nat} {atoms:List aQ} {order:List Int}
theorem qN {x:List Int} (h:aZ x=true):∀ y∈x,0≤y:=fun y hy=>by
 unfold aZ at h
 rw [List.all_eq_true] at h
 exact (cJ.1 (h y hy)).1
theorem mn (q:QFor ts n atoms order):∀ a∈atoms,(dw ts a).length≤16:=fun a ha=>oE (q.af a ha).1
theorem jT (q:QFor ts n atoms order) {b:List Int}:b∈l8V ts atoms (List.replicate n (-1))↔b.length=n∧ii ts atoms (at0 b):=by
 rw [uo (fun a ha=>⟨by rw [List.length_replicate];exact (q.al a ha).2.2,fun x hx=>⟨(jl q ha hx).1,qN (jl q ha hx).2⟩⟩)]
 have hrep:∀ v:Int,0≤v→v<(n:Int)→at0 (List.replicate n (-1)) v=-1:=fun v h0 h1=>by
  unfold at0
  rw [bb (by rw [List.length_replicate];omega),List.getElem_replicate]
 constructor
 ·rintro ⟨⟨h1,_⟩,h3⟩
  exact ⟨by have:=h1.1;rwa [List.length_replicate] at this,h3⟩
 ·rintro ⟨h1,h2⟩
  refine ⟨⟨⟨by rw [List.length_replicate];exact h1,fun v v0 v1 e=>?_⟩,fun v v0 v1 _ hno=>?_⟩,h2⟩
  ·rw [List.length_replicate] at v1
   exact absurd (hrep v v0 v1) e
  ·rw [List.length_replicate] at v1
   obtain ⟨a,ha,hv⟩:=q.cov v v0 v1
   exact absurd hv (hno a ha)
theorem pY (q:QFor ts n atoms order) {f:Int→Int} (h:ii ts atoms f) {v:Int} (v0:0≤v) (v1:v<n):0≤f v∧f v≤99:=by
 obtain ⟨a,ha,hv⟩:=q.cov v v0 v1
 have:=(jl q ha (h a ha)).2
 unfold aZ at this
 rw [List.all_eq_true] at this
 exact cJ.1 (this _ (List.mem_map.2 ⟨v,hv,rfl⟩))
theorem ii.congr (q:QFor ts n atoms order) {f g:Int→Int} (h:ii ts atoms f) (e:∀ v:Int,0≤v→v<n→f v=g v):ii ts atoms g:=fun a ha=>by
 have hv:=(q.al a ha).2.2
 have:a.2.map g=a.2.map f:=List.map_congr_left fun v hm=>(e v (hv v hm).1 (hv v hm).2).symm
 rw [this];exact h a ha
def gJ (n:Nat) (order r:List Int):List Int:=(eV n).map (gw order r)
def fx (order b:List Int):List Int:=order.map (at0 b)
theorem pB {n i:Nat} (h:i<(eV n).length):(eV n)[i]=(i:Int):=by simp [eV]
theorem sl {b:List Int} {i:Nat} (h:i<(fx order b).length):(fx order b)[i]=at0 b (order[i]'(by simpa [fx] using h)):=by simp [fx]
theorem vg {r:List Int} {i:Nat} (h:i<(gJ n order r).length):(gJ n order r)[i]=gw order r (i:Int):=by simp [gJ,pB]
theorem nL {r:List Int} {v:Int} (v0:0≤v) (v1:v<(n:Int)):at0 (gJ n order r) v=gw order r v:=by
 unfold at0 gJ
 rw [kY (by rw [fS];omega),pB]
 congr 1;omega
theorem m3 (q:QFor ts n atoms order) {b:List Int} {v:Int} (v0:0≤v) (v1:v<(n:Int)):gw order (fx order b) v=at0 b v:=by
 obtain ⟨j,e1,hj,e2⟩:=fM (li q v0 v1)
 unfold gw fx
 rw [e1,Int.toNat_natCast,kY hj,e2]
theorem mT (q:QFor ts n atoms order) {r:List Int} (hr:r.length=n):fx order (gJ n order r)=r:=by
 have hol:=q.ol
 refine List.ext_getElem (by unfold fx;rw [List.length_map,hol,hr]) fun i h1 h2=>?_
 have hi:i<order.length:=by omega
 have hb:=(eZ q.os).2 _ (List.getElem_mem hi)
 rw [sl,nL hb.1 (by omega)]
 unfold gw
 rw [lb (mq q) hi,Int.toNat_natCast,bb h2]
theorem kz (q:QFor ts n atoms order) {b:List Int} (hb:b.length=n):gJ n order (fx order b)=b:=by
 refine List.ext_getElem (by unfold gJ;rw [List.length_map,fS,hb]) fun i h1 h2=>?_
 rw [vg,m3 q (by omega) (by omega)]
 unfold at0
 rw [Int.toNat_natCast,bb h2]
theorem kS {α β:Type} {f:α→β}:∀ {l:List α},l.Nodup→(∀ x∈l,∀ y∈l,f x=f y→x=y)→(l.map f).Nodup
 | [],_,_=>List.nodup_nil
 | x :: l,h,hf=>by
  obtain ⟨h1,h2⟩:=List.nodup_cons.1 h
  rw [List.map_cons,List.nodup_cons]
  refine ⟨fun hm=>?_,kS h2 fun y hy z hz=>hf y (List.mem_cons_of_mem _ hy) z (List.mem_cons_of_mem _ hz)⟩
  obtain ⟨y,hy,e⟩:=List.mem_map.1 hm
  have:=hf y (List.mem_cons_of_mem _ hy) x List.mem_cons_self e
  exact h1 (by rw [← this];exact hy)
theorem sL (q:QFor ts n atoms order) {r:List Int} (hr:r∈(c7 (fi ts order atoms) n []).1):gJ n order r∈l8V ts atoms (List.replicate n (-1)):=by
 obtain ⟨h1,h2⟩:=(lp q).1 hr
 exact (jT q).2 ⟨by unfold gJ;rw [List.length_map,fS],h2.congr q fun v v0 v1=>(nL v0 v1).symm⟩
theorem sF (q:QFor ts n atoms order) {b:List Int} (hb:b∈l8V ts atoms (List.replicate n (-1))):fx order b∈(c7 (fi ts order atoms) n []).1:=by
 obtain ⟨h1,h2⟩:=(jT q).1 hb
 exact (lp q).2 ⟨by unfold fx;rw [List.length_map,q.ol],h2.congr q fun v v0 v1=>(m3 q v0 v1).symm⟩
theorem od (q:QFor ts n atoms order) {S:aD} (hS:S.Nodup) (hm:∀ b,b∈S↔b∈l8V ts atoms (List.replicate n (-1))):S.length=(c7 (fi ts order atoms) n []).1.length:=by
 have hW:=jH (qd (rE q) q.n5).2.2
 refine Nat.le_antisymm ?_ ?_
 ·have h1:=kS (f:=fx order) hS fun x hx y hy e=>by
   have e1:=kz q ((jT q).1 ((hm x).1 hx)).1
   have e2:=kz q ((jT q).1 ((hm y).1 hy)).1
   rw [← e1,← e2,e]
  have:=jN _ _ h1 fun x hx=>by
   obtain ⟨b,hb,rfl⟩:=List.mem_map.1 hx
   exact sF q ((hm b).1 hb)
  rwa [List.length_map] at this
 ·have h1:=kS (f:=gJ n order) hW fun x hx y hy e=>by
   have e1:=mT q ((lp q).1 hx).1
   have e2:=mT q ((lp q).1 hy).1
   rw [← e1,← e2,e]
  have:=jN _ _ h1 fun x hx=>by
   obtain ⟨b,hb,rfl⟩:=List.mem_map.1 hx
   exact (hm _).2 (sL q hb)
  rwa [List.length_map] at this
end
end Go.Proofs.Ytnipkopfefkojaa
namespace Go.Proofs.Ytnipkopfefkojaa
open Go.RowKit

theorem lE {n:Int} {rows:aD} (h0:0≤n∧n≤5) (hl:rows.length≤1048576) (hf:∀ r∈rows,(r.length:Int)=n∧aZ r=true):dT n rows=bif decide ((bh 20 rows).length≤4000) then ((n,bh 20 rows),true) else gx:=by
 have hfit:g8 n rows=true:=by
  unfold g8
  rw [List.all_eq_true]
  intro r hr
  rw [Bool.and_eq_true,decide_eq_true_eq]
  exact hf r hr
 unfold dT
 rw [hfit,Bool.true_and]
 by_cases h:(bh 20 rows).length≤4000
 ·rw [decide_eq_true h,ld h0 h (fun r hr=>hf r ((di _ _ _).1 hr)) (fN 20 rows (by omega))]
 ·rw [decide_eq_false h]
  cases hv:bj n (bh 20 rows) with
  | false=>rfl
  | true=>exact absurd (bu hv).2.2.1 h
theorem tS {a b:aD} (ha:a.length≤1048576) (hb:b.length≤1048576) (h:∀ r,r∈a↔r∈b):bh 20 a=bh 20 b :=
 mg (fN 20 a (by omega)) (fN 20 b (by omega)) fun r=>by rw [di,di];exact h r
theorem sd {n:Int} {a b:aD} (h0:0≤n∧n≤5) (ha:a.length≤1048576) (hb:b.length≤1048576) (hf:∀ r∈a,(r.length:Int)=n∧aZ r=true) (h:∀ r,r∈a↔r∈b):dT n a=dT n b:=by
 rw [lE h0 ha hf,lE h0 hb (fun r hr=>hf r ((h r).2 hr)),tS ha hb h]
def eA (ts:List ba) (n:Int) (atoms:List aQ):aD:=l8V ts atoms (List.replicate n.toNat (-1))
def qS (ts:List ba) (n:Int) (atoms:List aQ) (out:List Int):Int × aD :=
 bif cC ts n atoms out then (bif decide ((bh 20 (eA ts n atoms)).length≤4000) then (n,bh 20 (eA ts n atoms)) else (0,[])) else (0,[])
def lr (ts:List ba) (n:Int) (atoms:List aQ) (out:List Int):(Int × aD) × Bool :=
 bif cC ts n atoms out&&decide ((bh 20 (eA ts n atoms)).length≤4000) then fZ n (bh 20 (eA ts n atoms)) out else gx
theorem vK {ts:List ba} {n:Int} {atoms:List aQ} {out:List Int} (h:cC ts n atoms out=true):∃ m:Nat,n=(m:Int)∧QFor ts m atoms (eV m):=by
 have hq:=h
 unfold cC at hq
 rw [Bool.and_eq_true] at hq
 obtain ⟨n1,n5,_,_⟩:=lx hq.1
 obtain ⟨m,e,q⟩:=sU h (order:=eV n.toNat) (by rw [fS];omega) (by have:=ri n.toNat;rwa [show ((n.toNat:Nat):Int)=n by omega] at this)
 subst e
 exact ⟨m,rfl,q⟩
theorem nq {ts:List ba} {n:Nat} {atoms:List aQ} {order:List Int} (q:QFor ts n atoms order) {b:List Int} (hb:b∈eA ts n atoms):(b.length:Int)=n∧aZ b=true:=by
 obtain ⟨h1,h2⟩:=(jT q).1 hb
 refine ⟨by omega,?_⟩
 unfold aZ
 rw [List.all_eq_true]
 intro y hy
 obtain ⟨i,hi,rfl⟩:=List.getElem_of_mem hy
 have:=pY q h2 (v:=(i:Int)) (by omega) (by omega)
 unfold at0 at this
 rw [Int.toNat_natCast,bb hi] at this
 exact cJ.2 this
theorem ko {ts:List ba} {n:Nat} {atoms:List aQ} {order:List Int} (q:QFor ts n atoms order):(eA ts n atoms).length≤65536:=by
 have h:=rH (ts:=ts) (l:=atoms) (row:=List.replicate n (-1)) (mn q)
 have h4:=q.a4
 have:16 ^ atoms.length≤16 ^ 4:=Nat.pow_le_pow_right (by decide) h4
 exact Nat.le_trans h this
section
variable {N:Nat}
theorem ug {ts:List ba} {n idx arity:Int} {atoms:List aQ} {out row0:List Int} {acc rel:aD} {i a:Nat} {rec:(List (ByteArray × (Int × List (List Int))))→Int→(List (ByteArray × List Int))→(List Int)→Int→(List Int)→Option (List (List Int))} (hi:i<rel.length) (ha:a<atoms.length) (hid:idx=(a:Int)) (har:arity=(atoms[a].2.length:Int)) (hl:rel[i].length=atoms[a].2.length) (h5:atoms[a].2.length≤1000) :
  ∀ (m k f:Nat) (row:List Int),k+m=atoms[a].2.length→m+1<f→(∀ v∈atoms[a].2,0≤v∧v<(row.length:Int)) →
  (∀ row',hY atoms[a].2 rel[i] m k row=some row'→dF rec N f idx row0 ts n atoms out acc arity rel (i:Int) row true (k:Int)=some (row',true,arity)) ∧
  (hY atoms[a].2 rel[i] m k row=none→∃ r j,dF rec N f idx row0 ts n atoms out acc arity rel (i:Int) row true (k:Int)=some (r,false,j)):=by
 intro m
 induction m with
 | zero =>
  intro k f row hk hf _
  obtain ⟨f,rfl⟩:∃ g,f=g+1:=⟨f-1,by omega⟩
  refine ⟨fun row' h=>?_,fun h=>by unfold hY at h;cases h⟩
  unfold hY at h
  obtain rfl:=Option.some.inj h
  rw [dF,decide_eq_false (by omega),cond_false,show (k:Int)=arity by omega]
 | succ m ih =>
  intro k f row hk hf hb
  obtain ⟨f,rfl⟩:∃ g,f=g+1:=⟨f-1,by omega⟩
  have hkv:k<atoms[a].2.length:=by omega
  have hkt:k<rel[i].length:=by omega
  obtain ⟨hv0,hv1⟩:=hb _ (List.getElem_mem hkv)
  have hb':∀ x,∀ v∈atoms[a].2,0≤v∧v<((row.set (atoms[a].2[k]).toNat x).length:Int):=fun x v hv=>by rw [List.length_set];exact hb v hv
  have eo:row[(atoms[a].2[k]).toNat]'(by omega)=at0 row atoms[a].2[k]:=by unfold at0;rw [bb]
  rw [dF,decide_eq_true (show (k:Int)<arity by omega),cond_true,cond_true,hid,aT ha,bs,aT hkv,bs,gZ hv0 hv1,bs,eo]
  have ih':=ih (k+1) f (row.set (atoms[a].2[k]).toNat rel[i][k]) (by omega) (by omega) (hb' _)
  rw [hid] at ih'
  unfold hY
  rw [bb hkv,bb hkt]
  by_cases h1:at0 row atoms[a].2[k]=-1
  ·rw [show (at0 row atoms[a].2[k] == -1)=true by rw [h1];rfl,cond_true,aT hi,bs,aT hkt,bs,bs,lO hv0 hv1,bs,ad1 (by omega),bs,if_pos (.inl h1)]
   exact ih'
  ·rw [show (at0 row atoms[a].2[k] == -1)=false by simpa using h1,cond_false,bs,aT hi,bs,aT hkt,bs,bs,aT hkt,bs,bs,lO hv0 hv1,bs,ad1 (by omega),bs]
   by_cases h2:at0 row atoms[a].2[k]=rel[i][k]
   ·rw [show (at0 row atoms[a].2[k] == rel[i][k])=true by simpa using h2,if_pos (.inr h2)]
    exact ih'
   ·rw [show (at0 row atoms[a].2[k] == rel[i][k])=false by simpa using h2,if_neg (fun h=>by rcases h with h | h;exact h1 h;exact h2 h)]
    refine ⟨fun row' h=>(by cases h),fun _=>?_⟩
    obtain ⟨f,rfl⟩:∃ g,f=g+1:=⟨f-1,by omega⟩
    rw [dF]
    by_cases hlt:((k+1:Nat):Int)<arity
    ·rw [decide_eq_true hlt,cond_true,cond_false];exact ⟨_,_,rfl⟩
    ·rw [decide_eq_false hlt,cond_false];exact ⟨_,_,rfl⟩
def mQ (ts:List ba) (l:List aQ) (vs row t:List Int):aD:=match hY vs t vs.length 0 row with | some row'=>l8V ts l row' | none=>[]
theorem v5 {ts:List ba} {atoms:List aQ} {a:Nat} (h:a<atoms.length) {row:List Int}:l8V ts (atoms.drop a) row=(dw ts atoms[a]).flatMap (mQ ts (atoms.drop (a+1)) atoms[a].2 row):=by
 rw [List.drop_eq_getElem_cons h,l8V];rfl
theorem uX {M:Nat} (hM:1073741825≤M) {ts:List ba} {n:Nat} {atoms:List aQ} {order out:List Int} (q:QFor ts n atoms order) {a:Nat} (hal:a<atoms.length) {row:List Int} (hr:row.length=n)
  {rec:(List (ByteArray × (Int × List (List Int))))→Int→(List (ByteArray × List Int))→(List Int)→Int→(List Int)→Option (List (List Int))} (hrec:∀ row':List Int,row'.length=n→rec ts (n:Int) atoms out ((a+1:Nat):Int) row'=some (l8V ts (atoms.drop (a+1)) row')) {arity:Int} (har:arity=(atoms[a].2.length:Int)) :
  ∀ (d i k:Nat),i+d=(dw ts atoms[a]).length→d<k→eR rec M k (a:Int) row ts (n:Int) atoms out (((dw ts atoms[a]).take i).flatMap (mQ ts (atoms.drop (a+1)) atoms[a].2 row)) arity (dw ts atoms[a]) (i:Int)=some (l8V ts (atoms.drop a) row,((dw ts atoms[a]).length:Int)):=by
 have hm:=List.getElem_mem hal
 have h5:=q.n5
 have h4:=q.a4
 obtain ⟨hl5,hl1,hv⟩:=q.al _ hm
 have h16:(dw ts atoms[a]).length≤16:=mn q _ hm
 have hrest:∀ row',(l8V ts (atoms.drop (a+1)) row').length≤65536:=fun row'=>by
  have h:=rH (ts:=ts) (l:=atoms.drop (a+1)) (row:=row') fun a' h'=>mn q a' (List.mem_of_mem_drop h')
  have:16 ^ (atoms.drop (a+1)).length≤16 ^ 4:=Nat.pow_le_pow_right (by decide) (by rw [List.length_drop];omega)
  exact Nat.le_trans h this
 have hput:∀ t,(mQ ts (atoms.drop (a+1)) atoms[a].2 row t).length≤65536:=fun t=>by
  unfold mQ
  cases hY atoms[a].2 t atoms[a].2.length 0 row with
  | none=>exact Nat.zero_le _
  | some row'=>exact hrest row'
 have e1:ad (a:Int) 1=some ((a+1:Nat):Int):=ad1 (by omega)
 intro d
 induction d with
 | zero =>
  intro i k hi hk
  obtain ⟨k,rfl⟩:∃ g,k=g+1:=⟨k-1,by omega⟩
  rw [eR,dge (by omega),cond_false,show i=(dw ts atoms[a]).length by omega,List.take_length,v5 hal]
 | succ d ih =>
  intro i k hi hk
  obtain ⟨k,rfl⟩:∃ g,k=g+1:=⟨k-1,by omega⟩
  have hil:i<(dw ts atoms[a]).length:=by omega
  have hacc:=kn hput ((dw ts atoms[a]).take i)
  rw [List.length_take] at hacc
  have hrow:=(jl q hm (List.getElem_mem hil)).1
  have ih':=ih (i+1) k (by omega) (by omega)
  rw [List.take_succ_eq_append_getElem hil,List.flatMap_append,List.flatMap_cons,List.flatMap_nil,List.append_nil] at ih'
  obtain ⟨w1,w2⟩:=ug (N:=M) (ts:=ts) (n:=(n:Int)) (out:=out) (row0:=row) (acc:=((dw ts atoms[a]).take i).flatMap (mQ ts (atoms.drop (a+1)) atoms[a].2 row)) (rec:=rec) hil hal rfl har hrow (by omega) atoms[a].2.length 0 M row (by omega) (by omega) (fun v h=>by rw [hr];exact hv v h)
  rw [eR,dlt hil,cond_true,bt (by decide) (by simp;omega),bs,List.nil_append]
  cases he:hY atoms[a].2 (dw ts atoms[a])[i] atoms[a].2.length 0 row with
  | some row' =>
   have w1':=w1 row' he
   rw [show ((0:Nat):Int)=0 from rfl] at w1'
   have hs:=qk hrow (qN (jl q hm (List.getElem_mem hil)).2) atoms[a].2.length 0 row (by omega) (fun v h=>by rw [hr];exact hv v h)
   rw [he] at hs
   have hlen:row'.length=n:=by rw [hs.1,hr]
   have ep:mQ ts (atoms.drop (a+1)) atoms[a].2 row (dw ts atoms[a])[i]=l8V ts (atoms.drop (a+1)) row':=by unfold mQ;rw [he]
   rw [ep] at ih'
   rw [w1',bs,lpB]
   show (bif true then _ else _)=_
   rw [cond_true,e1,bs,hrec row' hlen,bs,bt (by decide) (by have:=hrest row';have:min i (dw ts atoms[a]).length*65536≤16*65536:=Nat.mul_le_mul_right _ (by omega);omega),bs,ad1 (by omega),bs,ih']
  | none =>
   obtain ⟨r,j,w2'⟩:=w2 he
   rw [show ((0:Nat):Int)=0 from rfl] at w2'
   have ep:mQ ts (atoms.drop (a+1)) atoms[a].2 row (dw ts atoms[a])[i]=[]:=by unfold mQ;rw [he]
   rw [ep,List.append_nil] at ih'
   rw [w2',bs,lpB]
   show (bif false then _ else _)=_
   rw [cond_false,ad1 (by omega),bs,ih']
theorem tR (hN:1073741824≤N) {ts:List ba} {n:Nat} {atoms:List aQ} {order out:List Int} (q:QFor ts n atoms order) (ht:gK ts):∀ (d a M:Nat),a+d=atoms.length→1073741826+d≤M→∀ row:List Int,row.length=n→dY M ts (n:Int) atoms out (a:Int) row=some (l8V ts (atoms.drop a) row):=by
 intro d
 induction d with
 | zero =>
  intro a M ha hM row hr
  obtain ⟨M,rfl⟩:∃ M',M=M'+1:=⟨M-1,by omega⟩
  have h5:=q.n5
  rw [dY,show ((a:Int) == (atoms.length:Int))=true by simp;omega,cond_true,bt (by decide) (by simp;omega),bs,List.drop_of_length_le (by omega)]
  rfl
 | succ d ih =>
  intro a M ha hM row hr
  obtain ⟨M,rfl⟩:∃ M',M=M'+1:=⟨M-1,by omega⟩
  have hal:a<atoms.length:=by omega
  obtain ⟨hf1,hf2⟩:=q.af _ (List.getElem_mem hal)
  have hL:=uX (M:=M) (by omega) (out:=out) q hal hr (rec:=dY M) (fun row' h=>ih (a+1) M (by omega) (by omega) row' h) hf2 (dw ts atoms[a]).length 0 M (by omega) (by have:=mn q _ (List.getElem_mem hal);omega)
  rw [List.take_zero,List.flatMap_nil,show ((0:Nat):Int)=0 from rfl] at hL
  unfold dw at hL
  rw [dY,show ((a:Int) == (atoms.length:Int))=false by simp;omega,cond_false,aT hal,bs,gp (N:=M) (by omega) ht,bs,hL,bs,lpB]
theorem tI (m:Nat) {ts:List ba} {atoms:List aQ} {out:List Int} (hN:1073741824≤N) (hm:m≤1000):dl N N ts (m:Int) atoms out 0 [] []=some (List.replicate m (-1)):=by
 have key:∀ (d k j:Nat),j+d=m→d<k→dl N k ts (m:Int) atoms out 0 [] (List.replicate j (-1))=some (List.replicate m (-1)):=by
  intro d
  induction d with
  | zero =>
   intro k j hj hk
   obtain ⟨k,rfl⟩:∃ g,k=g+1:=⟨k-1,by omega⟩
   rw [dl,List.length_replicate,dge (by omega),cond_false,show j=m by omega]
  | succ d ih =>
   intro k j hj hk
   obtain ⟨k,rfl⟩:∃ g,k=g+1:=⟨k-1,by omega⟩
   rw [dl,List.length_replicate,dlt (by omega),cond_true,bt (by decide) (by simp;omega),bs,← List.replicate_succ']
   exact ih k (j+1) (by omega) (by omega)
 exact key m N 0 (by omega) (by omega)
theorem lQ (hM:1073742848≤N) {ts:List ba} {n:Int} {atoms:List aQ} {out:List Int} (ht:gK ts) (ha:du atoms) (ho:okI out):eQ N ts n atoms out=some (qS ts n atoms out):=by
 have hN:1073741824≤N:=by omega
 unfold eQ qS
 rw [iH hN ht ha ho,bs]
 cases h:cC ts n atoms out with
 | false=>rfl
 | true =>
  obtain ⟨m,rfl,q⟩:=vK h
  have h5:=q.n5
  have hL:=tI (N:=N) m (ts:=ts) (atoms:=atoms) (out:=out) hN (by omega)
  rw [cond_true,cond_true,hL,bs]
  unfold lpB
  dsimp only
  have hw:=tR hN (out:=out) q ht atoms.length 0 N (by omega) (by have:=q.a4;omega) (List.replicate m (-1)) (by simp)
  have hw':dY N ts (m:Int) atoms out 0 (List.replicate m (-1))=some (eA ts m atoms):=hw
  have hbl:=ko q
  have hrow:=fun b hb=>nq q (b:=b) hb
  rw [hw',bs,eJ hM ⟨by omega,fun r hr=>⟨by have:=(hrow r hr).1;omega,fun _ _=>trivial⟩⟩,bs,lE (by omega) (by omega) hrow]
  cases decide ((bh 20 (eA ts (m:Int) atoms)).length≤4000) <;> rfl
theorem oz (hM:1073742848≤N) {ts:List ba} {n:Int} {atoms:List aQ} {out:List Int} (ht:gK ts) (ha:du atoms) (ho:okI out):ff N ts n atoms out=some (lr ts n atoms out):=by
 have hN:1073741824≤N:=by omega
 unfold ff lr
 rw [lQ hM ht ha ho,bs,iH hN ht ha ho,bs]
 unfold qS
 cases h:cC ts n atoms out with
 | false=>rfl
 | true =>
  obtain ⟨m,rfl,q⟩:=vK h
  have h5:=q.n5
  have h1:=q.n1
  rw [cond_true,cond_true,Bool.true_and]
  cases hk:decide ((bh 20 (eA ts (m:Int) atoms)).length≤4000) with
  | false =>
   rw [cond_false,cond_false,show (((0:Int),([]:aD)).1 != (m:Int))=true by simp;omega,cond_true];rfl
  | true =>
   have hbl:=ko q
   have hok:dB (bh 20 (eA ts (m:Int) atoms)):=kO 20 ⟨by omega,fun r hr=>⟨by have:=(nq q hr).1;omega,fun _ _=>trivial⟩⟩
   rw [cond_true,cond_true]
   dsimp only
   rw [bne_self_eq_false,cond_false,lw hM hok ho.1 (by omega),bs]
end
end Go.Proofs.Ytnipkopfefkojaa
namespace Go.Proofs.Ytnipkopfefkojaa
open Go.RowKit

section
variable {ts:List ba} {n:Int} {atoms:List aQ} {out order:List Int}
theorem pP {m:Nat} (q:QFor ts m atoms order) (hq:cC ts (m:Int) atoms out=true) (hl:(c7 (fi ts order atoms) m []).1.length≤4000) :
  qS ts (m:Int) atoms out=((m:Int),bh 20 (eA ts (m:Int) atoms))∧(bh 20 (eA ts (m:Int) atoms)).length=(c7 (fi ts order atoms) m []).1.length∧bj (m:Int) (bh 20 (eA ts (m:Int) atoms))=true:=by
 have hbl:=ko q
 have ha:=fN 20 (eA ts (m:Int) atoms) (by omega)
 have hlen:=od q (jH ha) fun b=>di 20 _ b
 have h5:=q.n5
 refine ⟨?_,hlen,ld (by omega) (by omega) (fun r hr=>nq q ((di _ _ _).1 hr)) ha⟩
 unfold qS
 rw [hq,cond_true,decide_eq_true (by omega),cond_true]
theorem vF {m:Nat} (q:QFor ts m atoms order) {r:List Int} (hr:r∈(c7 (fi ts order atoms) m []).1):gJ m order r∈bh 20 (eA ts (m:Int) atoms):=(di _ _ _).2 (sL q hr)
theorem vG (h:cC ts n atoms out=true):out.length≤5∧∀ v∈out,0≤v∧v≤n-1:=by
 unfold cC at h
 rw [Bool.and_eq_true] at h
 obtain ⟨n1,n5,_,_⟩:=lx h.1
 have hq:=h.1
 unfold fu at hq
 simp only [Bool.and_eq_true] at hq
 obtain ⟨h1,h2⟩:=eZ hq.1.1.2
 refine ⟨?_,h2⟩
 have:=g9 n.toNat out h1 (fun x hx=>by have:=h2 x hx;omega)
 omega
theorem ve {m:Nat} (q:QFor ts m atoms order) (hq:cC ts (m:Int) atoms out=true) (hl:(c7 (fi ts order atoms) m []).1.length≤4000) :
  fZ (m:Int) (c7 (fi ts order atoms) m []).1 (fQ out order)=lr ts (m:Int) atoms out∧(fZ (m:Int) (c7 (fi ts order atoms) m []).1 (fQ out order)).2=true:=by
 obtain ⟨a1,a2,a3⟩:=pP q hq hl
 obtain ⟨o1,o2⟩:=vG hq
 have h5:=q.n5
 obtain ⟨w1,w2,w3⟩:=qd (rE q) q.n5
 have hvW:bj (m:Int) (c7 (fi ts order atoms) m []).1=true:=ld (by omega) hl (fun r hr=>by have:=w2 r hr;exact ⟨by omega,this.2⟩) w3
 have c1:ee (m:Int) out=true:=by
  unfold ee
  rw [List.all_eq_true]
  intro c hc
  exact cJ.2 (o2 c hc)
 have c2:ee (m:Int) (fQ out order)=true:=by
  unfold ee fQ
  rw [List.all_eq_true]
  intro c hc
  obtain ⟨v,hv,rfl⟩:=List.mem_map.1 hc
  have:=o2 v hv
  obtain ⟨j,e1,hj,_⟩:=fM (li q this.1 (by omega))
  have:=q.ol
  exact cJ.2 (by omega)
 have pk1:∀ r:List Int,bI r (fQ out order)=out.map (gw order r):=fun r=>by
  unfold bI fQ
  rw [List.map_map];rfl
 have pk2:∀ b:List Int,bI b out=out.map (at0 b):=fun b=>rfl
 have pk3:∀ r:List Int,out.map (gw order r)=out.map (at0 (gJ m order r)):=fun r=>List.map_congr_left fun v hv=>by
  have:=o2 v hv
  exact (nL this.1 (by omega)).symm
 have hl2:(fQ out order).length=out.length:=by unfold fQ;rw [List.length_map]
 have hval:∀ b∈bh 20 (eA ts (m:Int) atoms),aZ (out.map (at0 b))=true:=fun b hb=>by
  obtain ⟨_,h2⟩:=(jT q).1 ((di _ _ _).1 hb)
  unfold aZ
  rw [List.all_eq_true]
  intro y hy
  obtain ⟨v,hv,rfl⟩:=List.mem_map.1 hy
  have:=o2 v hv
  exact cJ.2 (pY q h2 this.1 (by omega))
 have hmem:∀ x,x∈(c7 (fi ts order atoms) m []).1.map (fun r=>bI r (fQ out order))↔x∈(bh 20 (eA ts (m:Int) atoms)).map (fun r=>bI r out):=fun x=>by
  rw [List.mem_map,List.mem_map]
  constructor
  ·rintro ⟨r,hr,rfl⟩
   exact ⟨_,vF q hr,by rw [pk1,pk2,pk3]⟩
  ·rintro ⟨b,hb,rfl⟩
   have hb':=(di _ _ _).1 hb
   refine ⟨_,sF q hb',?_⟩
   rw [pk1,pk3,kz q ((jT q).1 hb').1,pk2]
 have hs:=a2
 have hfit:∀ x∈(c7 (fi ts order atoms) m []).1.map (fun r=>bI r (fQ out order)),(x.length:Int)=(out.length:Int)∧aZ x=true:=fun x hx=>by
  obtain ⟨b,hb,rfl⟩:=List.mem_map.1 ((hmem x).1 hx)
  rw [pk2]
  exact ⟨by rw [List.length_map],hval b hb⟩
 have e:=sd (n:=(out.length:Int)) (a:=(c7 (fi ts order atoms) m []).1.map (fun r=>bI r (fQ out order))) (b:=(bh 20 (eA ts (m:Int) atoms)).map (fun r=>bI r out)) (by omega) (by rw [List.length_map];omega) (by rw [List.length_map];omega) hfit hmem
 have e1:fZ (m:Int) (c7 (fi ts order atoms) m []).1 (fQ out order)=dT (out.length:Int) ((c7 (fi ts order atoms) m []).1.map (fun r=>bI r (fQ out order))):=by
  unfold fZ
  rw [hvW,hl2,decide_eq_true (by omega),c2];rfl
 have e2:lr ts (m:Int) atoms out=dT (out.length:Int) ((bh 20 (eA ts (m:Int) atoms)).map (fun r=>bI r out)):=by
  unfold lr fZ
  rw [hq,decide_eq_true (by omega),a3,decide_eq_true (by omega),c1];rfl
 refine ⟨by rw [e1,e2,e],?_⟩
 rw [e1,gH (by omega) (by rw [List.length_map];exact hl) hfit]
end
end Go.Proofs.Ytnipkopfefkojaa
namespace Go.Proofs.Ytnipkopfefkojaa
open Go.RowKit

section
variable {ts:List ba}
def o8 (ts:List ba) (vs:List Int) (rows:aD) (ats:List aQ):Prop:=∀ f:Int→Int,vs.map f∈rows↔ii ts ats f
theorem qL {vs x:List Int} {f:Int→Int} (hl:x.length=vs.length):(dr vs x=true∧∀ v∈vs,f v=x.getD (aY vs v).toNat 0)↔vs.map f=x:=by
 constructor
 ·rintro ⟨hf,e⟩
  refine List.ext_getElem (by rw [List.length_map,hl]) fun i h1 h2=>?_
  have hi:i<vs.length:=by rw [← hl];exact h2
  rw [List.getElem_map,e _ (List.getElem_mem hi),pn hf hi,bb h2]
 ·rintro rfl
  have key:∀ v∈vs,(vs.map f).getD (aY vs v).toNat 0=f v:=fun v hm=>by
   obtain ⟨j,e1,hj,e2⟩:=fM hm
   rw [e1,Int.toNat_natCast,kY hj,e2]
  exact ⟨oQ fun i hi=>by rw [key _ (List.getElem_mem hi),kY hi],fun v hm=>(key v hm).symm⟩
theorem qj {n:Nat} {atoms:List aQ} {order:List Int} (q:QFor ts n atoms order) {a:aQ} (ha:a∈atoms):o8 ts (aR a.2) (bX ts a) [a]:=fun f=>by
 have hb:∀ v,v∈aR a.2↔v∈a.2:=fun v=>by
  rw [dS]
  have h5:=q.n5
  exact ⟨fun h=>h.2,fun h=>⟨by have:=(q.al a ha).2.2 v h;omega,h⟩⟩
 have h1:ii ts [a] f↔a.2.map f∈dw ts a:=⟨fun h=>h a List.mem_cons_self,fun h x hx=>by rw [List.mem_singleton] at hx;rw [hx];exact h⟩
 rw [h1]
 unfold bX bB
 rw [di,List.mem_map]
 constructor
 ·rintro ⟨x,hx,e⟩
  rw [List.mem_filter] at hx
  have hl:=(jl q ha hx.1).1
  unfold cR at e
  rw [List.map_inj_left] at e
  have:=(qL hl).1 ⟨hx.2,fun v hv=>(e v ((hb v).2 hv)).symm⟩
  rw [this];exact hx.1
 ·intro hx
  have hl:(a.2.map f).length=a.2.length:=List.length_map _
  obtain ⟨h2,h3⟩:=(qL hl).2 rfl
  exact ⟨_,List.mem_filter.2 ⟨hx,h2⟩,List.map_congr_left fun v hv=>(h3 v ((hb v).1 hv)).symm⟩
theorem rc {u vs:List Int} {f:Int→Int} (h:∀ v∈vs,v∈u):nY u vs (u.map f)=vs.map f:=by
 unfold nY
 refine List.map_congr_left fun v hv=>?_
 obtain ⟨j,e1,hj,e2⟩:=fM (h v hv)
 rw [e1,Int.toNat_natCast,kY hj,e2]
theorem uY {va vb:List Int} {ra rb:aD} (A:VRel va ra) (B:VRel vb rb) (f:Int→Int):(aX va vb).map f∈cm va vb ra rb↔va.map f∈ra∧vb.map f∈rb:=by
 have ua:∀ v∈va,v∈aX va vb:=fun v h=>eB.2 ⟨A.bd v h,.inl h⟩
 have ub:∀ v∈vb,v∈aX va vb:=fun v h=>eB.2 ⟨B.bd v h,.inr h⟩
 unfold cm
 rw [List.mem_flatMap]
 constructor
 ·rintro ⟨r,hr,h⟩
  unfold fW at h
  obtain ⟨s,hs,e⟩:=List.mem_map.1 h
  rw [List.mem_filter] at hs
  have e1:=nv (va:=va) (r:=r) (vb:=vb) (s:=s) (ju A.asc) A.bd (A.row hr).1
  have e2:=ma (va:=va) (r:=r) (vb:=vb) (s:=s) (ju B.asc) B.bd (B.row hs.1).1 hs.2
  rw [e,rc ua] at e1
  rw [e,rc ub] at e2
  rw [e1,e2];exact ⟨hr,hs.1⟩
 ·rintro ⟨h1,h2⟩
  refine ⟨_,h1,?_⟩
  unfold fW
  have hva:∀ v∈va,(va.map f).getD (aY va v).toNat 0=f v:=fun v hm=>by
   obtain ⟨j,e1,hj,e2⟩:=fM hm
   rw [e1,Int.toNat_natCast,kY hj,e2]
  have hvb:∀ v∈vb,(vb.map f).getD (aY vb v).toNat 0=f v:=fun v hm=>by
   obtain ⟨j,e1,hj,e2⟩:=fM hm
   rw [e1,Int.toNat_natCast,kY hj,e2]
  refine List.mem_map.2 ⟨_,List.mem_filter.2 ⟨h2,?_⟩,?_⟩
  ·unfold gd
   rw [List.all_eq_true]
   intro v _
   unfold me
   by_cases h3:v∈va
   ·by_cases h4:v∈vb
    ·rw [hva v h3,hvb v h4,decide_eq_true (rfl:f v=f v),Bool.or_true]
    ·rw [decide_eq_false h4,Bool.and_false];rfl
   ·rw [decide_eq_false h3,Bool.false_and];rfl
  ·unfold fJ
   refine List.map_congr_left fun v hv=>?_
   unfold f5
   split
   ·rename_i h3;exact hva v h3
   ·rename_i h3
    rcases (eB.1 hv).2 with h4 | h4
    ·exact absurd h4 h3
    ·exact hvb v h4
theorem vd {l m:List aQ} {f:Int→Int}:ii ts (l++m) f↔ii ts l f∧ii ts m f:=by
 unfold ii
 constructor
 ·intro h;exact ⟨fun a ha=>h a (List.mem_append_left _ ha),fun a ha=>h a (List.mem_append_right _ ha)⟩
 ·rintro ⟨h1,h2⟩ a ha
  rcases List.mem_append.1 ha with h | h
  ·exact h1 a h
  ·exact h2 a h
theorem sW {n:Nat} {atoms:List aQ} {order:List Int} (q:QFor ts n atoms order) (p:QPair ts atoms):∀ {ats:List aQ} {vs:List Int} {rows:aD} {c:Int} {w:List Int × aD × Int} {pre:List aQ},(∀ a∈ats,a∈atoms)→VRel vs rows→o8 ts vs rows pre→(rows.length:Int)≤c→pjV ts ats vs rows c=some w →
  VRel w.1 w.2.1∧o8 ts w.1 w.2.1 (pre++ats)∧(w.2.1.length:Int)≤w.2.2∧∀ v,v∈w.1↔v∈vs∨∃ a∈ats,v∈a.2
 | [],vs,rows,c,w,pre,_,A,hr,hc,h=>by
  cases h
  exact ⟨A,by rw [List.append_nil];exact hr,hc,fun v=>by simp⟩
 | a :: ats,vs,rows,c,w,pre,hs,A,hr,hc,h=>by
  have ha:=hs a List.mem_cons_self
  obtain ⟨_,B,_⟩:=p.rel a ha
  rw [pjV] at h
  by_cases e:((cm vs (aR a.2) rows (bX ts a)).length:Int)≤4000
  ·rw [decide_eq_true e,cond_true] at h
   have hr2:o8 ts (aX vs (aR a.2)) (bh 20 (cm vs (aR a.2) rows (bX ts a))) (pre++[a]):=fun f=>by
    rw [di,uY A B,vd,hr f,qj q ha f]
   obtain ⟨h1,h2,h3,h4⟩:=sW q p (fun x hx=>hs x (List.mem_cons_of_mem _ hx)) (mO A B (by omega)) hr2 (by omega) h
   refine ⟨h1,by rw [List.append_assoc] at h2;exact h2,h3,fun v=>?_⟩
   rw [h4,eB,dS]
   constructor
   ·rintro (⟨_,h5 | h5⟩ | ⟨b,hb,h5⟩)
    ·exact .inl h5
    ·exact .inr ⟨a,List.mem_cons_self,h5.2⟩
    ·exact .inr ⟨b,List.mem_cons_of_mem _ hb,h5⟩
   ·rintro (h5 | ⟨b,hb,h5⟩)
    ·exact .inl ⟨A.bd v h5,.inl h5⟩
    ·rcases List.mem_cons.1 hb with rfl | hb
     ·have:=(p.al _ ha).2 v h5
      exact .inl ⟨this,.inr ⟨this,h5⟩⟩
     ·exact .inr ⟨b,hb,h5⟩
  ·rw [decide_eq_false e,cond_false] at h;cases h
theorem uS {n:Int} {atoms:List aQ} {out:List Int} (hq:cC ts n atoms out=true) {w:List Int × aD × Int} (h:pjV ts (atoms.drop 1) (aR (bH atoms).2) (bX ts (bH atoms)) ((bX ts (bH atoms)).length:Int)=some w) :
  ∃ m:Nat,n=(m:Int)∧QFor ts m atoms (eV m)∧w.1=eV m∧w.2.1=bh 20 (eA ts (m:Int) atoms)∧(w.2.1.length:Int)≤w.2.2∧w.2.1.length≤4000:=by
 obtain ⟨m,rfl,q⟩:=vK hq
 have p:=mb hq
 have a1:=p.a1
 have hm:bH atoms∈atoms:=by unfold bH;simp [show 0<atoms.length by omega]
 have hsplit:[bH atoms]++atoms.drop 1=atoms:=by
  cases atoms with
  | nil=>simp at a1
  | cons a l=>simp [bH]
 obtain ⟨h1,h2,h3,h4⟩:=sW q p (fun a ha=>List.mem_of_mem_drop ha) (p.rel _ hm).2.1 (qj q hm) (Int.le_refl _) h
 rw [hsplit] at h2
 have h5:=q.n5
 have e1:w.1=eV m:=lg h1.asc (oA m) fun v=>by
  rw [h4,dS,l9]
  constructor
  ·rintro (⟨_,h6⟩ | ⟨a,ha,h6⟩)
   ·exact (q.al _ hm).2.2 v h6
   ·exact (q.al a (List.mem_of_mem_drop ha)).2.2 v h6
  ·rintro ⟨h6,h7⟩
   obtain ⟨a,ha,h8⟩:=q.cov v h6 h7
   rw [← hsplit] at ha
   rcases List.mem_append.1 ha with h9 | h9
   ·rw [List.mem_singleton] at h9;rw [h9] at h8
    exact .inl ⟨by omega,h8⟩
   ·exact .inr ⟨a,h9,h8⟩
 have hbl:=ko q
 refine ⟨m,rfl,q,e1,mg (iK h1.val) (fN 20 _ (by omega)) fun r=>?_,h3,(bu h1.val).2.2.1⟩
 rw [di]
 have hr:∀ r:List Int,r.length=m→(eV m).map (at0 r)=r:=fun r hr=>by
  refine List.ext_getElem (by rw [List.length_map,fS,hr]) fun i i1 i2=>?_
  rw [List.getElem_map,pB]
  unfold at0
  rw [Int.toNat_natCast,bb i2]
 rw [e1] at h2
 constructor
 ·intro hrw
  have hl:=(h1.row hrw).1
  rw [e1,fS] at hl
  refine (jT q).2 ⟨hl,(h2 (at0 r)).1 ?_⟩
  rw [hr r hl];exact hrw
 ·intro hb
  obtain ⟨hl,hB⟩:=(jT q).1 hb
  have:=(h2 (at0 r)).2 hB
  rwa [hr r hl] at this
end
end Go.Proofs.Ytnipkopfefkojaa
namespace Go.Proofs.Ytnipkopfefkojaa
open Go.RowKit

section
variable {N:Nat}
theorem lZ (hM:1073742848≤N) {a:List Int} (ha:eu a):∃ ts r,d8 N a=some (ts,r)∧DSm ts∧QSm r:=by
 obtain ⟨h,e⟩:=tw (N:=N) (by omega) ha
 obtain ⟨ts,r,q,g,e2,_,ht,hr⟩:=sc hM ha (h:=h) yf
 unfold d8
 rw [e,bs]
 dsimp only
 rw [e2,bs]
 exact ⟨_,_,rfl,ht,hr⟩
end
end Go.Proofs.Ytnipkopfefkojaa
namespace Go.Proofs.Ytnipkopfefkojaa
open Go.RowKit
theorem nk {N:Nat} (hM:1073742848≤N) {x0:List Int} (_:(lc (fun _=>True) 9223372036854775807) x0) (g0:∀ v∈x0,0≤v∧v≤255):fY N x0=some true:=by
 have hN:1073741824≤N:=by omega
 unfold fY mE
 rw [bs]
 by_cases hb:(1048576:Int)<(x0.length:Int)
 ·rw [decide_eq_true hb];rfl
 ·rw [decide_eq_false hb,cond_false]
  have hc:eu x0:=⟨by omega,fun v hv=>g0 v hv⟩
  obtain ⟨ts,⟨n,ats,out⟩,e1,hd,hq⟩:=lZ hM hc
  have d1:=hd.ok;have d2:=hq.atoms;have d3:=hq.out
  rw [e1,bs]
  dsimp only at d2 d3 ⊢
  rw [mi hM d1 d2 d3,bs,mA hM d1 d2 d3,bs]
  rw [bne_self_eq_false,cond_false,bne_self_eq_false,cond_false,oz hM d1 d2 d3,bs]
  have hpo:=v7 (ts:=ts) (n:=n) (atoms:=ats) d3
  unfold mf at hpo ⊢
  cases hf:cC ts n ats out with
  | false=>rfl
  | true =>
   rw [hf,cond_true] at hpo
   rw [cond_true]
   cases hp:pjV ts (ats.drop 1) (aR (bH ats).2) (bX ts (bH ats)) ((bX ts (bH ats)).length:Int) with
   | none=>rfl
   | some w =>
    rw [hp] at hpo
    obtain ⟨m,rfl,q,e3,e4,e5,e6⟩:=uS hf hp
    have hbl:=ko q
    have hlen:=od q (jH (fN 20 (eA ts (m:Int) ats) (by omega))) fun b=>di 20 _ b
    have hwl:(c7 (fi ts (eV m) ats) m []).1.length≤4000:=by rw [← hlen,← e4];exact e6
    obtain ⟨a1,a2,a3⟩:=pP q hf hwl
    obtain ⟨v1,v2⟩:=ve q hf hwl
    have hev:(lr ts (m:Int) ats out).2=true:=by rw [← v1];exact v2
    have e7:fZ (w.1.length:Int) w.2.1 out=lr ts (m:Int) ats out:=by
     unfold lr
     rw [hf,e4,e3,fS,decide_eq_true (show (bh 20 (eA ts (m:Int) ats)).length≤4000 by rw [← e4];exact e6)];rfl
    unfold pu at hpo ⊢
    dsimp only at hpo ⊢
    rw [e7] at hpo ⊢
    rw [hev,cond_true]
    rw [lC hN hpo hpo,bs,decide_eq_true rfl,cond_true]
    rw [lQ hM d1 d2 d3,bs,a1]
    dsimp only
    rw [decide_eq_true (show ((bh 20 (eA ts (m:Int) ats)).length:Int)≤w.2.2 by rw [← e4];exact e5)]
end Go.Proofs.Ytnipkopfefkojaa
namespace Go.Proofs.Ytnipkopfefkojaa
open Go.RowKit
section
variable {P:Program} {n:Nat} {Q Q':Exit→Env→World→Prop} {K:Env→World→Prop} {KQ:Env→Prop} {e:Env} {w w0:World} {c y:Code} {x:Exit} {ops:Array Oper} {rest:List Oper}
variable {d:Nat} {op:Op} {ty:TypeId} {pos:String} {af:Array Edge} {o z1 z2 z3:Operand} {v:Value} {q1:Oper}
theorem ur {x:Operand} {t ft:TypeId} {k off:Nat} {fs:Array Field} {f:Field} (h1:P.underlying t=some (.struct fs)) (h2:fs[k]? = some f) (h3:f.offset=off) (h4:f.type=ft) [hT:PlainT P ft] {cs:List Value} (hx:ev e x=.agg cs.toArray) {c:Value} (hc:cs[off]? = some c):PV P ⟨d,.field t x k,ty,pos,af,none⟩ e w c:=fun w' _=>by
 obtain ⟨dd,hd,hk⟩:=hT.h
 subst h3;subst h4
 have hagg:(isAgg f.type).run P w'=.ok false w':=by
  unfold isAgg
  rw [Sem.run_bind,run_underlying hd w']
  cases dd <;> simp_all
 unfold execOp
 simp [hx,Instr.field,run_underlying h1,h2,asAgg,part,Sem.run_bind,hagg,hc]
theorem dt {p:Prop} [Decidable p] (h:decide p=true):p:=of_decide_eq_true h
theorem sg (h:∀ Q':Exit→Env→World→Prop,(∀ x e w,thn (fun e w=>CW P n y Q e w) Q x e w→Q' x e w)→CW P n c Q' e w):CW P n (.seq c y) Q e w:=uO (po h)
theorem sR {id:Nat} {l:List Oper} (h:∀ Q':Exit→Env→World→Prop,(∀ x e w,thn (fun e w=>CW P n y Q e w) Q x e w→Q' x e w)→EL P n l.toArray (fun e w=>Q' .normal e w) l e w):CW P n (.seq (.region id l.toArray false) y) Q e w:=uO (po fun Q' q=>ag (h Q' q))
theorem gn (h:∀ Q':Exit→Env→World→Prop,(∀ x e w,Q x e w→Q' x e w)→CW P n c Q' e w):CW P n c Q e w:=po h
theorem bg {i:Nat} (h:∀ Q':Exit→Env→World→Prop,(∀ x e w,inb i Q x e w→Q' x e w)→CW P n c Q' e w):CW P n (.block i c) Q e w:=vU (po h)
theorem hq {f:Exit→Env→World→Prop} (h:∀ x e w,f x e w→Q' x e w) (k:f x e w):Q' x e w:=h _ _ _ k
theorem tn (h:∀ x e w,thn K Q x e w→Q' x e w) (k:K e w):Q' .normal e w:=h _ _ _ k
theorem tr (h:∀ x e w,thn K Q x e w→Q' x e w) (k:Q .ret e w):Q' .ret e w:=h _ _ _ k
theorem tx {i:Nat} (h:∀ x e w,thn K Q x e w→Q' x e w) (k:Q (.exit i) e w):Q' (.exit i) e w:=h _ _ _ k
theorem bn {i:Nat} (h:∀ x e w,inb i Q x e w→Q' x e w) (k:Q .normal e w):Q' .normal e w:=h _ _ _ k
theorem br {i:Nat} (h:∀ x e w,inb i Q x e w→Q' x e w) (k:Q .ret e w):Q' .ret e w:=h _ _ _ k
theorem bS {i:Nat} (h:∀ x e w,inb i Q x e w→Q' x e w) (k:Q .normal e w):Q' (.exit i) e w:=h _ _ _ (x7 k)
theorem en (h:∀ x e w,thn K Q x e w→Q' x e w) (k:K e w):EL P n ops (fun e w=>Q' .normal e w) [] e w:=ah (h _ _ _ k)
theorem sn (h:∀ x e w,thn K Q x e w→Q' x e w) (k:K e w):CW P n .skip Q' e w:=aS (h _ _ _ k)
theorem pa (v:Value) (hK:EL P n ops K rest (upd e d v) w) (hx:ev e o=v:=by exact rfl) (hd:d<n:=by decide):EL P n ops K (⟨some d,.assign o,ty,pos,af,none⟩ :: rest) e w:=km (cr hx) hd hK
theorem pm (v:Value) (hK:EL P n ops K rest (upd e d v) w) (hx:ev e o=v:=by exact rfl) (hd:d<n:=by decide):EL P n ops K (⟨some d,.move o,ty,pos,af,none⟩ :: rest) e w:=km (be hx) hd hK
theorem pM (v:Value) (hx:ev e o=v) (hK:EL P n ops K rest (upd e d v) w) (hd:d<n:=by decide):EL P n ops K (⟨some d,.move o,ty,pos,af,none⟩ :: rest) e w:=km (be hx) hd hK
theorem pe (v:Value) (hp:PV P ⟨some d,op,ty,pos,af,none⟩ e w v) (hK:EL P n ops K rest (upd e d v) w) (hd:d<n:=by decide):EL P n ops K (⟨some d,op,ty,pos,af,none⟩ :: rest) e w:=km hp hd hK
theorem qe (v:Value) (hp:PV P ⟨some d,op,ty,pos,af,none⟩ e w v) (hK:QL P n ops w KQ rest (upd e d v)) (hd:d<n:=by decide):QL P n ops w KQ (⟨some d,op,ty,pos,af,none⟩ :: rest) e:=nZ hp hd hK
theorem qm (v:Value) (hK:QL P n ops w KQ rest (upd e d v)) (hx:ev e o=v:=by exact rfl) (hd:d<n:=by decide):QL P n ops w KQ (⟨some d,.move o,ty,pos,af,none⟩ :: rest) e:=nZ (be hx) hd hK
theorem qM (v:Value) (hx:ev e o=v) (hK:QL P n ops w KQ rest (upd e d v)) (hd:d<n:=by decide):QL P n ops w KQ (⟨some d,.move o,ty,pos,af,none⟩ :: rest) e:=nZ (be hx) hd hK
theorem eo {j:Nat} {b b' c:Bool} (hc:c=b) (hK:EL P n ops K rest (upd e d undef) w) (h:yld ops e j=some c:=by exact rfl) (hb:(b == b')=false:=by exact rfl) (hd:d<n:=by decide):EL P n ops K (⟨some d,op,ty,pos,af,some (j,b')⟩ :: rest) e w:=xA h hc hb hd hK
theorem qo {j:Nat} {b b' c:Bool} (hc:c=b) (hK:QL P n ops w KQ rest (upd e d undef)) (h:yld ops e j=some c:=by exact rfl) (hb:(b == b')=false:=by exact rfl) (hd:d<n:=by decide):QL P n ops w KQ (⟨some d,op,ty,pos,af,some (j,b')⟩ :: rest) e:=xR h hc hb hd hK
theorem ei {j:Nat} {b c:Bool} {dst:Option Nat} (hc:c=b) (hK:EL P n ops K (⟨dst,op,ty,pos,af,none⟩ :: rest) e w) (h:yld ops e j=some c:=by exact rfl):EL P n ops K (⟨dst,op,ty,pos,af,some (j,b)⟩ :: rest) e w:=yc h hc hK
theorem qi {j:Nat} {b c:Bool} {dst:Option Nat} (hc:c=b) (hK:QL P n ops w KQ (⟨dst,op,ty,pos,af,none⟩ :: rest) e) (h:yld ops e j=some c:=by exact rfl):QL P n ops w KQ (⟨dst,op,ty,pos,af,some (j,b)⟩ :: rest) e:=xX h hc hK
theorem ct {b:Bool} (hb:b=true) (h:CW P n c Q e w) (hc:ev e o=.bool b:=by exact rfl):CW P n (.cond o c y) Q e w:=ue hc hb h
theorem cf {b:Bool} (hb:b=false) (h:CW P n y Q e w) (hc:ev e o=.bool b:=by exact rfl):CW P n (.cond o c y) Q e w:=vj hc hb h
theorem rB {a b:Bool} {Γ:List Asn} (h:some a=some b) (hS:Sat w0 w Γ):Ending.returned (.bool a)=.returned (.bool b)∧Ext w0 w:=⟨by rw [Option.some.inj h],hS.below⟩
theorem rI {a b:Int} {Γ:List Asn} (h:some a=some b) (hS:Sat w0 w Γ):Ending.returned (.int .i64 a)=.returned (.int .i64 b)∧Ext w0 w:=⟨by rw [Option.some.inj h],hS.below⟩
abbrev i_ (x:Int):Value:=.int .i64 x
abbrev n_:Value:=.slice none 0 0
theorem ec0 {f:FuncId} {args:Array Operand} {tys:Array TypeId} {vals:Array Value} {Γ:List Asn} (hg:Goes P f) (hc:Calls P f vals w fun x w'=>x=.returned v∧Ext w w') (hv:(args.toList.map (ev e)).toArray=vals) (S:Sat w0 w Γ)
  (hK:∀ w',Ext w w'→Sat w0 w' Γ→EL P n ops K rest (upd e d v) w') (hd:d<n:=by decide):EL P n ops K (⟨some d,.call ⟨.value (.func f),args,tys⟩,ty,pos,af,none⟩ :: rest) e w :=
 aW hg hc hv hd (by rintro _ w' ⟨rfl,hx⟩;exact ⟨_,rfl,hK w' hx (S.ext hx)⟩)
theorem ec1 {f:FuncId} {args:Array Operand} {tys:Array TypeId} {vals:Array Value} {Γ:List Asn} {G:Value→Value} {A:Value→Asn} (hg:Goes P f) (hc:Calls P f vals w fun x w'=>∃ v,x=.returned (G v)∧Sat w w' [A v]) (hv:(args.toList.map (ev e)).toArray=vals) (S:Sat w0 w Γ)
  (hK:∀ w' v,Ext w w'→Sat w0 w' (A v :: Γ)→EL P n ops K rest (upd e d (G v)) w') (hd:d<n:=by decide):EL P n ops K (⟨some d,.call ⟨.value (.func f),args,tys⟩,ty,pos,af,none⟩ :: rest) e w :=
 aW hg hc hv hd (by rintro _ w' ⟨v,rfl,S'⟩;exact ⟨_,rfl,hK w' v S'.below (S.call1 S')⟩)
theorem aO {X:List Nat} {C:World→Prop} (i:Nat) {f:Nat} {L:Array Bool} (ho:ops[i]? = some q1)
  (h:EL P n ops (fun e' w'=>(X.contains i=true→C w')∧AL P n ops X C K f (L.setIfInBounds i true) e' w') [q1] e w) (hr:Region.ready .any ops L=[i]:=by kernel_rfl):AL P n ops X C K (f+1) L e w:=xv i hr ho h
theorem aP {X:List Nat} {C:World→Prop} (v:Value) (i:Nat) {f:Nat} {L:Array Bool} (hi:ops[i]? = some q1) (hdst:q1.dst=some d) (hC:C w)
  (hy:SV P n ops C q1 e v) (hK:AL P n ops X C K f (L.setIfInBounds i true) (upd e d v) w) (hsel:kf ops=true:=by kernel_rfl) (hdn:d<n:=by decide) (hf:lB ops X L i q1=true:=by kernel_rfl) (hr:(Region.ready .any ops L).contains i=true:=by kernel_rfl):AL P n ops X C K (f+1) L e w:=tg hsel i hi hdst hdn hC hf hr hy hK
theorem ca {α β:Type} {f:α→β} {l:List α} {m:List β} (h:l.map f=m):(l.map f).toArray=m.toArray:=congrArg List.toArray h
theorem Sat.t1 {a0 a1:Asn} {Γ:List Asn} (h:Sat w0 w (a0 :: a1 :: Γ)):Sat w0 w (a1 :: a0 :: Γ):=h.top 1 rfl
theorem Sat.t2 {a0 a1 a2:Asn} {Γ:List Asn} (h:Sat w0 w (a0 :: a1 :: a2 :: Γ)):Sat w0 w (a2 :: a0 :: a1 :: Γ):=h.top 2 rfl
theorem Sat.t3 {a0 a1 a2 a3:Asn} {Γ:List Asn} (h:Sat w0 w (a0 :: a1 :: a2 :: a3 :: Γ)):Sat w0 w (a3 :: a0 :: a1 :: a2 :: Γ):=h.top 3 rfl
theorem Sat.t4 {a0 a1 a2 a3 a4:Asn} {Γ:List Asn} (h:Sat w0 w (a0 :: a1 :: a2 :: a3 :: a4 :: Γ)):Sat w0 w (a4 :: a0 :: a1 :: a2 :: a3 :: Γ):=h.top 4 rfl
theorem Sat.t5 {a0 a1 a2 a3 a4 a5:Asn} {Γ:List Asn} (h:Sat w0 w (a0 :: a1 :: a2 :: a3 :: a4 :: a5 :: Γ)):Sat w0 w (a5 :: a0 :: a1 :: a2 :: a3 :: a4 :: Γ):=h.top 5 rfl
theorem Sat.t6 {a0 a1 a2 a3 a4 a5 a6:Asn} {Γ:List Asn} (h:Sat w0 w (a0 :: a1 :: a2 :: a3 :: a4 :: a5 :: a6 :: Γ)):Sat w0 w (a6 :: a0 :: a1 :: a2 :: a3 :: a4 :: a5 :: Γ):=h.top 6 rfl
theorem Sat.t7 {a0 a1 a2 a3 a4 a5 a6 a7:Asn} {Γ:List Asn} (h:Sat w0 w (a0 :: a1 :: a2 :: a3 :: a4 :: a5 :: a6 :: a7 :: Γ)):Sat w0 w (a7 :: a0 :: a1 :: a2 :: a3 :: a4 :: a5 :: a6 :: Γ):=h.top 7 rfl
theorem Sat.t8 {a0 a1 a2 a3 a4 a5 a6 a7 a8:Asn} {Γ:List Asn} (h:Sat w0 w (a0 :: a1 :: a2 :: a3 :: a4 :: a5 :: a6 :: a7 :: a8 :: Γ)):Sat w0 w (a8 :: a0 :: a1 :: a2 :: a3 :: a4 :: a5 :: a6 :: a7 :: Γ):=h.top 8 rfl
theorem Sat.t10 {a0 a1 a2 a3 a4 a5 a6 a7 a8 a9 a10:Asn} {Γ:List Asn} (h:Sat w0 w (a0 :: a1 :: a2 :: a3 :: a4 :: a5 :: a6 :: a7 :: a8 :: a9 :: a10 :: Γ)):Sat w0 w (a10 :: a0 :: a1 :: a2 :: a3 :: a4 :: a5 :: a6 :: a7 :: a8 :: a9 :: Γ):=h.top 10 rfl
theorem Sat.t11 {a0 a1 a2 a3 a4 a5 a6 a7 a8 a9 a10 a11:Asn} {Γ:List Asn} (h:Sat w0 w (a0 :: a1 :: a2 :: a3 :: a4 :: a5 :: a6 :: a7 :: a8 :: a9 :: a10 :: a11 :: Γ)):Sat w0 w (a11 :: a0 :: a1 :: a2 :: a3 :: a4 :: a5 :: a6 :: a7 :: a8 :: a9 :: a10 :: Γ):=h.top 11 rfl
theorem Sat.r0 {a0:Asn} {Γ:List Asn} (h:Sat w0 w (a0 :: Γ)):Sat w0 w (Γ):=h.rem 0 rfl
theorem Sat.r1 {a0 a1:Asn} {Γ:List Asn} (h:Sat w0 w (a0 :: a1 :: Γ)):Sat w0 w (a0 :: Γ):=h.rem 1 rfl
theorem Sat.r2 {a0 a1 a2:Asn} {Γ:List Asn} (h:Sat w0 w (a0 :: a1 :: a2 :: Γ)):Sat w0 w (a0 :: a1 :: Γ):=h.rem 2 rfl
theorem Sat.r3 {a0 a1 a2 a3:Asn} {Γ:List Asn} (h:Sat w0 w (a0 :: a1 :: a2 :: a3 :: Γ)):Sat w0 w (a0 :: a1 :: a2 :: Γ):=h.rem 3 rfl
theorem Sat.r4 {a0 a1 a2 a3 a4:Asn} {Γ:List Asn} (h:Sat w0 w (a0 :: a1 :: a2 :: a3 :: a4 :: Γ)):Sat w0 w (a0 :: a1 :: a2 :: a3 :: Γ):=h.rem 4 rfl
theorem Sat.r5 {a0 a1 a2 a3 a4 a5:Asn} {Γ:List Asn} (h:Sat w0 w (a0 :: a1 :: a2 :: a3 :: a4 :: a5 :: Γ)):Sat w0 w (a0 :: a1 :: a2 :: a3 :: a4 :: Γ):=h.rem 5 rfl
theorem Sat.r6 {a0 a1 a2 a3 a4 a5 a6:Asn} {Γ:List Asn} (h:Sat w0 w (a0 :: a1 :: a2 :: a3 :: a4 :: a5 :: a6 :: Γ)):Sat w0 w (a0 :: a1 :: a2 :: a3 :: a4 :: a5 :: Γ):=h.rem 6 rfl
theorem Sat.r7 {a0 a1 a2 a3 a4 a5 a6 a7:Asn} {Γ:List Asn} (h:Sat w0 w (a0 :: a1 :: a2 :: a3 :: a4 :: a5 :: a6 :: a7 :: Γ)):Sat w0 w (a0 :: a1 :: a2 :: a3 :: a4 :: a5 :: a6 :: Γ):=h.rem 7 rfl
theorem Sat.r8 {a0 a1 a2 a3 a4 a5 a6 a7 a8:Asn} {Γ:List Asn} (h:Sat w0 w (a0 :: a1 :: a2 :: a3 :: a4 :: a5 :: a6 :: a7 :: a8 :: Γ)):Sat w0 w (a0 :: a1 :: a2 :: a3 :: a4 :: a5 :: a6 :: a7 :: Γ):=h.rem 8 rfl
theorem Sat.r9 {a0 a1 a2 a3 a4 a5 a6 a7 a8 a9:Asn} {Γ:List Asn} (h:Sat w0 w (a0 :: a1 :: a2 :: a3 :: a4 :: a5 :: a6 :: a7 :: a8 :: a9 :: Γ)):Sat w0 w (a0 :: a1 :: a2 :: a3 :: a4 :: a5 :: a6 :: a7 :: a8 :: Γ):=h.rem 9 rfl
theorem Sat.r10 {a0 a1 a2 a3 a4 a5 a6 a7 a8 a9 a10:Asn} {Γ:List Asn} (h:Sat w0 w (a0 :: a1 :: a2 :: a3 :: a4 :: a5 :: a6 :: a7 :: a8 :: a9 :: a10 :: Γ)):Sat w0 w (a0 :: a1 :: a2 :: a3 :: a4 :: a5 :: a6 :: a7 :: a8 :: a9 :: Γ):=h.rem 10 rfl
theorem Sat.r11 {a0 a1 a2 a3 a4 a5 a6 a7 a8 a9 a10 a11:Asn} {Γ:List Asn} (h:Sat w0 w (a0 :: a1 :: a2 :: a3 :: a4 :: a5 :: a6 :: a7 :: a8 :: a9 :: a10 :: a11 :: Γ)):Sat w0 w (a0 :: a1 :: a2 :: a3 :: a4 :: a5 :: a6 :: a7 :: a8 :: a9 :: a10 :: Γ):=h.rem 11 rfl
end
end Go.Proofs.Ytnipkopfefkojaa
namespace Go.Proofs.Ytnipkopfefkojaa
open Go.RowKit
abbrev R0_:=aA cp 3
abbrev R1_:=aA hX 9
abbrev R2_:=mF R0_ 28
abbrev R3_:=aA R0_ 28
abbrev R4_:=mB hX R0_
abbrev R5_:=mB cp R3_
abbrev R6_:=aA R4_ 50
abbrev R7_:=mB hX R5_
abbrev R8_:=aA R7_ 84
abbrev T0_:=List Int
abbrev T1_:=List T0_
abbrev T2_:=ByteArray × List Int
abbrev T3_:=Int × List T0_
abbrev T4_:=List Int × T3_
abbrev T5_:=ByteArray × T3_
abbrev T6_:=List T5_
abbrev T7_:=Int × List T2_ × List Int
end Go.Proofs.Ytnipkopfefkojaa
namespace Go.Proofs.Ytnipkopfefkojaa
open Go.RowKit
set_option maxRecDepth 100000
set_option maxHeartbeats 4000000
theorem ss {w0:World} {u0:Value} {a0:List Int} (ha0:(aA u8R 5).rd w0 [u0] a0) {N:Nat} {r:Bool} (F:mE N a0=some r): Calls Try.prog 4 #[u0] w0 fun e w'=>e=.returned (.bool r)∧Ext w0 w' := by
 unfold mE at F;refine aN Try.func4 rfl rfl (dt rfl) ?_;have S:=Sat.start w0;refine sR fun _ D=>?_;refine pa (.bool false) (en D ?_);refine sR fun _ J=>?_;refine pm u0 (pe (i_ (a0.length:Int)) (ax rfl ha0) (pe (.bool (decide (1048576 < (a0.length:Int)))) (bp rfl rfl) (pa (.bool (decide (1048576 < (a0.length:Int)))) (en J (ak (aL rfl rfl ?_))))));exact rB F S
theorem gA {w0:World} {Y:World} {G0:List Asn} {b0:Nat} {u0:Value} {a0:List Int} {a1:Int} {a2:Int} (ha0:(aA u8R 5).rd Y [u0] a0) (S:Sat Y w0 (Box b0 61 [u0,i_ a1,i_ a2] :: G0)) {N:Nat} {r:Int × Int × Int} (F:eY N a0 a1 a2=some r): Calls Try.prog 62 #[.pointer (some ⟨b0,0,none⟩)] w0 fun e w'=>e=.returned (i_ r.1)∧Sat Y w' (Box b0 61 [u0,i_ r.2.1,i_ r.2.2] :: G0) := by
 unfold eY at F;refine aN Try.func62 rfl rfl (dt rfl) ?_;refine sR fun _ yt=>?_;refine pa (i_ 0) (en yt ?_);refine sR fun _ yu=>?_;refine pm (.pointer (some ⟨b0,0,none⟩)) (pm (.pointer (some ⟨b0,0,none⟩)) (pe (.pointer (some ⟨b0,0,none⟩)) (eh rfl) (pe (.pointer (some ⟨b0,0 + 2,none⟩)) (ac rfl) (pe (i_ a2) (ae rfl ((S.boxAt 0 rfl) 2 _ rfl)) (pe (i_ (IntKind.i64.wrap (a2 * 6364136223846793005))) (wL rfl rfl) (pe (i_ (IntKind.i64.wrap ((IntKind.i64.wrap (a2 * 6364136223846793005)) + 1442695040888963407))) (pw rfl rfl) (pe (.pointer (some ⟨b0,0,none⟩)) (eh rfl) (pe (.pointer (some ⟨b0,0 + 2,none⟩)) (ac rfl) ?_))))))));refine aj (S.top 0 rfl) rfl [i_ (IntKind.i64.wrap ((IntKind.i64.wrap (a2 * 6364136223846793005)) + 1442695040888963407))] rfl rfl (dt rfl) (all_cons rfl rfl) ?_;intro yw S;replace S:Sat Y yw (Box b0 61 [u0,i_ a1,i_ (IntKind.i64.wrap ((IntKind.i64.wrap (a2 * 6364136223846793005)) + 1442695040888963407))] :: G0):=S;refine en yu ?_;refine sg fun _ yx=>?_;refine ck (by kernel_rfl) (by kernel_rfl) ?_;refine qm (.pointer (some ⟨b0,0,none⟩)) (qe (.pointer (some ⟨b0,0,none⟩)) (eh rfl) (qe (.pointer (some ⟨b0,0 + 2,none⟩)) (ac rfl) (qe (i_ (IntKind.i64.wrap ((IntKind.i64.wrap (a2 * 6364136223846793005)) + 1442695040888963407))) (ae rfl ((S.boxAt 0 rfl) 2 _ rfl)) ?_)));obtain ⟨D,yk,F⟩:=ob F;refine qe (i_ D) (tY rfl rfl yk) (qm (.pointer (some ⟨b0,0,none⟩)) (qe (.pointer (some ⟨b0,0,none⟩)) (eh rfl) (qe (.pointer (some ⟨b0,0 + 2,none⟩)) (ac rfl) (qe (i_ (IntKind.i64.wrap ((IntKind.i64.wrap (a2 * 6364136223846793005)) + 1442695040888963407))) (ae rfl ((S.boxAt 0 rfl) 2 _ rfl)) ?_))));obtain ⟨J,yl,F⟩:=ob F;refine qe (i_ J) (tY rfl rfl yl) (qe (i_ (iD D J)) (xz rfl rfl) (qe (i_ (eO (iD D J) 255)) (qU rfl rfl) (qe (i_ (eO (iD D J) 255)) (cr rfl) (bm ?_))));intro yE ym;replace S:=S.ext ym;refine tn yx ?_;refine sg fun _ yi=>?_;refine sg fun _ yy=>?_;refine ck (by kernel_rfl) (by kernel_rfl) ?_;refine qm (.pointer (some ⟨b0,0,none⟩)) (qe (.pointer (some ⟨b0,0,none⟩)) (eh rfl) (qe (.pointer (some ⟨b0,0 + 1,none⟩)) (ac rfl) (qe (i_ a1) (ae rfl ((S.boxAt 0 rfl) 1 _ rfl)) (qm (.pointer (some ⟨b0,0,none⟩)) (qe (.pointer (some ⟨b0,0,none⟩)) (eh rfl) (qe (.pointer (some ⟨b0,0 + 0,none⟩)) (ac rfl) (qe u0 (ae rfl ((S.boxAt 0 rfl) 0 _ rfl)) (qe (i_ (a0.length:Int)) (ax rfl ha0) (qe (.bool (decide (a1 < (a0.length:Int)))) (aU rfl rfl) (bm ?_))))))))));intro yz yn;replace S:=S.ext yn;refine tn yy ?_;rcases oif F with ⟨Z,F⟩|⟨Z,F⟩
 ·refine ct Z ?_;refine sg fun _ yA=>?_;refine ck (by kernel_rfl) (by kernel_rfl) ?_;refine qm (i_ (eO (iD D J) 255)) (qm (.pointer (some ⟨b0,0,none⟩)) (qe (.pointer (some ⟨b0,0,none⟩)) (eh rfl) (qe (.pointer (some ⟨b0,0 + 0,none⟩)) (ac rfl) (qe u0 (ae rfl ((S.boxAt 0 rfl) 0 _ rfl)) (qm (.pointer (some ⟨b0,0,none⟩)) (qe (.pointer (some ⟨b0,0,none⟩)) (eh rfl) (qe (.pointer (some ⟨b0,0 + 1,none⟩)) (ac rfl) (qe (i_ a1) (ae rfl ((S.boxAt 0 rfl) 1 _ rfl)) ?_))))))));obtain ⟨U,yo,F⟩:=ob F;refine bl (wA:=Y) rfl ha0 rfl (dt rfl) rfl yo (dt rfl) ?_;intro yF yD yG yp yq;obtain rfl:=yp;refine qe (.int .u8 U) (ae rfl ((ap S.below yq) 0 _ rfl)) (qe (i_ (IntKind.i64.wrap U)) (rL Try.underlying5 Try.underlying3 rfl) (qe (i_ (IntKind.i64.wrap ((eO (iD D J) 255) + (IntKind.i64.wrap U)))) (pw rfl rfl) (qe (i_ (eO (IntKind.i64.wrap ((eO (iD D J) 255) + (IntKind.i64.wrap U))) 255)) (qU rfl rfl) (qe (i_ (eO (IntKind.i64.wrap ((eO (iD D J) 255) + (IntKind.i64.wrap U))) 255)) (cr rfl) (bm ?_)))));intro yH yr;replace S:=S.ext yr;refine tn yA (ag (pm (.pointer (some ⟨b0,0,none⟩)) (pm (.pointer (some ⟨b0,0,none⟩)) (pe (.pointer (some ⟨b0,0,none⟩)) (eh rfl) (pe (.pointer (some ⟨b0,0 + 1,none⟩)) (ac rfl) (pe (i_ a1) (ae rfl ((S.boxAt 0 rfl) 1 _ rfl)) (pe (i_ (IntKind.i64.wrap (a1 + 1))) (pw rfl rfl) (pe (.pointer (some ⟨b0,0,none⟩)) (eh rfl) (pe (.pointer (some ⟨b0,0 + 1,none⟩)) (ac rfl) ?_)))))))));refine aj (S.top 0 rfl) rfl [i_ (IntKind.i64.wrap (a1 + 1))] rfl rfl (dt rfl) (all_cons rfl rfl) ?_;intro yj S;replace S:Sat Y yj (Box b0 61 [u0,i_ (IntKind.i64.wrap (a1 + 1)),i_ (IntKind.i64.wrap ((IntKind.i64.wrap (a2 * 6364136223846793005)) + 1442695040888963407))] :: G0):=S;refine en yi ?_;refine sR fun _ yB=>?_;refine pm (i_ (eO (IntKind.i64.wrap ((eO (iD D J) 255) + (IntKind.i64.wrap U))) 255)) (pa (i_ (eO (IntKind.i64.wrap ((eO (iD D J) 255) + (IntKind.i64.wrap U))) 255)) (en yB (ak (aL rfl rfl ?_))));have hr:=Option.some.inj F;exact ⟨(congrArg (fun (r:Int × Int × Int)=>Ending.returned (i_ r.1)) hr :),Eq.mp (congrArg (fun (r:Int × Int × Int)=>Sat Y yj (Box b0 61 [u0,i_ r.2.1,i_ r.2.2] :: G0)) hr :) S⟩
 refine cf Z (sn yi ?_);refine sR fun _ yC=>?_;refine pm (i_ (eO (iD D J) 255)) (pa (i_ (eO (iD D J) 255)) (en yC (ak (aL rfl rfl ?_))));have hr:=Option.some.inj F;exact ⟨(congrArg (fun (r:Int × Int × Int)=>Ending.returned (i_ r.1)) hr :),Eq.mp (congrArg (fun (r:Int × Int × Int)=>Sat Y yz (Box b0 61 [u0,i_ r.2.1,i_ r.2.2] :: G0)) hr :) S⟩
theorem bJ {w0:World} {D:World} {G0:List Asn} {b0:Nat} {u0:Value} {a0:List Int} {a1:Int} {a2:Int} {a3:Int} (ha0:(aA u8R 5).rd D [u0] a0) (S:Sat D w0 (Box b0 61 [u0,i_ a1,i_ a2] :: G0)) {N:Nat} {r:Int × Int × Int} (F:bL N a0 a1 a2 a3=some r): Calls Try.prog 26 #[.pointer (some ⟨b0,0,none⟩),i_ a3] w0 fun e w'=>e=.returned (i_ r.1)∧Sat D w' (Box b0 61 [u0,i_ r.2.1,i_ r.2.2] :: G0) := by
 unfold bL at F;refine aN Try.func26 rfl rfl (dt rfl) ?_;refine sR fun _ yG=>?_;refine pa (i_ 0) (en yG ?_);refine sg fun _ yk=>?_;refine sR fun _ yH=>?_;refine pm (i_ a3) (pe (.bool (decide (a3 ≤ 0))) (iF rfl rfl) (en yH ?_));rcases oif F with ⟨J,F⟩|⟨J,F⟩
 ·refine ct J ?_;refine sR fun _ yI=>?_;refine pa (i_ 0) (en yI (ak (tr yk (aL rfl rfl ?_))));have hr:=Option.some.inj F;exact ⟨(congrArg (fun (r:Int × Int × Int)=>Ending.returned (i_ r.1)) hr :),Eq.mp (congrArg (fun (r:Int × Int × Int)=>Sat D w0 (Box b0 61 [u0,i_ r.2.1,i_ r.2.2] :: G0)) hr :) S⟩
 refine cf J (sn yk ?_);refine sg fun _ yl=>?_;refine sR fun _ yJ=>?_;refine pm (i_ a3) (pe (.bool (decide (a3 ≤ 256))) (iF rfl rfl) (en yJ ?_));rcases oif F with ⟨U,F⟩|⟨U,F⟩
 ·refine ct U ?_;refine sR fun _ yK=>?_;refine pm (.pointer (some ⟨b0,0,none⟩)) ?_;obtain ⟨ym,yr,F⟩:=ob F;refine aW nx (gA ha0 S yr) (ca (ai rfl rfl)) (dt rfl) ?_;rintro _ yn ⟨rfl,S⟩;refine ⟨_,rfl,?_⟩;replace S:Sat D yn (Box b0 61 [u0,i_ ym.2.1,i_ ym.2.2] :: G0):=S;refine pm (i_ a3) ?_;obtain ⟨yo,yt,F⟩:=ob F;refine pe (i_ yo) (tQ rfl rfl yt) (pa (i_ yo) (en yK (ak (tr yl (aL rfl rfl ?_)))));have hr:=Option.some.inj F;exact ⟨(congrArg (fun (r:Int × Int × Int)=>Ending.returned (i_ r.1)) hr :),Eq.mp (congrArg (fun (r:Int × Int × Int)=>Sat D yn (Box b0 61 [u0,i_ r.2.1,i_ r.2.2] :: G0)) hr :) S⟩
 refine cf U (sn yl ?_);refine sR fun _ yL=>?_;refine pm (.pointer (some ⟨b0,0,none⟩)) ?_;obtain ⟨Y,yu,F⟩:=ob F;refine aW nx (gA ha0 S yu) (ca (ai rfl rfl)) (dt rfl) ?_;rintro _ yM ⟨rfl,S⟩;refine ⟨_,rfl,?_⟩;replace S:Sat D yM (Box b0 61 [u0,i_ Y.2.1,i_ Y.2.2] :: G0):=S;refine pa (i_ Y.1) (en yL ?_);refine sR fun _ yN=>?_;refine pm (.pointer (some ⟨b0,0,none⟩)) ?_;obtain ⟨Z,yw,F⟩:=ob F;refine aW nx (gA ha0 S yw) (ca (ai rfl rfl)) (dt rfl) ?_;rintro _ yO ⟨rfl,S⟩;refine ⟨_,rfl,?_⟩;replace S:Sat D yO (Box b0 61 [u0,i_ Z.2.1,i_ Z.2.2] :: G0):=S;refine pa (i_ Z.1) (en yN ?_);refine sR fun _ yP=>?_;refine pm (.pointer (some ⟨b0,0,none⟩)) ?_;obtain ⟨yi,yx,F⟩:=ob F;refine aW nx (gA ha0 S yx) (ca (ai rfl rfl)) (dt rfl) ?_;rintro _ yQ ⟨rfl,S⟩;refine ⟨_,rfl,?_⟩;replace S:Sat D yQ (Box b0 61 [u0,i_ yi.2.1,i_ yi.2.2] :: G0):=S;refine pa (i_ yi.1) (en yP ?_);refine sR fun _ yR=>?_;refine pm (.pointer (some ⟨b0,0,none⟩)) ?_;obtain ⟨yj,yy,F⟩:=ob F;refine aW nx (gA ha0 S yy) (ca (ai rfl rfl)) (dt rfl) ?_;rintro _ yp ⟨rfl,S⟩;refine ⟨_,rfl,?_⟩;replace S:Sat D yp (Box b0 61 [u0,i_ yj.2.1,i_ yj.2.2] :: G0):=S;refine pa (i_ yj.1) (en yR ?_);refine sR fun _ yS=>?_;refine pm (i_ Y.1) ?_;obtain ⟨yT,yz,F⟩:=ob F;refine pe (i_ yT) (pg rfl rfl yz) (pm (i_ Z.1) ?_);obtain ⟨yU,yA,F⟩:=ob F;refine pe (i_ yU) (pg rfl rfl yA) ?_;obtain ⟨yV,yB,F⟩:=ob F;refine pe (i_ yV) (aE rfl rfl yB) (pm (i_ yi.1) ?_);obtain ⟨yW,yC,F⟩:=ob F;refine pe (i_ yW) (pg rfl rfl yC) ?_;obtain ⟨yX,yD,F⟩:=ob F;refine pe (i_ yX) (aE rfl rfl yD) (pm (i_ yj.1) ?_);obtain ⟨yY,yE,F⟩:=ob F;refine pe (i_ yY) (aE rfl rfl yE) (pm (i_ a3) ?_);obtain ⟨yq,yF,F⟩:=ob F;refine pe (i_ yq) (tQ rfl rfl yF) (pa (i_ yq) (en yS (ak (aL rfl rfl ?_))));have hr:=Option.some.inj F;exact ⟨(congrArg (fun (r:Int × Int × Int)=>Ending.returned (i_ r.1)) hr :),Eq.mp (congrArg (fun (r:Int × Int × Int)=>Sat D yp (Box b0 61 [u0,i_ r.2.1,i_ r.2.2] :: G0)) hr :) S⟩
theorem dO {w0:World} {J:World} {G0:List Asn} {b0:Nat} {u0:Value} {a0:List Int} {a1:Int} {a2:Int} {u3:Value} {a3:List Int} (ha0:(aA u8R 5).rd J [u0] a0) (S:Sat J w0 (Box b0 61 [u0,i_ a1,i_ a2] :: Own R0_ [u3] a3 :: G0)) {N:Nat} {r:Int × Int × Int} (F:c5 N a0 a1 a2 a3=some r): Calls Try.prog 57 #[.pointer (some ⟨b0,0,none⟩),u3] w0 fun e w'=>e=.returned (i_ r.1)∧Sat J w' (Box b0 61 [u0,i_ r.2.1,i_ r.2.2] :: G0) := by
 unfold c5 at F;refine aN Try.func57 rfl rfl (dt rfl) ?_;refine sR fun _ yk=>?_;refine pa (i_ 0) (en yk ?_);refine sR fun _ yl=>?_;refine pm u3 (pm (.pointer (some ⟨b0,0,none⟩)) (pm u3 (pe (i_ (a3.length:Int)) (ax rfl (S.rdAt (R:=R0_) 1 rfl)) ?_)));obtain ⟨U,yj,F⟩:=ob F;refine aW e9 (bJ ha0 S yj) (ca (ai rfl (ai rfl rfl))) (dt rfl) ?_;rintro _ Z ⟨rfl,S⟩;refine ⟨_,rfl,?_⟩;replace S:Sat J Z (Box b0 61 [u0,i_ U.2.1,i_ U.2.2] :: Own R0_ [u3] a3 :: G0):=S;obtain ⟨yi,D,F⟩:=ob F;obtain ⟨ym,yn,Y⟩:=c6 1 S rfl D;refine pe (.pointer (some ⟨ym,U.1.toNat * 1,none⟩)) (cS (v:=u3) rfl Y rfl D) (pe (i_ yi) (ae rfl (S.ownCell 1 rfl Y D)) (pa (i_ yi) (en yl (ak (aL rfl rfl ?_)))));have hr:=Option.some.inj F;replace S:=S.r1;exact ⟨(congrArg (fun (r:Int × Int × Int)=>Ending.returned (i_ r.1)) hr :),Eq.mp (congrArg (fun (r:Int × Int × Int)=>Sat J Z (Box b0 61 [u0,i_ r.2.1,i_ r.2.2] :: G0)) hr :) S⟩
theorem bA {w0:World} {u0:Value} {a0:List Int} {u1:Value} {a1:List Int} (ha0:R0_.rd w0 [u0] a0) (ha1:R0_.rd w0 [u1] a1) {N:Nat} {r:Int} (F:bo N a0 a1=some r): Calls Try.prog 21 #[u0,u1] w0 fun e w'=>e=.returned (i_ r)∧Ext w0 w' := by
 unfold bo at F;refine aN Try.func21 rfl rfl (dt rfl) ?_;have S:=Sat.start w0;refine sR fun _ yY=>?_;refine pa (i_ 0) (en yY ?_);refine sg fun _ yk=>?_;refine sR fun _ yZ=>?_;refine pa (i_ 0) (en yZ ?_);refine bg fun _ yl=>?_;obtain ⟨y1,hL,yi⟩:=ob F;refine aJ (fun k e w=>∃ (D:Int),e 0=u0∧e 1=u1∧e 5=i_ D∧Sat w0 w []∧eK N k a0 a1 D=some y1) N ?_ ?_ ?_
 ·exact ⟨0,rfl,rfl,rfl,S,hL⟩
 ·rintro e w ⟨_,_,_,_,_,hz⟩; exact nomatch (show none=some _ from hz)
 rintro k zk zl ⟨D,U,Y,Z,S,F⟩;refine gn fun _ yj=>?_;refine sg fun _ yu=>?_;refine sR fun _ yz=>?_;refine pM (i_ D) Z (pM u0 U (pe (i_ (a0.length:Int)) (ax rfl ha0) (pe (.bool (decide (D < (a0.length:Int)))) (aU rfl rfl) (pm (.bool (decide (D < (a0.length:Int)))) ?_))));rcases oif F with ⟨J,F⟩|⟨J,F⟩
 ·refine ei J (pM (i_ D) Z (ei J (pM u1 Y (ei J (pe (i_ (a1.length:Int)) (ax rfl ha1) (ei J (pe (.bool (decide (D < (a1.length:Int)))) (aU rfl rfl) (pe (.bool (decide (D < (a1.length:Int)))) (aw rfl J rfl) (en yz ?_)))))))));rcases oif F with ⟨ym,F⟩|⟨ym,F⟩
  ·refine ct ym (sn yu ?_);refine sg fun _ yw=>?_;refine bg fun _ yx=>?_;refine sg fun _ yA=>?_;refine sg fun _ y2=>?_;refine ck (by kernel_rfl) (by kernel_rfl) ?_;refine qM u0 U (qM (i_ D) Z ?_);obtain ⟨yB,yJ,F⟩:=ob F;refine bl (wA:=w0) rfl ha0 rfl (dt rfl) rfl yJ (dt rfl) ?_;intro zm zg zn yK yL;obtain rfl:=yK;refine qe (i_ yB) (ae rfl ((ap S.below yL) 0 _ rfl)) (qM u1 Y (qM (i_ D) Z ?_));obtain ⟨yC,yM,F⟩:=ob F;refine bl (wA:=w0) rfl ha1 rfl (dt rfl) rfl yM (dt rfl) ?_;intro zo zh zp yN yO;obtain rfl:=yN;refine qe (i_ yC) (ae rfl ((ap S.below yO) 0 _ rfl)) (qe (.bool (decide (yB < yC))) (aU rfl rfl) (bm ?_));intro zq yP;replace S:=S.ext yP;refine tn y2 ?_;rcases oif F with ⟨yn,F⟩|⟨yn,F⟩
   ·refine ct yn ?_;refine sR fun _ y3=>?_;refine pa (i_ (-1)) (en y3 (ak (tr yA (br yx (tr yw (tr yj (br yl (tr yk ?_))))))));replace F:=exL F yi;refine aL rfl rfl ?_;exact rI F S
   refine cf yn (sn yA ?_);refine sg fun _ y4=>?_;refine ck (by kernel_rfl) (by kernel_rfl) ?_;refine qM u0 U (qM (i_ D) Z ?_);obtain ⟨yD,yQ,F⟩:=ob F;refine bl (wA:=w0) rfl ha0 rfl (dt rfl) rfl yQ (dt rfl) ?_;intro zr zi zt yR yS;obtain rfl:=yR;refine qe (i_ yD) (ae rfl ((ap S.below yS) 0 _ rfl)) (qM u1 Y (qM (i_ D) Z ?_));obtain ⟨yE,yT,F⟩:=ob F;refine bl (wA:=w0) rfl ha1 rfl (dt rfl) rfl yT (dt rfl) ?_;intro zu zj zw yU yV;obtain rfl:=yU;refine qe (i_ yE) (ae rfl ((ap S.below yV) 0 _ rfl)) (qe (.bool (decide (yE < yD))) (bp rfl rfl) (bm ?_));intro zx yW;replace S:=S.ext yW;refine tn y4 ?_;rcases oif F with ⟨yo,F⟩|⟨yo,F⟩
   ·refine ct yo ?_;refine sR fun _ y5=>?_;refine pa (i_ 1) (en y5 (ak (br yx (tr yw (tr yj (br yl (tr yk ?_)))))));replace F:=exL F yi;refine aL rfl rfl ?_;exact rI F S
   refine cf yo (aS (bn yx (tn yw (ag (pM (i_ D) Z ?_)))));obtain ⟨yy,yX,F⟩:=ob F;refine pe (i_ yy) (aE rfl rfl yX) (pa (i_ yy) (en yj ?_));replace S:=S.keep 0;exact ⟨yy,U,Y,rfl,S,F⟩
  refine cf ym (aM (tx yu (tx yj ?_)));replace F:=exA F yi;refine bS yl (tn yk ?_);refine sg fun _ yF=>?_;refine sR fun _ y6=>?_;refine pM u0 U (pe (i_ (a0.length:Int)) (ax rfl ha0) (pM u1 Y (pe (i_ (a1.length:Int)) (ax rfl ha1) (pe (.bool (decide ((a0.length:Int) < (a1.length:Int)))) (aU rfl rfl) (en y6 ?_)))));rcases oif F with ⟨yp,F⟩|⟨yp,F⟩
  ·refine ct yp ?_;refine sR fun _ y7=>?_;refine pa (i_ (-1)) (en y7 (ak (tr yF (aL rfl rfl ?_))));exact rI F S
  refine cf yp (sn yF ?_);refine sg fun _ yG=>?_;refine sR fun _ y8=>?_;refine pM u0 U (pe (i_ (a0.length:Int)) (ax rfl ha0) (pM u1 Y (pe (i_ (a1.length:Int)) (ax rfl ha1) (pe (.bool (decide ((a1.length:Int) < (a0.length:Int)))) (bp rfl rfl) (en y8 ?_)))));rcases oif F with ⟨yq,F⟩|⟨yq,F⟩
  ·refine ct yq ?_;refine sR fun _ y9=>?_;refine pa (i_ 1) (en y9 (ak (tr yG (aL rfl rfl ?_))));exact rI F S
  refine cf yq (sn yG ?_);refine sR fun _ za=>?_;refine pa (i_ 0) (en za (ak (aL rfl rfl ?_)));exact rI F S
 refine eo J (eo J (eo J (eo J (pe (.bool false) (az rfl J rfl) (en yz (cf rfl (aM (tx yu (tx yj ?_)))))))));replace F:=exA F yi;refine bS yl (tn yk ?_);refine sg fun _ yH=>?_;refine sR fun _ zb=>?_;refine pM u0 U (pe (i_ (a0.length:Int)) (ax rfl ha0) (pM u1 Y (pe (i_ (a1.length:Int)) (ax rfl ha1) (pe (.bool (decide ((a0.length:Int) < (a1.length:Int)))) (aU rfl rfl) (en zb ?_)))));rcases oif F with ⟨yr,F⟩|⟨yr,F⟩
 ·refine ct yr ?_;refine sR fun _ zc=>?_;refine pa (i_ (-1)) (en zc (ak (tr yH (aL rfl rfl ?_))));exact rI F S
 refine cf yr (sn yH ?_);refine sg fun _ yI=>?_;refine sR fun _ zd=>?_;refine pM u0 U (pe (i_ (a0.length:Int)) (ax rfl ha0) (pM u1 Y (pe (i_ (a1.length:Int)) (ax rfl ha1) (pe (.bool (decide ((a1.length:Int) < (a0.length:Int)))) (bp rfl rfl) (en zd ?_)))));rcases oif F with ⟨yt,F⟩|⟨yt,F⟩
 ·refine ct yt ?_;refine sR fun _ ze=>?_;refine pa (i_ 1) (en ze (ak (tr yI (aL rfl rfl ?_))));exact rI F S
 refine cf yt (sn yI ?_);refine sR fun _ zf=>?_;refine pa (i_ 0) (en zf (ak (aL rfl rfl ?_)));exact rI F S
theorem dA {w0:World} {a0:Int} {a1:Int} {a2:Int}  {N:Nat} {r:Bool} (F:dy N a0 a1 a2=some r): Calls Try.prog 52 #[i_ a0,i_ a1,i_ a2] w0 fun e w'=>e=.returned (.bool r)∧Ext w0 w' := by
 unfold dy at F;refine aN Try.func52 rfl rfl (dt rfl) ?_;have S:=Sat.start w0;refine sR fun _ U=>?_;refine pa (.bool false) (en U ?_);refine sR fun _ J=>?_;refine pm (i_ a0) (pm (i_ a1) (pe (.bool (decide (a1 ≤ a0))) (c3 rfl rfl) (pm (.bool (decide (a1 ≤ a0))) ?_)));rcases oif F with ⟨D,F⟩|⟨D,F⟩
 ·refine ei D (pm (i_ a0) (ei D (pm (i_ a2) (ei D (pe (.bool (decide (a0 ≤ a2))) (iF rfl rfl) (pe (.bool (decide (a0 ≤ a2))) (aw rfl D rfl) (pa (.bool (decide (a0 ≤ a2))) (en J (ak (aL rfl rfl ?_))))))))));exact rB F S
 refine eo D (eo D (eo D (pe (.bool false) (az rfl D rfl) (pa (.bool false) (en J (ak (aL rfl rfl ?_)))))));exact rB F S
theorem iY {w0:World} {u0:Value} {a0:List Int} (ha0:R0_.rd w0 [u0] a0) {N:Nat} {r:Bool} (F:dV N a0=some r): Calls Try.prog 54 #[u0] w0 fun e w'=>e=.returned (.bool r)∧Ext w0 w' := by
 unfold dV at F;refine aN Try.func54 rfl rfl (dt rfl) ?_;have S:=Sat.start w0;refine sR fun _ yx=>?_;refine pa (.bool false) (en yx ?_);refine sg fun _ yl=>?_;refine sR fun _ yy=>?_;refine pa (i_ 0) (en yy ?_);refine bg fun _ ym=>?_;obtain ⟨yz,hL,yk⟩:=ob F;refine aJ (fun k e w=>∃ (D:Int),e 0=u0∧e 3=i_ D∧Sat w0 w []∧cG N k a0 D=some yz) N ?_ ?_ ?_
 ·exact ⟨0,rfl,rfl,S,hL⟩
 ·rintro e w ⟨_,_,_,_,hz⟩; exact nomatch (show none=some _ from hz)
 rintro k yI yJ ⟨D,J,U,S,F⟩;refine gn fun _ yi=>?_;refine sg fun _ yn=>?_;refine sR fun _ yA=>?_;refine pM (i_ D) U (pM u0 J (pe (i_ (a0.length:Int)) (ax rfl ha0) (pe (.bool (decide (D < (a0.length:Int)))) (aU rfl rfl) (en yA ?_))));rcases oif F with ⟨Y,F⟩|⟨Y,F⟩
 ·refine ct Y (sn yn ?_);refine sg fun _ yo=>?_;refine bg fun _ yp=>?_;refine sR fun _ yB=>?_;refine pM u0 J (pM (i_ D) U ?_);obtain ⟨yC,yq,F⟩:=ob F;refine aI (wA:=w0) rfl ha0 rfl (dt rfl) rfl yq (dt rfl) ?_;intro yK yG yL yr yt;obtain rfl:=yr;refine pe (i_ yC) (ae rfl ((ap S.below yt) 0 _ rfl)) ?_;obtain ⟨yD,yu,F⟩:=ob F;refine ec0 iy (dA yu) (ca (ai rfl (ai rfl (ai rfl rfl)))) S fun yM yH S=>?_;refine pe (.bool (!yD)) (bk rfl) (en yB ?_);rcases oif F with ⟨Z,F⟩|⟨Z,F⟩
  ·refine cf (am Z) (aS (bn yp (tn yo (ag (pM (i_ D) U ?_)))));obtain ⟨yj,yw,F⟩:=ob F;refine pe (i_ yj) (aE rfl rfl yw) (pa (i_ yj) (en yi ?_));replace S:=S.keep 0;exact ⟨yj,J,rfl,S,F⟩
  refine ct (an Z) ?_;refine sR fun _ yE=>?_;refine pa (.bool false) (en yE (ak (br yp (tr yo (tr yi (br ym (tr yl ?_)))))));replace F:=exL F yk;refine aL rfl rfl ?_;exact rB F S
 refine cf Y (aM (tx yn (tx yi ?_)));replace F:=exA F yk;refine bS ym (tn yl ?_);refine sR fun _ yF=>?_;refine pa (.bool true) (en yF (ak (aL rfl rfl ?_)));exact rB F S
theorem dN {w0:World} {a0:Int} {u1:Value} {a1:List T0_} (ha1:R3_.rd w0 [u1] a1) {N:Nat} {r:Bool} (F:cB N a0 a1=some r): Calls Try.prog 53 #[.agg #[i_ a0,u1]] w0 fun e w'=>e=.returned (.bool r)∧Ext w0 w' := by
 unfold cB at F;refine aN Try.func53 rfl rfl (dt rfl) ?_;have S:=Sat.start w0;refine sR fun _ y3=>?_;refine bv [i_ a0,u1] rfl S (dt rfl) ?_;intro zo yk S zi;refine pa (.bool false) (en y3 ?_);refine sg fun _ yz=>?_;refine sR fun _ yH=>?_;refine pe (.pointer (some ⟨yk,0 + 0,none⟩)) (ac rfl) (pe (i_ a0) (ae rfl ((S.boxAt 0 rfl) 0 _ rfl)) ?_);obtain ⟨yI,yK,F⟩:=ob F;refine ec0 iy (dA yK) (ca (ai rfl (ai rfl (ai rfl rfl)))) S fun zp zj S=>?_;refine pe (.bool (!yI)) (bk rfl) (pm (.bool (!yI)) ?_);rcases oif F with ⟨Y,F⟩|⟨Y,F⟩
 ·refine ei (am Y) (pe (.pointer (some ⟨yk,0 + 1,none⟩)) (ac rfl) (ei (am Y) (pe u1 (ae rfl ((S.boxAt 0 rfl) 1 _ rfl)) (ei (am Y) (pe (i_ (a1.length:Int)) (ax rfl ha1) (ei (am Y) (pe (.bool (decide (4000 < (a1.length:Int)))) (bp rfl rfl) (pe (.bool (decide (4000 < (a1.length:Int)))) (az rfl (am Y) rfl) (en yH ?_)))))))));rcases oif F with ⟨yp,F⟩|⟨yp,F⟩
  ·refine ct yp ?_;refine sg fun _ y4=>?_;replace S:=S.r0;refine ag (pa (.bool false) (en y4 (ak (tr yz (aL rfl rfl ?_)))));exact rB F S
  refine cf yp (sn yz ?_);refine sg fun _ yq=>?_;refine sR fun _ y5=>?_;refine pa (i_ 0) (en y5 ?_);refine bg fun _ yr=>?_;obtain ⟨y6,hL,ym⟩:=ob F;refine aJ (fun k e w=>∃ (Z:Int),e 1=.pointer (some ⟨yk,0,none⟩)∧e 3=i_ Z∧Sat w0 w [Box yk 35 [i_ a0,u1]]∧b9 N k a0 a1 Z=some y6) N ?_ ?_ ?_
  ·exact ⟨0,rfl,rfl,S,hL⟩
  ·rintro e w ⟨_,_,_,_,hz⟩; exact nomatch (show none=some _ from hz)
  rintro k zq zr ⟨Z,yi,yj,S,F⟩;refine gn fun _ yl=>?_;refine sg fun _ yJ=>?_;refine sR fun _ y7=>?_;refine pM (i_ Z) yj (pe (.pointer (some ⟨yk,0 + 1,none⟩)) (ac yi) (pe u1 (ae rfl ((S.boxAt 0 rfl) 1 _ rfl)) (pe (i_ (a1.length:Int)) (ax rfl ha1) (pe (.bool (decide (Z < (a1.length:Int)))) (aU rfl rfl) (en y7 ?_)))));rcases oif F with ⟨yt,F⟩|⟨yt,F⟩
  ·refine ct yt (sn yJ ?_);refine sg fun _ yn=>?_;refine bg fun _ yo=>?_;refine sg fun _ yu=>?_;refine ck (by kernel_rfl) (by kernel_rfl) ?_;refine qe (.pointer (some ⟨yk,0 + 1,none⟩)) (ac yi) (qe u1 (ae rfl ((S.boxAt 0 rfl) 1 _ rfl)) (qM (i_ Z) yj ?_));obtain ⟨yA,yL,F⟩:=ob F;refine bl (wA:=w0) rfl ha1 rfl (dt rfl) rfl yL (dt rfl) ?_;intro zt zk zu yD yM;obtain ⟨y8,rfl⟩:=aB yD;refine qe y8 (ae rfl ((ap S.below yM) 0 _ rfl)) (qe (i_ (yA.length:Int)) (ax rfl yD) (qe (.pointer (some ⟨yk,0 + 0,none⟩)) (ac yi) (qe (i_ a0) (ae rfl ((S.boxAt 0 rfl) 0 _ rfl)) (qe (.bool ((yA.length:Int) != a0)) (cY rfl rfl) (qm (.bool ((yA.length:Int) != a0)) ?_)))));rcases oif F with ⟨J,F⟩|⟨J,F⟩
   ·refine qo J (qo J (qo J (qo J (qo J (qo J (qo J (qe (.bool true) (aw rfl J rfl) (qm (.bool true) (qo rfl (qo rfl (qo rfl ?_)))))))))));refine bf rfl (dt rfl) ?_;refine bf rfl (dt rfl) ?_;refine bf rfl (dt rfl) ?_;refine bf rfl (dt rfl) ?_;refine bf rfl (dt rfl) ?_;refine bf rfl (dt rfl) ?_;refine bf rfl (dt rfl) ?_;refine bf rfl (dt rfl) ?_;refine bf rfl (dt rfl) ?_;refine bf rfl (dt rfl) ?_;refine bf rfl (dt rfl) ?_;refine bf rfl (dt rfl) ?_;refine bf rfl (dt rfl) ?_;refine qo rfl (qe (.bool true) (aw rfl rfl rfl) (bm ?_));intro zw yN;replace S:=S.ext yN;refine tn yu (ct rfl ?_);refine sg fun _ y9=>?_;replace S:=S.r0;refine ag (pa (.bool false) (en y9 (ak (br yo (tr yn (tr yl (br yr (tr yq ?_))))))));replace F:=exL F ym;refine aL rfl rfl ?_;exact rB F S
   refine qi J (qe (.pointer (some ⟨yk,0 + 1,none⟩)) (ac yi) (qi J (qe u1 (ae rfl ((S.boxAt 0 rfl) 1 _ rfl)) (qi J (qM (i_ Z) yj (qi J ?_))))));obtain ⟨zx,yO,F⟩:=ob F;refine bl (wA:=w0) rfl ha1 rfl (dt rfl) rfl yO (dt rfl) ?_;intro zy zl zA yE yP;obtain ⟨za,rfl⟩:=aB yE;refine qi J (qe za (ae rfl ((ap S.below yP) 0 _ rfl)) (qi J ?_));obtain ⟨yw,yQ,F⟩:=ob F;refine cU (.bool yw) ui (fun w' hw'=>iY (bF (S.up yE) hw') yQ) (ca (ai rfl rfl)) (dt rfl) ?_;refine qi J (qe (.bool (!yw)) (bk rfl) (qe (.bool (!yw)) (az rfl J rfl) (qm (.bool (!yw)) ?_)));rcases oif F with ⟨U,F⟩|⟨U,F⟩
   ·refine qi (am U) (qM (i_ Z) yj (qi (am U) (qe (.bool (decide (0 < Z))) (bp rfl rfl) (qi (am U) (qm (.bool (decide (0 < Z))) ?_)))));rcases oif F with ⟨D,F⟩|⟨D,F⟩
    ·refine qi D (qe (.pointer (some ⟨yk,0 + 1,none⟩)) (ac yi) (qi D (qe u1 (ae rfl ((S.boxAt 0 rfl) 1 _ rfl)) (qi D (qM (i_ Z) yj (qi D ?_))))));obtain ⟨zb,yR,F⟩:=ob F;refine qe (i_ zb) (c9 rfl rfl yR) (qi D ?_);obtain ⟨zB,yS,F⟩:=ob F;refine bl (wA:=w0) rfl ha1 rfl (dt rfl) rfl yS (dt rfl) ?_;intro zC zm zD yF yT;obtain ⟨zc,rfl⟩:=aB yF;refine qi D (qe zc (ae rfl ((ap S.below yT) 0 _ rfl)) (qi D (qe (.pointer (some ⟨yk,0 + 1,none⟩)) (ac yi) (qi D (qe u1 (ae rfl ((S.boxAt 0 rfl) 1 _ rfl)) (qi D (qM (i_ Z) yj (qi D ?_))))))));obtain ⟨zE,yU,F⟩:=ob F;refine bl (wA:=w0) rfl ha1 rfl (dt rfl) rfl yU (dt rfl) ?_;intro zF zn zG yG yV;obtain ⟨zd,rfl⟩:=aB yG;refine qi D (qe zd (ae rfl ((ap S.below yV) 0 _ rfl)) (qi D ?_));obtain ⟨yx,yW,F⟩:=ob F;refine cU (i_ yx) fU (fun w' hw'=>bA (bF (S.up yF) hw') (bF (S.up yG) hw') yW) (ca (ai rfl (ai rfl rfl))) (dt rfl) ?_;refine qi D (qe (.bool (decide (0 ≤ yx))) (c3 rfl rfl) (qi (am U) (qe (.bool (decide (0 ≤ yx))) (aw rfl D rfl) (qe (.bool (decide (0 ≤ yx))) (az rfl (am U) rfl) (bm ?_)))));intro zH yX;replace S:=S.ext yX;refine tn yu ?_;rcases oif F with ⟨yy,F⟩|⟨yy,F⟩
     ·refine ct yy ?_;refine sg fun _ ze=>?_;replace S:=S.r0;refine ag (pa (.bool false) (en ze (ak (br yo (tr yn (tr yl (br yr (tr yq ?_))))))));replace F:=exL F ym;refine aL rfl rfl ?_;exact rB F S
     refine cf yy (aS (bn yo (tn yn (ag (pM (i_ Z) yj ?_)))));obtain ⟨yB,yY,F⟩:=ob F;refine pe (i_ yB) (aE rfl rfl yY) (pa (i_ yB) (en yl ?_));replace S:=S.keep 1;exact ⟨yB,yi,rfl,S,F⟩
    refine qo D (qo D (qo D (qo D (qo D (qo D (qo D (qo D (qo D (qo D (qo D (qo D (qo D (qi (am U) (qe (.bool false) (az rfl D rfl) (qe (.bool false) (az rfl (am U) rfl) (bm ?_))))))))))))))));intro zI yZ;replace S:=S.ext yZ;refine tn yu (cf rfl (aS (bn yo (tn yn (ag (pM (i_ Z) yj ?_))))));obtain ⟨yC,y1,F⟩:=ob F;refine pe (i_ yC) (aE rfl rfl y1) (pa (i_ yC) (en yl ?_));replace S:=S.keep 1;exact ⟨yC,yi,rfl,S,F⟩
   refine qo (an U) (qo (an U) (qo (an U) ?_));refine bf rfl (dt rfl) ?_;refine bf rfl (dt rfl) ?_;refine bf rfl (dt rfl) ?_;refine bf rfl (dt rfl) ?_;refine bf rfl (dt rfl) ?_;refine bf rfl (dt rfl) ?_;refine bf rfl (dt rfl) ?_;refine bf rfl (dt rfl) ?_;refine bf rfl (dt rfl) ?_;refine bf rfl (dt rfl) ?_;refine bf rfl (dt rfl) ?_;refine bf rfl (dt rfl) ?_;refine bf rfl (dt rfl) ?_;refine qo (an U) (qe (.bool true) (aw rfl (an U) rfl) (bm ?_));intro zJ y2;replace S:=S.ext y2;refine tn yu (ct rfl ?_);refine sg fun _ zf=>?_;replace S:=S.r0;refine ag (pa (.bool false) (en zf (ak (br yo (tr yn (tr yl (br yr (tr yq ?_))))))));replace F:=exL F ym;refine aL rfl rfl ?_;exact rB F S
  refine cf yt (aM (tx yJ (tx yl ?_)));replace F:=exA F ym;refine bS yr (tn yq ?_);refine sg fun _ zg=>?_;replace S:=S.r0;refine ag (pa (.bool true) (en zg (ak (aL rfl rfl ?_))));exact rB F S
 refine eo (an Y) (eo (an Y) (eo (an Y) (eo (an Y) (pe (.bool true) (aw rfl (an Y) rfl) (en yH (ct rfl ?_))))));refine sg fun _ zh=>?_;replace S:=S.r0;refine ag (pa (.bool false) (en zh (ak (tr yz (aL rfl rfl ?_)))));exact rB F S
theorem lT {w0:World} {a0:Int} {u1:Value} {a1:List T0_} (ha1:R3_.rd w0 [u1] a1) {N:Nat} {r:Int × List T0_} (F:hD N a0 a1=some r): Calls Try.prog 55 #[.agg #[i_ a0,u1]] w0 fun e w'=>∃ (q0:Value),e=.returned (.agg #[i_ r.1,q0])∧Sat w0 w' [Own R3_ [q0] r.2] := by
 unfold hD at F;refine aN Try.func55 rfl rfl (dt rfl) ?_;have S:=Sat.start w0;refine sR fun _ yJ=>?_;refine bv [i_ a0,u1] rfl S (dt rfl) ?_;intro y6 J S yY;refine aF S (dt rfl) ?_;intro y7 yi S yZ;refine en yJ ?_;refine sR fun _ yK=>?_;refine pe (.pointer (some ⟨J,0 + 0,none⟩)) (ac rfl) (pe (i_ a0) (ae rfl ((S.boxAt 1 rfl) 0 _ rfl)) (pe (.agg #[i_ a0,n_]) (bc [(0,[i_ a0])] [i_ a0,n_] (cL rfl rfl) rfl) ?_));refine aF S (dt rfl) ?_;intro y8 U S y1;refine aj (S.top 0 rfl) rfl [i_ a0,n_] rfl rfl (dt rfl) (all_cons rfl (all_cons rfl rfl)) ?_;intro yL S;replace S:Sat w0 yL [Box U 35 [i_ a0,n_],Box yi 35 [i_ 0,n_],Box J 35 [i_ a0,u1]]:=S;refine en yK ?_;refine sg fun _ yM=>?_;refine sR fun _ yN=>?_;refine pa (i_ 0) (en yN ?_);refine bg fun _ yO=>?_;replace S:=S.nil R0_ 28;obtain ⟨yP,hL,yA⟩:=ob F;refine aJ (fun k e w=>∃ (D:Value),∃ (yj:List T0_),∃ (Y:Int),e 1=.pointer (some ⟨J,0,none⟩)∧e 2=.pointer (some ⟨yi,0,none⟩)∧e 3=.pointer (some ⟨U,0,none⟩)∧e 4=i_ Y∧Sat w0 w [Own R3_ [D] yj,Box U 35 [i_ a0,D],Box yi 35 [i_ 0,n_],Box J 35 [i_ a0,u1]]∧dI N k a0 a1 0 [] a0 yj Y=some yP) N ?_ ?_ ?_
 ·exact ⟨n_,[],0,rfl,rfl,rfl,rfl,S,hL⟩
 ·rintro e w ⟨_,_,_,_,_,_,_,_,hz⟩; exact nomatch (show none=some _ from hz)
 rintro k y9 za ⟨D,yj,Y,yk,yl,Z,ym,S,F⟩;refine gn fun _ yu=>?_;refine sg fun _ yw=>?_;refine sR fun _ yQ=>?_;refine pM (i_ Y) ym (pe (.pointer (some ⟨J,0 + 1,none⟩)) (ac yk) (pe u1 (ae rfl ((S.boxAt 3 rfl) 1 _ rfl)) (pe (i_ (a1.length:Int)) (ax rfl ha1) (pe (.bool (decide (Y < (a1.length:Int)))) (aU rfl rfl) (en yQ ?_)))));rcases oif F with ⟨yn,F⟩|⟨yn,F⟩
 ·refine ct yn (sn yw ?_);refine sg fun _ yR=>?_;refine bg fun _ yS=>?_;obtain ⟨C,hCd⟩:∃ C:World → Prop,∀ w,C w ↔ ∃ G,Sat w0 w ([Box U 35 [i_ a0,D],Box J 35 [i_ a0,u1]] ++ G):=⟨_,fun _=>Iff.rfl⟩;refine bR [0,1,2,3,4,5,6,7,8,9,10,11] C (by kernel_rfl) ?_;intro zb yB;replace S:=S.ext yB;replace S:=S.t3.t2;have hC:=(hCd _).2 ⟨_,S⟩;refine aP (.pointer (some ⟨U,0 + 1,none⟩)) 0 rfl rfl hC (ay rfl (fun w' hw'=>by obtain ⟨_,S⟩:=(hCd _).1 hw'; exact (ac Z))) ?_;refine aP D 1 rfl rfl hC (ay rfl (fun w' hw'=>by obtain ⟨_,S⟩:=(hCd _).1 hw'; exact (ae rfl ((S.boxAt 0 rfl) 1 _ rfl)))) ?_;refine aP (.pointer (some ⟨J,0 + 1,none⟩)) 3 rfl rfl hC (ay rfl (fun w' hw'=>by obtain ⟨_,S⟩:=(hCd _).1 hw'; exact (ac yk))) ?_;refine aP u1 4 rfl rfl hC (ay rfl (fun w' hw'=>by obtain ⟨_,S⟩:=(hCd _).1 hw'; exact (ae rfl ((S.boxAt 1 rfl) 1 _ rfl)))) ?_;refine aP (i_ Y) 5 rfl rfl hC (ay rfl (fun w' hw'=>by obtain ⟨_,S⟩:=(hCd _).1 hw'; exact (be ym))) ?_;obtain ⟨yT,yC,F⟩:=ob F;refine gS (wA:=w0) (by kernel_rfl) 6 rfl hC (by kernel_rfl) (by kernel_rfl) rfl ha1 rfl (dt rfl) rfl yC (dt rfl) ?_;intro zc y2 zd yq yD;obtain ⟨yU,rfl⟩:=aB yq;refine aP yU 7 rfl rfl hC (ay rfl (fun w' hw'=>by obtain ⟨_,S⟩:=(hCd _).1 hw'; exact (ae rfl ((ap S.below yD) 0 _ rfl)))) ?_;refine aO 2 rfl ?_;refine bi cp S (dt rfl) ?_;intro ze zf S y3;refine ah ?_;replace S:=S.t2.t2;have hC:=(hCd _).2 ⟨_,S⟩;refine ⟨fun _=>hC,?_⟩;refine aO 8 rfl ?_;obtain ⟨zg,yE,F⟩:=ob F;obtain ⟨y4,zh,yF,yG,yr⟩:=eS (S.up yq);replace S:=S.t2;replace S:=S.ints (xs:=yT);refine aC rfl (dt rfl) rfl (dt rfl) S rfl (rfl.trans yF) rfl yG yr yE (dt rfl) ?_;intro zi yx S;refine ah ?_;replace S:=S.t2.t2;have hC:=(hCd _).2 ⟨_,S⟩;refine ⟨fun _=>hC,?_⟩;refine aO 9 rfl ?_;refine aq [yx] (aK rfl (oc (S.rdAt (R:=R0_) 2 rfl))) (by rfl) (dt rfl) rfl (dt rfl) S (dt rfl) ?_;intro zj yV S y5;refine ah ?_;replace S:=S.t2.t2;have hC:=(hCd _).2 ⟨_,S⟩;refine ⟨fun _=>hC,?_⟩;refine aO 10 rfl ?_;obtain ⟨yy,yH,F⟩:=ob F;have yt:=S.boxRow 2 rfl;replace S:=S.t4;replace S:=S.t4;replace S:=S.one;refine aC rfl (dt rfl) rfl (dt rfl) S rfl rfl rfl (by simp) yt yH (dt rfl) ?_;intro zk yo S;refine ah ?_;replace S:=S.t2.t2;have hC:=(hCd _).2 ⟨_,S⟩;refine ⟨fun _=>hC,?_⟩;refine aO 11 rfl ?_;refine pe (.pointer (some ⟨U,0 + 1,none⟩)) (ac Z) (ah ?_);refine ⟨fun _=>hC,?_⟩;refine aO 12 rfl ?_;refine aj (S.top 0 rfl) rfl [yo] (aK rfl (oc (S.rdAt (R:=R3_) 2 rfl))) rfl (dt rfl) (all_cons (oc (S.rdAt (R:=R3_) 2 rfl)) rfl) ?_;intro yW S;replace S:Sat w0 yW [Box U 35 [i_ a0,yo],Box J 35 [i_ a0,u1],Own R3_ [yo] yy,Box yV 28 [yx],Box yi 35 [i_ 0,n_]]:=S;refine ah ?_;refine ⟨fun h=>(nomatch (show false=true from h)),?_⟩;refine bz (by kernel_rfl) ?_;refine bn yS (tn yR ?_);replace S:=S.r3;refine ag (pM (i_ Y) ym ?_);obtain ⟨yp,yI,F⟩:=ob F;refine pe (i_ yp) (aE rfl rfl yI) (pa (i_ yp) (en yu ?_));replace S:=S.t1.t3.t2.t3;replace S:=S.keep 4;exact ⟨yo,yy,yp,yk,yl,Z,rfl,S,F⟩
 refine cf yn (aM (tx yw (tx yu ?_)));replace F:=exB F yA;refine bS yO (tn yM ?_);refine sg fun _ yX=>?_;replace S:=S.r3;refine ag (pe (.agg #[i_ a0,D]) (au (cs:=[i_ a0,D]) Z rfl (av (S.boxAt 1 rfl))) ?_);refine aj (S.top 2 rfl) yl [i_ a0,D] rfl rfl (dt rfl) (all_cons rfl (all_cons (oc (S.rdAt (R:=R3_) 0 rfl)) rfl)) ?_;intro yz S;replace S:Sat w0 yz [Box yi 35 [i_ a0,D],Own R3_ [D] yj,Box U 35 [i_ a0,D]]:=S;refine en yX (ak ?_);refine dg (cs:=[i_ a0,D]) rfl yl rfl (av (S.boxAt 0 rfl))  ?_;replace S:=S.t1;have hr:=Option.some.inj F;exact ⟨D,congrArg (fun (r:Int × List T0_)=>Ending.returned (.agg #[i_ r.1,D])) hr,Eq.mp (congrArg (fun (r:Int × List T0_)=>Sat w0 yz [Own R3_ [D] r.2]) hr) (S.keep 1)⟩
theorem oY (N:Nat):∀ {w0:World} {u0:Value} {a0:List T0_} (_:R3_.rd w0 [u0] a0) {r:T1_} (_:eg N a0=some r), Calls Try.prog 56 #[u0] w0 fun e w'=>∃ (q0:Value),e=.returned (q0)∧Ext w0 w'∧R3_.rd w' [q0] r := by
 induction N with
 | zero=>intros; exact nomatch (show none=some _ by assumption)
 | succ N ih=>
  intro w0 u0 a0 ha0 r F;refine aN Try.func56 rfl rfl (dt rfl) ?_;have S:=Sat.start w0;refine sR fun _ DQ=>?_;refine pa n_ (en DQ ?_);refine sg fun _ AT=>?_;refine sR fun _ DR=>?_;refine pm u0 (pe (i_ (a0.length:Int)) (ax rfl ha0) (pe (.bool (decide ((a0.length:Int) < 2))) (aU rfl rfl) (en DR ?_)));rcases oif F with ⟨zl,F⟩|⟨zl,F⟩
  ·refine ct zl ?_;refine sR fun _ DS=>?_;refine pm u0 (pa u0 (en DS (ak (tr AT (aL rfl rfl ?_)))));have hr:=Option.some.inj F;exact ⟨u0,congrArg (fun (r:T1_)=>Ending.returned (u0)) hr,S.below,Eq.mp (congrArg (fun (r:T1_)=>R3_.rd w0 [u0] r) hr :) (S.up ha0)⟩
  refine cf zl (sn AT ?_);refine sR fun _ DT=>?_;refine pm u0 (pe (i_ (a0.length:Int)) (ax rfl ha0) ?_);obtain ⟨zm,BO,F⟩:=ob F;refine pe (i_ zm) (ro rfl rfl BO) (pa (i_ zm) (en DT ?_));refine sR fun _ DU=>?_;refine pm u0 (pm (i_ zm) ?_);obtain ⟨F4,BP,F⟩:=ob F;refine eq (wA:=w0) rfl rfl ha0 (.inr ⟨rfl,rfl⟩) (.inl (congrArg some rfl)) BP (dt rfl) ?_;intro F5 As;obtain ⟨DV,BQ,F⟩:=ob F;refine aW rR (ih (S.up As) BQ) (ca (ai rfl rfl)) (dt rfl) ?_;rintro _ Ae ⟨AU,rfl,BR,BS⟩;refine ⟨_,rfl,?_⟩;replace S:=S.ext BR;have BT:Ext w0 Ae:=S.below;have zn:=S.up ha0;have Fj:=S.up ha0;have Fk:=S.up As;replace S:=Sat.start Ae;refine pa AU (en DU ?_);refine sR fun _ DW=>?_;refine pm u0 (pm (i_ zm) ?_);obtain ⟨F6,BU,F⟩:=ob F;refine eq (wA:=Ae) rfl rfl zn (.inl (congrArg some rfl)) (.inr ⟨rfl,rfl⟩) BU (dt rfl) ?_;intro F7 At;obtain ⟨DX,BV,F⟩:=ob F;refine aW rR (ih (S.up At) BV) (ca (ai rfl rfl)) (dt rfl) ?_;rintro _ D ⟨AV,rfl,BW,BX⟩;refine ⟨_,rfl,?_⟩;replace S:=S.ext BW;have BY:Ext w0 D:=(S.rebase BT).below;have Fl:=S.up zn;have BZ:=S.up BS;have Fm:=S.up zn;have Fn:=S.up At;replace S:=Sat.start D;refine pa AV (en DW ?_);refine sR fun _ DY=>?_;refine bi (roR D R0_) S (dt rfl) ?_;intro F8 AW S Fo;refine pa AW (en DY ?_);refine sg fun _ DZ=>?_;refine bg fun _ D0=>?_;obtain ⟨D1,hL,B0⟩:=ob F;refine aJ (fun k e w=>∃ (yl:Value),∃ (yo:List T0_),∃ (ym:Value),∃ (yp:List T0_),∃ (U:Value),∃ (Y:List T0_),e 4=yl∧e 5=ym∧e 6=U∧Sat D w [Own (aA (roR D R0_) 28) [U] Y]∧R3_.rd D [yl] yo∧R3_.rd D [ym] yp∧aG (eg N) N k yo yp Y=some D1) N ?_ ?_ ?_
  ·exact ⟨AU,DV,AV,DX,AW,[],rfl,rfl,rfl,S,BZ,BX,hL⟩
  ·rintro e w ⟨_,_,_,_,_,_,_,_,_,_,_,_,hz⟩; exact nomatch (show none=some _ from hz)
  rintro k F9 D2 ⟨yl,yo,ym,yp,U,Y,Z,yi,J,S,yj,yk,F⟩;refine gn fun _ yn=>?_;refine sg fun _ Af=>?_;refine sR fun _ AX=>?_;refine pM yl Z (pe (i_ (yo.length:Int)) (ax rfl yj) (pe (.bool (decide (0 < (yo.length:Int)))) (bp rfl rfl) (pm (.bool (decide (0 < (yo.length:Int)))) ?_)));rcases oif F with ⟨yE,F⟩|⟨yE,F⟩
  ·refine eo yE (eo yE (eo yE (pe (.bool true) (aw rfl yE rfl) (en AX (ct rfl (sn Af ?_))))));refine bg fun _ yC=>?_;refine sR fun _ D3=>?_;refine pa (i_ 0) (en D3 ?_);refine sg fun _ Ag=>?_;refine bg fun _ Ah=>?_;refine sR fun _ D4=>?_;refine pM yl Z (pe (i_ (yo.length:Int)) (ax rfl yj) (pe (.bool ((yo.length:Int) == 0)) (bK rfl rfl) (pa (.bool ((yo.length:Int) == 0)) (en D4 ?_))));rcases oif F with ⟨zo,F⟩|⟨zo,F⟩
   ·refine ct zo (ag (pa (i_ 1) (ah (bn Ah (tn Ag ?_)))));refine sR fun _ D5=>?_;refine bi cp S (dt rfl) ?_;intro AY D6 S Fp;refine pa D6 (en D5 ?_);refine sg fun _ AZ=>?_;refine sg fun _ D7=>?_;replace S:=S.r0;refine ag (pm (i_ 1) (pe (.bool (decide (0 < (1:Int)))) (bp rfl rfl) (en D7 ?_)));rcases oif F with ⟨zp,F⟩|⟨zp,F⟩
    ·refine ct zp ?_;refine sR fun _ D8=>?_;refine pM ym yi ?_;obtain ⟨Ga,B1,F⟩:=ob F;refine aI (wA:=D) rfl yk rfl (dt rfl) rfl B1 (dt rfl) ?_;intro Gb Fq Gc yF B2;obtain ⟨yP,rfl⟩:=aB yF;refine pe yP (ae rfl ((ap S.below B2) 0 _ rfl)) (pa yP (en D8 (ag (pM ym yi ?_))));obtain ⟨Ai,B3,F⟩:=ob F;refine eq (wA:=D) rfl rfl yk (.inl (congrArg some rfl)) (.inr ⟨rfl,rfl⟩) B3 (dt rfl) ?_;intro zq zr;refine pa zq (en AZ ?_);refine sR fun _ A0=>?_;refine pM U J (pe (i_ (Y.length:Int)) (ax rfl (S.rdAt (R:=(aA (roR D R0_) 28)) 0 rfl)) (pe (.bool ((Y.length:Int) == 0)) (bK rfl rfl) (pm (.bool ((Y.length:Int) == 0)) ?_)));rcases oif F with ⟨yq,F⟩|⟨yq,F⟩
     ·refine eo yq (eo yq (eo yq (eo yq (eo yq (eo yq (eo yq (eo yq (eo yq (pe (.bool true) (aw rfl yq rfl) (en A0 (ct rfl (ag (pM U J (pm yP ?_))))))))))))));refine aq [yP] (aK rfl (oc yF)) (by rfl) (dt rfl) rfl (dt rfl) S (dt rfl) ?_;intro Gd Ge S Fr;obtain ⟨D9,B4,F⟩:=ob F;have Ay:=S.boxRow 0 rfl;replace S:=S.t1;replace S:=S.roOne (R:=R0_) (W:=D) yF;replace S:=S.one;refine aC rfl (dt rfl) rfl (dt rfl) S rfl rfl rfl (by simp) Ay B4 (dt rfl) ?_;intro Gf A1 S;refine pa A1 (ah (bn yC (tn yn ?_)));replace S:=S.keep 1;exact ⟨yl,yo,zq,Ai,A1,D9,Z,rfl,rfl,S,yj,zr,F⟩
     refine ei yq (pM U J (ei yq (pM U J (ei yq (pe (i_ (Y.length:Int)) (ax rfl (S.rdAt (R:=(aA (roR D R0_) 28)) 0 rfl)) (ei yq ?_))))));obtain ⟨Ea,B5,F⟩:=ob F;refine pe (i_ Ea) (c9 rfl rfl B5) (ei yq ?_);obtain ⟨Gg,B6,F⟩:=ob F;refine aI (wA:=AY) rfl (S.rdAt (R:=(aA (roR D R0_) 28)) 0 rfl) rfl (dt rfl) rfl B6 (dt rfl) ?_;intro Gh Fs Gi za yZ;replace za:R0_.rd D _ _:=za;obtain ⟨Eb,rfl⟩:=aB za;refine ei yq (pe Eb (ae rfl (yZ 0 _ rfl)) (ei yq (pm yP (ei yq ?_))));obtain ⟨A2,B7,F⟩:=ob F;refine ec0 fU (bA (S.up za) (S.up yF) B7) (ca (ai rfl (ai rfl rfl))) S fun Gj B8 S=>?_;have yZ:=ap B8 yZ;refine ei yq (pe (.bool (A2 != 0)) (cY rfl rfl) (pe (.bool (A2 != 0)) (az rfl yq rfl) (en A0 ?_)));rcases oif F with ⟨zt,F⟩|⟨zt,F⟩
     ·refine ct zt (ag (pM U J (pm yP ?_)));refine aq [yP] (aK rfl (oc yF)) (by rfl) (dt rfl) rfl (dt rfl) S (dt rfl) ?_;intro Gk Gl S B9;have yZ:=ap B9 yZ;obtain ⟨Ec,Ca,F⟩:=ob F;have Az:=S.boxRow 0 rfl;replace S:=S.t1;replace S:=S.roOne (R:=R0_) (W:=D) yF;replace S:=S.one;refine aC rfl (dt rfl) rfl (dt rfl) S rfl rfl rfl (by simp) Az Ca (dt rfl) ?_;intro Gm A3 S;refine pa A3 (ah (bn yC (tn yn ?_)));replace S:=S.keep 1;exact ⟨yl,yo,zq,Ai,A3,Ec,Z,rfl,rfl,S,yj,zr,F⟩
     refine cf zt (aS (bn yC (tn yn ?_)));replace S:=S.keep 1;exact ⟨yl,yo,zq,Ai,U,Y,Z,rfl,J,S,yj,zr,F⟩
    refine cf zp ?_;refine sR fun _ Ed=>?_;refine pM yl Z ?_;obtain ⟨Gn,Cb,F⟩:=ob F;refine aI (wA:=D) rfl yj rfl (dt rfl) rfl Cb (dt rfl) ?_;intro Gp Ft Gq yG Cc;obtain ⟨yQ,rfl⟩:=aB yG;refine pe yQ (ae rfl ((ap S.below Cc) 0 _ rfl)) (pa yQ (en Ed (ag (pM yl Z ?_))));obtain ⟨Aj,Cd,F⟩:=ob F;refine eq (wA:=D) rfl rfl yj (.inl (congrArg some rfl)) (.inr ⟨rfl,rfl⟩) Cd (dt rfl) ?_;intro zu zw;refine pa zu (en AZ ?_);refine sR fun _ A4=>?_;refine pM U J (pe (i_ (Y.length:Int)) (ax rfl (S.rdAt (R:=(aA (roR D R0_) 28)) 0 rfl)) (pe (.bool ((Y.length:Int) == 0)) (bK rfl rfl) (pm (.bool ((Y.length:Int) == 0)) ?_)));rcases oif F with ⟨yr,F⟩|⟨yr,F⟩
    ·refine eo yr (eo yr (eo yr (eo yr (eo yr (eo yr (eo yr (eo yr (eo yr (pe (.bool true) (aw rfl yr rfl) (en A4 (ct rfl (ag (pM U J (pm yQ ?_))))))))))))));refine aq [yQ] (aK rfl (oc yG)) (by rfl) (dt rfl) rfl (dt rfl) S (dt rfl) ?_;intro Gr Gs S Fu;obtain ⟨Ee,Ce,F⟩:=ob F;have AA:=S.boxRow 0 rfl;replace S:=S.t1;replace S:=S.roOne (R:=R0_) (W:=D) yG;replace S:=S.one;refine aC rfl (dt rfl) rfl (dt rfl) S rfl rfl rfl (by simp) AA Ce (dt rfl) ?_;intro Gt A5 S;refine pa A5 (ah (bn yC (tn yn ?_)));replace S:=S.keep 1;exact ⟨zu,Aj,ym,yp,A5,Ee,rfl,yi,rfl,S,zw,yk,F⟩
    refine ei yr (pM U J (ei yr (pM U J (ei yr (pe (i_ (Y.length:Int)) (ax rfl (S.rdAt (R:=(aA (roR D R0_) 28)) 0 rfl)) (ei yr ?_))))));obtain ⟨Ef,Cf,F⟩:=ob F;refine pe (i_ Ef) (c9 rfl rfl Cf) (ei yr ?_);obtain ⟨Gu,Cg,F⟩:=ob F;refine aI (wA:=AY) rfl (S.rdAt (R:=(aA (roR D R0_) 28)) 0 rfl) rfl (dt rfl) rfl Cg (dt rfl) ?_;intro Gv Fv Gw zb y1;replace zb:R0_.rd D _ _:=zb;obtain ⟨Eg,rfl⟩:=aB zb;refine ei yr (pe Eg (ae rfl (y1 0 _ rfl)) (ei yr (pm yQ (ei yr ?_))));obtain ⟨A6,Ch,F⟩:=ob F;refine ec0 fU (bA (S.up zb) (S.up yG) Ch) (ca (ai rfl (ai rfl rfl))) S fun Gx Ci S=>?_;have y1:=ap Ci y1;refine ei yr (pe (.bool (A6 != 0)) (cY rfl rfl) (pe (.bool (A6 != 0)) (az rfl yr rfl) (en A4 ?_)));rcases oif F with ⟨zx,F⟩|⟨zx,F⟩
    ·refine ct zx (ag (pM U J (pm yQ ?_)));refine aq [yQ] (aK rfl (oc yG)) (by rfl) (dt rfl) rfl (dt rfl) S (dt rfl) ?_;intro Gy Gz S Cj;have y1:=ap Cj y1;obtain ⟨Eh,Ck,F⟩:=ob F;have AB:=S.boxRow 0 rfl;replace S:=S.t1;replace S:=S.roOne (R:=R0_) (W:=D) yG;replace S:=S.one;refine aC rfl (dt rfl) rfl (dt rfl) S rfl rfl rfl (by simp) AB Ck (dt rfl) ?_;intro GA A7 S;refine pa A7 (ah (bn yC (tn yn ?_)));replace S:=S.keep 1;exact ⟨zu,Aj,ym,yp,A7,Eh,rfl,yi,rfl,S,zw,yk,F⟩
    refine cf zx (aS (bn yC (tn yn ?_)));replace S:=S.keep 1;exact ⟨zu,Aj,ym,yp,U,Y,rfl,yi,J,S,zw,yk,F⟩
   refine cf zo ?_;refine sR fun _ Ei=>?_;refine pM ym yi (pe (i_ (yp.length:Int)) (ax rfl yk) (pe (.bool (decide (0 < (yp.length:Int)))) (bp rfl rfl) (pa (.bool (decide (0 < (yp.length:Int)))) (en Ei ?_))));rcases oif F with ⟨zy,F⟩|⟨zy,F⟩
   ·refine ct zy ?_;refine ck (by kernel_rfl) (by kernel_rfl) ?_;refine qM yl Z ?_;obtain ⟨GB,Cl,F⟩:=ob F;refine bl (wA:=D) rfl yj rfl (dt rfl) rfl Cl (dt rfl) ?_;intro GC Fw GD Au Cm;obtain ⟨Ej,rfl⟩:=aB Au;refine qe Ej (ae rfl ((ap S.below Cm) 0 _ rfl)) (qM ym yi ?_);obtain ⟨GE,Cn,F⟩:=ob F;refine bl (wA:=D) rfl yk rfl (dt rfl) rfl Cn (dt rfl) ?_;intro GF Fx GG Av Co;obtain ⟨Ek,rfl⟩:=aB Av;refine qe Ek (ae rfl ((ap S.below Co) 0 _ rfl)) ?_;obtain ⟨zA,Cp,F⟩:=ob F;refine cU (i_ zA) fU (fun w' hw'=>bA (bF (S.up Au) hw') (bF (S.up Av) hw') Cp) (ca (ai rfl (ai rfl rfl))) (dt rfl) ?_;refine qe (i_ zA) (cr rfl) (bm ?_);intro GH Cq;replace S:=S.ext Cq;refine bn Ah (tn Ag ?_);refine sR fun _ El=>?_;refine bi cp S (dt rfl) ?_;intro A8 Em S Fy;refine pa Em (en El ?_);refine sg fun _ A9=>?_;refine sg fun _ En=>?_;replace S:=S.r0;refine ag (pm (i_ zA) (pe (.bool (decide (0 < zA))) (bp rfl rfl) (en En ?_)));rcases oif F with ⟨zB,F⟩|⟨zB,F⟩
    ·refine ct zB ?_;refine sR fun _ Eo=>?_;refine pM ym yi ?_;obtain ⟨GI,Cr,F⟩:=ob F;refine aI (wA:=D) rfl yk rfl (dt rfl) rfl Cr (dt rfl) ?_;intro GJ Fz GK yH Cs;obtain ⟨yR,rfl⟩:=aB yH;refine pe yR (ae rfl ((ap S.below Cs) 0 _ rfl)) (pa yR (en Eo (ag (pM ym yi ?_))));obtain ⟨Ak,Ct,F⟩:=ob F;refine eq (wA:=D) rfl rfl yk (.inl (congrArg some rfl)) (.inr ⟨rfl,rfl⟩) Ct (dt rfl) ?_;intro zC zD;refine pa zC (en A9 ?_);refine sR fun _ Ba=>?_;refine pM U J (pe (i_ (Y.length:Int)) (ax rfl (S.rdAt (R:=(aA (roR D R0_) 28)) 0 rfl)) (pe (.bool ((Y.length:Int) == 0)) (bK rfl rfl) (pm (.bool ((Y.length:Int) == 0)) ?_)));rcases oif F with ⟨yt,F⟩|⟨yt,F⟩
     ·refine eo yt (eo yt (eo yt (eo yt (eo yt (eo yt (eo yt (eo yt (eo yt (pe (.bool true) (aw rfl yt rfl) (en Ba (ct rfl (ag (pM U J (pm yR ?_))))))))))))));refine aq [yR] (aK rfl (oc yH)) (by rfl) (dt rfl) rfl (dt rfl) S (dt rfl) ?_;intro GL GM S FA;obtain ⟨Ep,Cu,F⟩:=ob F;have AC:=S.boxRow 0 rfl;replace S:=S.t1;replace S:=S.roOne (R:=R0_) (W:=D) yH;replace S:=S.one;refine aC rfl (dt rfl) rfl (dt rfl) S rfl rfl rfl (by simp) AC Cu (dt rfl) ?_;intro GN Bb S;refine pa Bb (ah (bn yC (tn yn ?_)));replace S:=S.keep 1;exact ⟨yl,yo,zC,Ak,Bb,Ep,Z,rfl,rfl,S,yj,zD,F⟩
     refine ei yt (pM U J (ei yt (pM U J (ei yt (pe (i_ (Y.length:Int)) (ax rfl (S.rdAt (R:=(aA (roR D R0_) 28)) 0 rfl)) (ei yt ?_))))));obtain ⟨Er,Cv,F⟩:=ob F;refine pe (i_ Er) (c9 rfl rfl Cv) (ei yt ?_);obtain ⟨GO,Cw,F⟩:=ob F;refine aI (wA:=A8) rfl (S.rdAt (R:=(aA (roR D R0_) 28)) 0 rfl) rfl (dt rfl) rfl Cw (dt rfl) ?_;intro GP FB GQ zc y2;replace zc:R0_.rd D _ _:=zc;obtain ⟨Es,rfl⟩:=aB zc;refine ei yt (pe Es (ae rfl (y2 0 _ rfl)) (ei yt (pm yR (ei yt ?_))));obtain ⟨Bc,Cx,F⟩:=ob F;refine ec0 fU (bA (S.up zc) (S.up yH) Cx) (ca (ai rfl (ai rfl rfl))) S fun GR Cy S=>?_;have y2:=ap Cy y2;refine ei yt (pe (.bool (Bc != 0)) (cY rfl rfl) (pe (.bool (Bc != 0)) (az rfl yt rfl) (en Ba ?_)));rcases oif F with ⟨zE,F⟩|⟨zE,F⟩
     ·refine ct zE (ag (pM U J (pm yR ?_)));refine aq [yR] (aK rfl (oc yH)) (by rfl) (dt rfl) rfl (dt rfl) S (dt rfl) ?_;intro GS GT S Cz;have y2:=ap Cz y2;obtain ⟨Et,CA,F⟩:=ob F;have AD:=S.boxRow 0 rfl;replace S:=S.t1;replace S:=S.roOne (R:=R0_) (W:=D) yH;replace S:=S.one;refine aC rfl (dt rfl) rfl (dt rfl) S rfl rfl rfl (by simp) AD CA (dt rfl) ?_;intro GU Bd S;refine pa Bd (ah (bn yC (tn yn ?_)));replace S:=S.keep 1;exact ⟨yl,yo,zC,Ak,Bd,Et,Z,rfl,rfl,S,yj,zD,F⟩
     refine cf zE (aS (bn yC (tn yn ?_)));replace S:=S.keep 1;exact ⟨yl,yo,zC,Ak,U,Y,Z,rfl,J,S,yj,zD,F⟩
    refine cf zB ?_;refine sR fun _ Eu=>?_;refine pM yl Z ?_;obtain ⟨GV,CB,F⟩:=ob F;refine aI (wA:=D) rfl yj rfl (dt rfl) rfl CB (dt rfl) ?_;intro GW FC GX yI CC;obtain ⟨yS,rfl⟩:=aB yI;refine pe yS (ae rfl ((ap S.below CC) 0 _ rfl)) (pa yS (en Eu (ag (pM yl Z ?_))));obtain ⟨Al,CD,F⟩:=ob F;refine eq (wA:=D) rfl rfl yj (.inl (congrArg some rfl)) (.inr ⟨rfl,rfl⟩) CD (dt rfl) ?_;intro zF zG;refine pa zF (en A9 ?_);refine sR fun _ Be=>?_;refine pM U J (pe (i_ (Y.length:Int)) (ax rfl (S.rdAt (R:=(aA (roR D R0_) 28)) 0 rfl)) (pe (.bool ((Y.length:Int) == 0)) (bK rfl rfl) (pm (.bool ((Y.length:Int) == 0)) ?_)));rcases oif F with ⟨yu,F⟩|⟨yu,F⟩
    ·refine eo yu (eo yu (eo yu (eo yu (eo yu (eo yu (eo yu (eo yu (eo yu (pe (.bool true) (aw rfl yu rfl) (en Be (ct rfl (ag (pM U J (pm yS ?_))))))))))))));refine aq [yS] (aK rfl (oc yI)) (by rfl) (dt rfl) rfl (dt rfl) S (dt rfl) ?_;intro GY GZ S FD;obtain ⟨Ev,CE,F⟩:=ob F;have AE:=S.boxRow 0 rfl;replace S:=S.t1;replace S:=S.roOne (R:=R0_) (W:=D) yI;replace S:=S.one;refine aC rfl (dt rfl) rfl (dt rfl) S rfl rfl rfl (by simp) AE CE (dt rfl) ?_;intro G1 Bf S;refine pa Bf (ah (bn yC (tn yn ?_)));replace S:=S.keep 1;exact ⟨zF,Al,ym,yp,Bf,Ev,rfl,yi,rfl,S,zG,yk,F⟩
    refine ei yu (pM U J (ei yu (pM U J (ei yu (pe (i_ (Y.length:Int)) (ax rfl (S.rdAt (R:=(aA (roR D R0_) 28)) 0 rfl)) (ei yu ?_))))));obtain ⟨Ew,CF,F⟩:=ob F;refine pe (i_ Ew) (c9 rfl rfl CF) (ei yu ?_);obtain ⟨G2,CG,F⟩:=ob F;refine aI (wA:=A8) rfl (S.rdAt (R:=(aA (roR D R0_) 28)) 0 rfl) rfl (dt rfl) rfl CG (dt rfl) ?_;intro G3 FE G4 zd y3;replace zd:R0_.rd D _ _:=zd;obtain ⟨Ex,rfl⟩:=aB zd;refine ei yu (pe Ex (ae rfl (y3 0 _ rfl)) (ei yu (pm yS (ei yu ?_))));obtain ⟨Bg,CH,F⟩:=ob F;refine ec0 fU (bA (S.up zd) (S.up yI) CH) (ca (ai rfl (ai rfl rfl))) S fun G5 CI S=>?_;have y3:=ap CI y3;refine ei yu (pe (.bool (Bg != 0)) (cY rfl rfl) (pe (.bool (Bg != 0)) (az rfl yu rfl) (en Be ?_)));rcases oif F with ⟨zH,F⟩|⟨zH,F⟩
    ·refine ct zH (ag (pM U J (pm yS ?_)));refine aq [yS] (aK rfl (oc yI)) (by rfl) (dt rfl) rfl (dt rfl) S (dt rfl) ?_;intro G6 G7 S CJ;have y3:=ap CJ y3;obtain ⟨Ey,CK,F⟩:=ob F;have AF:=S.boxRow 0 rfl;replace S:=S.t1;replace S:=S.roOne (R:=R0_) (W:=D) yI;replace S:=S.one;refine aC rfl (dt rfl) rfl (dt rfl) S rfl rfl rfl (by simp) AF CK (dt rfl) ?_;intro G8 Bh S;refine pa Bh (ah (bn yC (tn yn ?_)));replace S:=S.keep 1;exact ⟨zF,Al,ym,yp,Bh,Ey,rfl,yi,rfl,S,zG,yk,F⟩
    refine cf zH (aS (bn yC (tn yn ?_)));replace S:=S.keep 1;exact ⟨zF,Al,ym,yp,U,Y,rfl,yi,J,S,zG,yk,F⟩
   refine cf zy (ag (pa (i_ (-1)) (ah (bn Ah (tn Ag ?_)))));refine sR fun _ Ez=>?_;refine bi cp S (dt rfl) ?_;intro Bi EA S FF;refine pa EA (en Ez ?_);refine sg fun _ Bj=>?_;refine sg fun _ EB=>?_;replace S:=S.r0;refine ag (pm (i_ (-1)) (pe (.bool (decide (0 < ((-1):Int)))) (bp rfl rfl) (en EB ?_)));rcases oif F with ⟨zI,F⟩|⟨zI,F⟩
   ·refine ct zI ?_;refine sR fun _ EC=>?_;refine pM ym yi ?_;obtain ⟨G9,CL,F⟩:=ob F;refine aI (wA:=D) rfl yk rfl (dt rfl) rfl CL (dt rfl) ?_;intro Ha FG Hb yJ CM;obtain ⟨yT,rfl⟩:=aB yJ;refine pe yT (ae rfl ((ap S.below CM) 0 _ rfl)) (pa yT (en EC (ag (pM ym yi ?_))));obtain ⟨Am,CN,F⟩:=ob F;refine eq (wA:=D) rfl rfl yk (.inl (congrArg some rfl)) (.inr ⟨rfl,rfl⟩) CN (dt rfl) ?_;intro zJ zK;refine pa zJ (en Bj ?_);refine sR fun _ Bk=>?_;refine pM U J (pe (i_ (Y.length:Int)) (ax rfl (S.rdAt (R:=(aA (roR D R0_) 28)) 0 rfl)) (pe (.bool ((Y.length:Int) == 0)) (bK rfl rfl) (pm (.bool ((Y.length:Int) == 0)) ?_)));rcases oif F with ⟨yw,F⟩|⟨yw,F⟩
    ·refine eo yw (eo yw (eo yw (eo yw (eo yw (eo yw (eo yw (eo yw (eo yw (pe (.bool true) (aw rfl yw rfl) (en Bk (ct rfl (ag (pM U J (pm yT ?_))))))))))))));refine aq [yT] (aK rfl (oc yJ)) (by rfl) (dt rfl) rfl (dt rfl) S (dt rfl) ?_;intro Hc Hd S FH;obtain ⟨ED,CO,F⟩:=ob F;have AG:=S.boxRow 0 rfl;replace S:=S.t1;replace S:=S.roOne (R:=R0_) (W:=D) yJ;replace S:=S.one;refine aC rfl (dt rfl) rfl (dt rfl) S rfl rfl rfl (by simp) AG CO (dt rfl) ?_;intro He Bl S;refine pa Bl (ah (bn yC (tn yn ?_)));replace S:=S.keep 1;exact ⟨yl,yo,zJ,Am,Bl,ED,Z,rfl,rfl,S,yj,zK,F⟩
    refine ei yw (pM U J (ei yw (pM U J (ei yw (pe (i_ (Y.length:Int)) (ax rfl (S.rdAt (R:=(aA (roR D R0_) 28)) 0 rfl)) (ei yw ?_))))));obtain ⟨EE,CP,F⟩:=ob F;refine pe (i_ EE) (c9 rfl rfl CP) (ei yw ?_);obtain ⟨Hf,CQ,F⟩:=ob F;refine aI (wA:=Bi) rfl (S.rdAt (R:=(aA (roR D R0_) 28)) 0 rfl) rfl (dt rfl) rfl CQ (dt rfl) ?_;intro Hg FI Hh ze y4;replace ze:R0_.rd D _ _:=ze;obtain ⟨EF,rfl⟩:=aB ze;refine ei yw (pe EF (ae rfl (y4 0 _ rfl)) (ei yw (pm yT (ei yw ?_))));obtain ⟨Bm,CR,F⟩:=ob F;refine ec0 fU (bA (S.up ze) (S.up yJ) CR) (ca (ai rfl (ai rfl rfl))) S fun Hi CS S=>?_;have y4:=ap CS y4;refine ei yw (pe (.bool (Bm != 0)) (cY rfl rfl) (pe (.bool (Bm != 0)) (az rfl yw rfl) (en Bk ?_)));rcases oif F with ⟨zL,F⟩|⟨zL,F⟩
    ·refine ct zL (ag (pM U J (pm yT ?_)));refine aq [yT] (aK rfl (oc yJ)) (by rfl) (dt rfl) rfl (dt rfl) S (dt rfl) ?_;intro Hj Hk S CT;have y4:=ap CT y4;obtain ⟨EG,CU,F⟩:=ob F;have AH:=S.boxRow 0 rfl;replace S:=S.t1;replace S:=S.roOne (R:=R0_) (W:=D) yJ;replace S:=S.one;refine aC rfl (dt rfl) rfl (dt rfl) S rfl rfl rfl (by simp) AH CU (dt rfl) ?_;intro Hl Bn S;refine pa Bn (ah (bn yC (tn yn ?_)));replace S:=S.keep 1;exact ⟨yl,yo,zJ,Am,Bn,EG,Z,rfl,rfl,S,yj,zK,F⟩
    refine cf zL (aS (bn yC (tn yn ?_)));replace S:=S.keep 1;exact ⟨yl,yo,zJ,Am,U,Y,Z,rfl,J,S,yj,zK,F⟩
   refine cf zI ?_;refine sR fun _ EH=>?_;refine pM yl Z ?_;obtain ⟨Hm,CV,F⟩:=ob F;refine aI (wA:=D) rfl yj rfl (dt rfl) rfl CV (dt rfl) ?_;intro Hn FJ Ho yK CX;obtain ⟨yU,rfl⟩:=aB yK;refine pe yU (ae rfl ((ap S.below CX) 0 _ rfl)) (pa yU (en EH (ag (pM yl Z ?_))));obtain ⟨An,CY,F⟩:=ob F;refine eq (wA:=D) rfl rfl yj (.inl (congrArg some rfl)) (.inr ⟨rfl,rfl⟩) CY (dt rfl) ?_;intro zM zN;refine pa zM (en Bj ?_);refine sR fun _ Bo=>?_;refine pM U J (pe (i_ (Y.length:Int)) (ax rfl (S.rdAt (R:=(aA (roR D R0_) 28)) 0 rfl)) (pe (.bool ((Y.length:Int) == 0)) (bK rfl rfl) (pm (.bool ((Y.length:Int) == 0)) ?_)));rcases oif F with ⟨yx,F⟩|⟨yx,F⟩
   ·refine eo yx (eo yx (eo yx (eo yx (eo yx (eo yx (eo yx (eo yx (eo yx (pe (.bool true) (aw rfl yx rfl) (en Bo (ct rfl (ag (pM U J (pm yU ?_))))))))))))));refine aq [yU] (aK rfl (oc yK)) (by rfl) (dt rfl) rfl (dt rfl) S (dt rfl) ?_;intro Hp Hq S FK;obtain ⟨EI,CZ,F⟩:=ob F;have AI:=S.boxRow 0 rfl;replace S:=S.t1;replace S:=S.roOne (R:=R0_) (W:=D) yK;replace S:=S.one;refine aC rfl (dt rfl) rfl (dt rfl) S rfl rfl rfl (by simp) AI CZ (dt rfl) ?_;intro Hr Bp S;refine pa Bp (ah (bn yC (tn yn ?_)));replace S:=S.keep 1;exact ⟨zM,An,ym,yp,Bp,EI,rfl,yi,rfl,S,zN,yk,F⟩
   refine ei yx (pM U J (ei yx (pM U J (ei yx (pe (i_ (Y.length:Int)) (ax rfl (S.rdAt (R:=(aA (roR D R0_) 28)) 0 rfl)) (ei yx ?_))))));obtain ⟨EJ,C0,F⟩:=ob F;refine pe (i_ EJ) (c9 rfl rfl C0) (ei yx ?_);obtain ⟨Hs,C1,F⟩:=ob F;refine aI (wA:=Bi) rfl (S.rdAt (R:=(aA (roR D R0_) 28)) 0 rfl) rfl (dt rfl) rfl C1 (dt rfl) ?_;intro Ht FL Hu zf y5;replace zf:R0_.rd D _ _:=zf;obtain ⟨EK,rfl⟩:=aB zf;refine ei yx (pe EK (ae rfl (y5 0 _ rfl)) (ei yx (pm yU (ei yx ?_))));obtain ⟨Bq,C2,F⟩:=ob F;refine ec0 fU (bA (S.up zf) (S.up yK) C2) (ca (ai rfl (ai rfl rfl))) S fun Hv C3 S=>?_;have y5:=ap C3 y5;refine ei yx (pe (.bool (Bq != 0)) (cY rfl rfl) (pe (.bool (Bq != 0)) (az rfl yx rfl) (en Bo ?_)));rcases oif F with ⟨zO,F⟩|⟨zO,F⟩
   ·refine ct zO (ag (pM U J (pm yU ?_)));refine aq [yU] (aK rfl (oc yK)) (by rfl) (dt rfl) rfl (dt rfl) S (dt rfl) ?_;intro Hw Hx S C4;have y5:=ap C4 y5;obtain ⟨EM,C5,F⟩:=ob F;have AJ:=S.boxRow 0 rfl;replace S:=S.t1;replace S:=S.roOne (R:=R0_) (W:=D) yK;replace S:=S.one;refine aC rfl (dt rfl) rfl (dt rfl) S rfl rfl rfl (by simp) AJ C5 (dt rfl) ?_;intro Hy Br S;refine pa Br (ah (bn yC (tn yn ?_)));replace S:=S.keep 1;exact ⟨zM,An,ym,yp,Br,EM,rfl,yi,rfl,S,zN,yk,F⟩
   refine cf zO (aS (bn yC (tn yn ?_)));replace S:=S.keep 1;exact ⟨zM,An,ym,yp,U,Y,rfl,yi,J,S,zN,yk,F⟩
  refine ei yE (pM ym yi (ei yE (pe (i_ (yp.length:Int)) (ax rfl yk) (ei yE (pe (.bool (decide (0 < (yp.length:Int)))) (bp rfl rfl) (pe (.bool (decide (0 < (yp.length:Int)))) (az rfl yE rfl) (en AX ?_)))))));rcases oif F with ⟨zg,F⟩|⟨zg,F⟩
  ·refine ct zg (sn Af ?_);refine bg fun _ yD=>?_;refine sR fun _ EN=>?_;refine pa (i_ 0) (en EN ?_);refine sg fun _ Bs=>?_;refine bg fun _ Bt=>?_;refine sR fun _ EO=>?_;refine pM yl Z (pe (i_ (yo.length:Int)) (ax rfl yj) (pe (.bool ((yo.length:Int) == 0)) (bK rfl rfl) (pa (.bool ((yo.length:Int) == 0)) (en EO ?_))));rcases oif F with ⟨zP,F⟩|⟨zP,F⟩
   ·refine ct zP (ag (pa (i_ 1) (ah (bn Bt (tn Bs ?_)))));refine sR fun _ EP=>?_;refine bi cp S (dt rfl) ?_;intro Bu EQ S FM;refine pa EQ (en EP ?_);refine sg fun _ Bv=>?_;refine sg fun _ ER=>?_;replace S:=S.r0;refine ag (pm (i_ 1) (pe (.bool (decide (0 < (1:Int)))) (bp rfl rfl) (en ER ?_)));rcases oif F with ⟨zQ,F⟩|⟨zQ,F⟩
    ·refine ct zQ ?_;refine sR fun _ ES=>?_;refine pM ym yi ?_;obtain ⟨Hz,C6,F⟩:=ob F;refine aI (wA:=D) rfl yk rfl (dt rfl) rfl C6 (dt rfl) ?_;intro HA FN HB yL C7;obtain ⟨yV,rfl⟩:=aB yL;refine pe yV (ae rfl ((ap S.below C7) 0 _ rfl)) (pa yV (en ES (ag (pM ym yi ?_))));obtain ⟨Ao,C8,F⟩:=ob F;refine eq (wA:=D) rfl rfl yk (.inl (congrArg some rfl)) (.inr ⟨rfl,rfl⟩) C8 (dt rfl) ?_;intro zR zS;refine pa zR (en Bv ?_);refine sR fun _ Bw=>?_;refine pM U J (pe (i_ (Y.length:Int)) (ax rfl (S.rdAt (R:=(aA (roR D R0_) 28)) 0 rfl)) (pe (.bool ((Y.length:Int) == 0)) (bK rfl rfl) (pm (.bool ((Y.length:Int) == 0)) ?_)));rcases oif F with ⟨yy,F⟩|⟨yy,F⟩
     ·refine eo yy (eo yy (eo yy (eo yy (eo yy (eo yy (eo yy (eo yy (eo yy (pe (.bool true) (aw rfl yy rfl) (en Bw (ct rfl (ag (pM U J (pm yV ?_))))))))))))));refine aq [yV] (aK rfl (oc yL)) (by rfl) (dt rfl) rfl (dt rfl) S (dt rfl) ?_;intro HC HD S FO;obtain ⟨ET,C9,F⟩:=ob F;have AK:=S.boxRow 0 rfl;replace S:=S.t1;replace S:=S.roOne (R:=R0_) (W:=D) yL;replace S:=S.one;refine aC rfl (dt rfl) rfl (dt rfl) S rfl rfl rfl (by simp) AK C9 (dt rfl) ?_;intro HE Bx S;refine pa Bx (ah (bn yD (tn yn ?_)));replace S:=S.keep 1;exact ⟨yl,yo,zR,Ao,Bx,ET,Z,rfl,rfl,S,yj,zS,F⟩
     refine ei yy (pM U J (ei yy (pM U J (ei yy (pe (i_ (Y.length:Int)) (ax rfl (S.rdAt (R:=(aA (roR D R0_) 28)) 0 rfl)) (ei yy ?_))))));obtain ⟨EU,Da,F⟩:=ob F;refine pe (i_ EU) (c9 rfl rfl Da) (ei yy ?_);obtain ⟨HF,Db,F⟩:=ob F;refine aI (wA:=Bu) rfl (S.rdAt (R:=(aA (roR D R0_) 28)) 0 rfl) rfl (dt rfl) rfl Db (dt rfl) ?_;intro HG FP HH zh y6;replace zh:R0_.rd D _ _:=zh;obtain ⟨EV,rfl⟩:=aB zh;refine ei yy (pe EV (ae rfl (y6 0 _ rfl)) (ei yy (pm yV (ei yy ?_))));obtain ⟨By,Dc,F⟩:=ob F;refine ec0 fU (bA (S.up zh) (S.up yL) Dc) (ca (ai rfl (ai rfl rfl))) S fun HI Dd S=>?_;have y6:=ap Dd y6;refine ei yy (pe (.bool (By != 0)) (cY rfl rfl) (pe (.bool (By != 0)) (az rfl yy rfl) (en Bw ?_)));rcases oif F with ⟨zT,F⟩|⟨zT,F⟩
     ·refine ct zT (ag (pM U J (pm yV ?_)));refine aq [yV] (aK rfl (oc yL)) (by rfl) (dt rfl) rfl (dt rfl) S (dt rfl) ?_;intro HJ HK S De;have y6:=ap De y6;obtain ⟨EW,Df,F⟩:=ob F;have AM:=S.boxRow 0 rfl;replace S:=S.t1;replace S:=S.roOne (R:=R0_) (W:=D) yL;replace S:=S.one;refine aC rfl (dt rfl) rfl (dt rfl) S rfl rfl rfl (by simp) AM Df (dt rfl) ?_;intro HL Bz S;refine pa Bz (ah (bn yD (tn yn ?_)));replace S:=S.keep 1;exact ⟨yl,yo,zR,Ao,Bz,EW,Z,rfl,rfl,S,yj,zS,F⟩
     refine cf zT (aS (bn yD (tn yn ?_)));replace S:=S.keep 1;exact ⟨yl,yo,zR,Ao,U,Y,Z,rfl,J,S,yj,zS,F⟩
    refine cf zQ ?_;refine sR fun _ EX=>?_;refine pM yl Z ?_;obtain ⟨HM,Dg,F⟩:=ob F;refine aI (wA:=D) rfl yj rfl (dt rfl) rfl Dg (dt rfl) ?_;intro HN FQ HO yM Dh;obtain ⟨yW,rfl⟩:=aB yM;refine pe yW (ae rfl ((ap S.below Dh) 0 _ rfl)) (pa yW (en EX (ag (pM yl Z ?_))));obtain ⟨Ap,Di,F⟩:=ob F;refine eq (wA:=D) rfl rfl yj (.inl (congrArg some rfl)) (.inr ⟨rfl,rfl⟩) Di (dt rfl) ?_;intro zU zV;refine pa zU (en Bv ?_);refine sR fun _ BA=>?_;refine pM U J (pe (i_ (Y.length:Int)) (ax rfl (S.rdAt (R:=(aA (roR D R0_) 28)) 0 rfl)) (pe (.bool ((Y.length:Int) == 0)) (bK rfl rfl) (pm (.bool ((Y.length:Int) == 0)) ?_)));rcases oif F with ⟨yz,F⟩|⟨yz,F⟩
    ·refine eo yz (eo yz (eo yz (eo yz (eo yz (eo yz (eo yz (eo yz (eo yz (pe (.bool true) (aw rfl yz rfl) (en BA (ct rfl (ag (pM U J (pm yW ?_))))))))))))));refine aq [yW] (aK rfl (oc yM)) (by rfl) (dt rfl) rfl (dt rfl) S (dt rfl) ?_;intro HP HQ S FR;obtain ⟨EY,Dj,F⟩:=ob F;have AN:=S.boxRow 0 rfl;replace S:=S.t1;replace S:=S.roOne (R:=R0_) (W:=D) yM;replace S:=S.one;refine aC rfl (dt rfl) rfl (dt rfl) S rfl rfl rfl (by simp) AN Dj (dt rfl) ?_;intro HR BB S;refine pa BB (ah (bn yD (tn yn ?_)));replace S:=S.keep 1;exact ⟨zU,Ap,ym,yp,BB,EY,rfl,yi,rfl,S,zV,yk,F⟩
    refine ei yz (pM U J (ei yz (pM U J (ei yz (pe (i_ (Y.length:Int)) (ax rfl (S.rdAt (R:=(aA (roR D R0_) 28)) 0 rfl)) (ei yz ?_))))));obtain ⟨EZ,Dk,F⟩:=ob F;refine pe (i_ EZ) (c9 rfl rfl Dk) (ei yz ?_);obtain ⟨HS,Dl,F⟩:=ob F;refine aI (wA:=Bu) rfl (S.rdAt (R:=(aA (roR D R0_) 28)) 0 rfl) rfl (dt rfl) rfl Dl (dt rfl) ?_;intro HT FS HU zi y7;replace zi:R0_.rd D _ _:=zi;obtain ⟨E0,rfl⟩:=aB zi;refine ei yz (pe E0 (ae rfl (y7 0 _ rfl)) (ei yz (pm yW (ei yz ?_))));obtain ⟨BC,Dm,F⟩:=ob F;refine ec0 fU (bA (S.up zi) (S.up yM) Dm) (ca (ai rfl (ai rfl rfl))) S fun HV Dn S=>?_;have y7:=ap Dn y7;refine ei yz (pe (.bool (BC != 0)) (cY rfl rfl) (pe (.bool (BC != 0)) (az rfl yz rfl) (en BA ?_)));rcases oif F with ⟨zW,F⟩|⟨zW,F⟩
    ·refine ct zW (ag (pM U J (pm yW ?_)));refine aq [yW] (aK rfl (oc yM)) (by rfl) (dt rfl) rfl (dt rfl) S (dt rfl) ?_;intro HW HX S Do;have y7:=ap Do y7;obtain ⟨E1,Dp,F⟩:=ob F;have AO:=S.boxRow 0 rfl;replace S:=S.t1;replace S:=S.roOne (R:=R0_) (W:=D) yM;replace S:=S.one;refine aC rfl (dt rfl) rfl (dt rfl) S rfl rfl rfl (by simp) AO Dp (dt rfl) ?_;intro HY BD S;refine pa BD (ah (bn yD (tn yn ?_)));replace S:=S.keep 1;exact ⟨zU,Ap,ym,yp,BD,E1,rfl,yi,rfl,S,zV,yk,F⟩
    refine cf zW (aS (bn yD (tn yn ?_)));replace S:=S.keep 1;exact ⟨zU,Ap,ym,yp,U,Y,rfl,yi,J,S,zV,yk,F⟩
   refine cf zP ?_;refine sR fun _ E2=>?_;refine pM ym yi (pe (i_ (yp.length:Int)) (ax rfl yk) (pe (.bool (decide (0 < (yp.length:Int)))) (bp rfl rfl) (pa (.bool (decide (0 < (yp.length:Int)))) (en E2 (ct zg ?_)))));refine ck (by kernel_rfl) (by kernel_rfl) ?_;refine qM yl Z ?_;obtain ⟨HZ,Dq,F⟩:=ob F;refine bl (wA:=D) rfl yj rfl (dt rfl) rfl Dq (dt rfl) ?_;intro H0 FT H1 Aw Dr;obtain ⟨E3,rfl⟩:=aB Aw;refine qe E3 (ae rfl ((ap S.below Dr) 0 _ rfl)) (qM ym yi ?_);obtain ⟨H2,Ds,F⟩:=ob F;refine bl (wA:=D) rfl yk rfl (dt rfl) rfl Ds (dt rfl) ?_;intro H3 FU H4 Ax Dt;obtain ⟨E4,rfl⟩:=aB Ax;refine qe E4 (ae rfl ((ap S.below Dt) 0 _ rfl)) ?_;obtain ⟨zX,Du,F⟩:=ob F;refine cU (i_ zX) fU (fun w' hw'=>bA (bF (S.up Aw) hw') (bF (S.up Ax) hw') Du) (ca (ai rfl (ai rfl rfl))) (dt rfl) ?_;refine qe (i_ zX) (cr rfl) (bm ?_);intro H5 Dv;replace S:=S.ext Dv;refine bn Bt (tn Bs ?_);refine sR fun _ E5=>?_;refine bi cp S (dt rfl) ?_;intro BE E6 S FV;refine pa E6 (en E5 ?_);refine sg fun _ BF=>?_;refine sg fun _ E7=>?_;replace S:=S.r0;refine ag (pm (i_ zX) (pe (.bool (decide (0 < zX))) (bp rfl rfl) (en E7 ?_)));rcases oif F with ⟨zY,F⟩|⟨zY,F⟩
   ·refine ct zY ?_;refine sR fun _ E8=>?_;refine pM ym yi ?_;obtain ⟨H6,Dw,F⟩:=ob F;refine aI (wA:=D) rfl yk rfl (dt rfl) rfl Dw (dt rfl) ?_;intro H7 FW H8 yN Dx;obtain ⟨yX,rfl⟩:=aB yN;refine pe yX (ae rfl ((ap S.below Dx) 0 _ rfl)) (pa yX (en E8 (ag (pM ym yi ?_))));obtain ⟨Aq,Dy,F⟩:=ob F;refine eq (wA:=D) rfl rfl yk (.inl (congrArg some rfl)) (.inr ⟨rfl,rfl⟩) Dy (dt rfl) ?_;intro zZ z0;refine pa zZ (en BF ?_);refine sR fun _ BG=>?_;refine pM U J (pe (i_ (Y.length:Int)) (ax rfl (S.rdAt (R:=(aA (roR D R0_) 28)) 0 rfl)) (pe (.bool ((Y.length:Int) == 0)) (bK rfl rfl) (pm (.bool ((Y.length:Int) == 0)) ?_)));rcases oif F with ⟨yA,F⟩|⟨yA,F⟩
    ·refine eo yA (eo yA (eo yA (eo yA (eo yA (eo yA (eo yA (eo yA (eo yA (pe (.bool true) (aw rfl yA rfl) (en BG (ct rfl (ag (pM U J (pm yX ?_))))))))))))));refine aq [yX] (aK rfl (oc yN)) (by rfl) (dt rfl) rfl (dt rfl) S (dt rfl) ?_;intro H9 Ia S FX;obtain ⟨E9,Dz,F⟩:=ob F;have AP:=S.boxRow 0 rfl;replace S:=S.t1;replace S:=S.roOne (R:=R0_) (W:=D) yN;replace S:=S.one;refine aC rfl (dt rfl) rfl (dt rfl) S rfl rfl rfl (by simp) AP Dz (dt rfl) ?_;intro Ib BH S;refine pa BH (ah (bn yD (tn yn ?_)));replace S:=S.keep 1;exact ⟨yl,yo,zZ,Aq,BH,E9,Z,rfl,rfl,S,yj,z0,F⟩
    refine ei yA (pM U J (ei yA (pM U J (ei yA (pe (i_ (Y.length:Int)) (ax rfl (S.rdAt (R:=(aA (roR D R0_) 28)) 0 rfl)) (ei yA ?_))))));obtain ⟨Fa,DA,F⟩:=ob F;refine pe (i_ Fa) (c9 rfl rfl DA) (ei yA ?_);obtain ⟨Ic,DB,F⟩:=ob F;refine aI (wA:=BE) rfl (S.rdAt (R:=(aA (roR D R0_) 28)) 0 rfl) rfl (dt rfl) rfl DB (dt rfl) ?_;intro Id FY Ie zj y8;replace zj:R0_.rd D _ _:=zj;obtain ⟨Fb,rfl⟩:=aB zj;refine ei yA (pe Fb (ae rfl (y8 0 _ rfl)) (ei yA (pm yX (ei yA ?_))));obtain ⟨BI,DC,F⟩:=ob F;refine ec0 fU (bA (S.up zj) (S.up yN) DC) (ca (ai rfl (ai rfl rfl))) S fun If DD S=>?_;have y8:=ap DD y8;refine ei yA (pe (.bool (BI != 0)) (cY rfl rfl) (pe (.bool (BI != 0)) (az rfl yA rfl) (en BG ?_)));rcases oif F with ⟨Aa,F⟩|⟨Aa,F⟩
    ·refine ct Aa (ag (pM U J (pm yX ?_)));refine aq [yX] (aK rfl (oc yN)) (by rfl) (dt rfl) rfl (dt rfl) S (dt rfl) ?_;intro Ig Ih S DE;have y8:=ap DE y8;obtain ⟨Fc,DF,F⟩:=ob F;have AQ:=S.boxRow 0 rfl;replace S:=S.t1;replace S:=S.roOne (R:=R0_) (W:=D) yN;replace S:=S.one;refine aC rfl (dt rfl) rfl (dt rfl) S rfl rfl rfl (by simp) AQ DF (dt rfl) ?_;intro Ii BJ S;refine pa BJ (ah (bn yD (tn yn ?_)));replace S:=S.keep 1;exact ⟨yl,yo,zZ,Aq,BJ,Fc,Z,rfl,rfl,S,yj,z0,F⟩
    refine cf Aa (aS (bn yD (tn yn ?_)));replace S:=S.keep 1;exact ⟨yl,yo,zZ,Aq,U,Y,Z,rfl,J,S,yj,z0,F⟩
   refine cf zY ?_;refine sR fun _ Fd=>?_;refine pM yl Z ?_;obtain ⟨Ij,DG,F⟩:=ob F;refine aI (wA:=D) rfl yj rfl (dt rfl) rfl DG (dt rfl) ?_;intro Ik FZ Il yO DH;obtain ⟨yY,rfl⟩:=aB yO;refine pe yY (ae rfl ((ap S.below DH) 0 _ rfl)) (pa yY (en Fd (ag (pM yl Z ?_))));obtain ⟨Ar,DI,F⟩:=ob F;refine eq (wA:=D) rfl rfl yj (.inl (congrArg some rfl)) (.inr ⟨rfl,rfl⟩) DI (dt rfl) ?_;intro Ab Ac;refine pa Ab (en BF ?_);refine sR fun _ BK=>?_;refine pM U J (pe (i_ (Y.length:Int)) (ax rfl (S.rdAt (R:=(aA (roR D R0_) 28)) 0 rfl)) (pe (.bool ((Y.length:Int) == 0)) (bK rfl rfl) (pm (.bool ((Y.length:Int) == 0)) ?_)));rcases oif F with ⟨yB,F⟩|⟨yB,F⟩
   ·refine eo yB (eo yB (eo yB (eo yB (eo yB (eo yB (eo yB (eo yB (eo yB (pe (.bool true) (aw rfl yB rfl) (en BK (ct rfl (ag (pM U J (pm yY ?_))))))))))))));refine aq [yY] (aK rfl (oc yO)) (by rfl) (dt rfl) rfl (dt rfl) S (dt rfl) ?_;intro Im In S F0;obtain ⟨Fe,DJ,F⟩:=ob F;have AR:=S.boxRow 0 rfl;replace S:=S.t1;replace S:=S.roOne (R:=R0_) (W:=D) yO;replace S:=S.one;refine aC rfl (dt rfl) rfl (dt rfl) S rfl rfl rfl (by simp) AR DJ (dt rfl) ?_;intro Io BL S;refine pa BL (ah (bn yD (tn yn ?_)));replace S:=S.keep 1;exact ⟨Ab,Ar,ym,yp,BL,Fe,rfl,yi,rfl,S,Ac,yk,F⟩
   refine ei yB (pM U J (ei yB (pM U J (ei yB (pe (i_ (Y.length:Int)) (ax rfl (S.rdAt (R:=(aA (roR D R0_) 28)) 0 rfl)) (ei yB ?_))))));obtain ⟨Ff,DK,F⟩:=ob F;refine pe (i_ Ff) (c9 rfl rfl DK) (ei yB ?_);obtain ⟨Ip,DL,F⟩:=ob F;refine aI (wA:=BE) rfl (S.rdAt (R:=(aA (roR D R0_) 28)) 0 rfl) rfl (dt rfl) rfl DL (dt rfl) ?_;intro Iq F3 Ir zk y9;replace zk:R0_.rd D _ _:=zk;obtain ⟨Fg,rfl⟩:=aB zk;refine ei yB (pe Fg (ae rfl (y9 0 _ rfl)) (ei yB (pm yY (ei yB ?_))));obtain ⟨BM,DM,F⟩:=ob F;refine ec0 fU (bA (S.up zk) (S.up yO) DM) (ca (ai rfl (ai rfl rfl))) S fun Is DN S=>?_;have y9:=ap DN y9;refine ei yB (pe (.bool (BM != 0)) (cY rfl rfl) (pe (.bool (BM != 0)) (az rfl yB rfl) (en BK ?_)));rcases oif F with ⟨Ad,F⟩|⟨Ad,F⟩
   ·refine ct Ad (ag (pM U J (pm yY ?_)));refine aq [yY] (aK rfl (oc yO)) (by rfl) (dt rfl) rfl (dt rfl) S (dt rfl) ?_;intro It Iu S DO;have y9:=ap DO y9;obtain ⟨Fh,DP,F⟩:=ob F;have AS:=S.boxRow 0 rfl;replace S:=S.t1;replace S:=S.roOne (R:=R0_) (W:=D) yO;replace S:=S.one;refine aC rfl (dt rfl) rfl (dt rfl) S rfl rfl rfl (by simp) AS DP (dt rfl) ?_;intro Iv BN S;refine pa BN (ah (bn yD (tn yn ?_)));replace S:=S.keep 1;exact ⟨Ab,Ar,ym,yp,BN,Fh,rfl,yi,rfl,S,Ac,yk,F⟩
   refine cf Ad (aS (bn yD (tn yn ?_)));replace S:=S.keep 1;exact ⟨Ab,Ar,ym,yp,U,Y,rfl,yi,J,S,Ac,yk,F⟩
  refine cf zg (aM (tx Af (tx yn ?_)));replace F:=exB F B0;refine bS D0 (tn DZ ?_);refine sR fun _ Fi=>?_;refine pM U J (pa U (en Fi (ak (aL rfl rfl ?_))));have hr:=Option.some.inj F;exact ⟨U,congrArg (fun (r:T1_)=>Ending.returned (U)) hr,(S.rebase BY).below,Eq.mp (congrArg (fun (r:T1_)=>R3_.rd D2 [U] r) hr :) (x3 S.below (S.rdAt (R:=(aA (roR D R0_) 28)) 0 rfl))⟩
theorem pE {w0 : World} {u0 : Value} {a0 : List T0_} (ha0 : R3_.rd w0 [u0] a0) {N : Nat} {r : T1_} (hF : eg N a0 = some r) :
    Calls Try.prog 56 #[u0] w0 fun e w' => ∃ (q0 : Value), e = .returned (q0) ∧ Ext w0 w' ∧ R3_.rd w' [q0] r := oY N ha0 hF
theorem dj {w0:World} {a0:Int} {u1:Value} {a1:List T0_} (ha1:R3_.rd w0 [u1] a1) {N:Nat} {r:T3_ × Bool} (F:cq N a0 a1=some r): Calls Try.prog 22 #[i_ a0,u1] w0 fun e w'=>∃ (q0:Value),e=.returned (.tuple #[.agg #[i_ r.1.1,q0],.bool r.2])∧Sat w0 w' [Own R3_ [q0] r.1.2] := by
 unfold cq at F;refine aN Try.func22 rfl rfl (dt rfl) ?_;have S:=Sat.start w0;refine sR fun _ yY=>?_;refine aF S (dt rfl) ?_;intro zi yj S zd;refine pa (.bool false) (en yY ?_);refine sg fun _ yt=>?_;refine sR fun _ yZ=>?_;refine pa (i_ 0) (en yZ ?_);refine bg fun _ yu=>?_;obtain ⟨y1,hL,ym⟩:=ob F;refine aJ (fun k e w=>∃ (Z:Int),e 0=i_ a0∧e 1=u1∧e 4=.pointer (some ⟨yj,0,none⟩)∧e 6=i_ Z∧Sat w0 w [Box yj 35 [i_ 0,n_]]∧cQ N k a0 a1 0 [] Z=some y1) N ?_ ?_ ?_
 ·exact ⟨0,rfl,rfl,rfl,rfl,S,hL⟩
 ·rintro e w ⟨_,_,_,_,_,_,hz⟩; exact nomatch (show none=some _ from hz)
 rintro k zj zk ⟨Z,yn,yk,Y,yl,S,F⟩;refine gn fun _ yo=>?_;refine sg fun _ yD=>?_;refine sR fun _ y2=>?_;refine pM (i_ Z) yl (pM u1 yk (pe (i_ (a1.length:Int)) (ax rfl ha1) (pe (.bool (decide (Z < (a1.length:Int)))) (aU rfl rfl) (en y2 ?_))));rcases oif F with ⟨yp,F⟩|⟨yp,F⟩
 ·refine ct yp (sn yD ?_);refine sg fun _ yw=>?_;refine bg fun _ yx=>?_;refine sR fun _ yE=>?_;refine pM u1 yk (pM (i_ Z) yl ?_);obtain ⟨yy,yM,F⟩:=ob F;refine aI (wA:=w0) rfl ha1 rfl (dt rfl) rfl yM (dt rfl) ?_;intro zl ze zm yB yN;obtain ⟨y3,rfl⟩:=aB yB;refine pe y3 (ae rfl ((ap S.below yN) 0 _ rfl)) (pe (i_ (yy.length:Int)) (ax rfl yB) (pM (i_ a0) yn (pe (.bool ((yy.length:Int) != a0)) (cY rfl rfl) (pm (.bool ((yy.length:Int) != a0)) ?_))));rcases oif F with ⟨D,F⟩|⟨D,F⟩
  ·refine eo D (eo D (eo D (eo D (eo D (eo D (pe (.bool true) (aw rfl D rfl) (en yE (ct rfl ?_))))))));refine sR fun _ y4=>?_;refine pe (.agg #[i_ 0,n_]) (bc [] [i_ 0,n_] rfl rfl) ?_;refine aj (S.top 0 rfl) Y [i_ 0,n_] rfl rfl (dt rfl) (all_cons rfl (all_cons rfl rfl)) ?_;intro yF S;replace S:Sat w0 yF [Box yj 35 [i_ 0,n_]]:=S;refine pa (.bool false) (en y4 (ak (br yx (tr yw (tr yo (br yu (tr yt ?_)))))));replace F:=exL F ym;replace S:=S.nil R0_ 28;refine cT (cs:=[i_ 0,n_]) rfl Y rfl (av (S.boxAt 1 rfl)) rfl ?_;have hr:=Option.some.inj F;exact ⟨n_,congrArg (fun (r:T3_ × Bool)=>Ending.returned (.tuple #[.agg #[i_ r.1.1,n_],.bool r.2])) hr,Eq.mp (congrArg (fun (r:T3_ × Bool)=>Sat w0 yF [Own R3_ [n_] r.1.2]) hr) (S.keep 1)⟩
  refine ei D (pM u1 yk (ei D (pM (i_ Z) yl (ei D ?_))));obtain ⟨zn,yO,F⟩:=ob F;refine aI (wA:=w0) rfl ha1 rfl (dt rfl) rfl yO (dt rfl) ?_;intro zo zf zp yC yP;obtain ⟨y5,rfl⟩:=aB yC;refine ei D (pe y5 (ae rfl ((ap S.below yP) 0 _ rfl)) (ei D ?_));obtain ⟨yG,yQ,F⟩:=ob F;refine ec0 ui (iY (S.up yC) yQ) (ca (ai rfl rfl)) S fun zq zg S=>?_;refine ei D (pe (.bool (!yG)) (bk rfl) (pe (.bool (!yG)) (az rfl D rfl) (en yE ?_)));rcases oif F with ⟨yq,F⟩|⟨yq,F⟩
  ·refine cf (am yq) (aS (bn yx (tn yw (ag (pM (i_ Z) yl ?_)))));obtain ⟨yz,yR,F⟩:=ob F;refine pe (i_ yz) (aE rfl rfl yR) (pa (i_ yz) (en yo ?_));replace S:=S.keep 1;exact ⟨yz,yn,yk,Y,rfl,S,F⟩
  refine ct (an yq) ?_;refine sR fun _ y6=>?_;refine pe (.agg #[i_ 0,n_]) (bc [] [i_ 0,n_] rfl rfl) ?_;refine aj (S.top 0 rfl) Y [i_ 0,n_] rfl rfl (dt rfl) (all_cons rfl (all_cons rfl rfl)) ?_;intro yH S;replace S:Sat w0 yH [Box yj 35 [i_ 0,n_]]:=S;refine pa (.bool false) (en y6 (ak (br yx (tr yw (tr yo (br yu (tr yt ?_)))))));replace F:=exL F ym;replace S:=S.nil R0_ 28;refine cT (cs:=[i_ 0,n_]) rfl Y rfl (av (S.boxAt 1 rfl)) rfl ?_;have hr:=Option.some.inj F;exact ⟨n_,congrArg (fun (r:T3_ × Bool)=>Ending.returned (.tuple #[.agg #[i_ r.1.1,n_],.bool r.2])) hr,Eq.mp (congrArg (fun (r:T3_ × Bool)=>Sat w0 yH [Own R3_ [n_] r.1.2]) hr) (S.keep 1)⟩
 refine cf yp (aM (tx yD (tx yo ?_)));replace F:=exA F ym;refine bS yu (tn yt ?_);refine sR fun _ y7=>?_;refine pM (i_ a0) yn (pM u1 yk ?_);obtain ⟨zr,yS,F⟩:=ob F;refine aW rR (pE (S.up ha1) yS) (ca (ai rfl rfl)) (dt rfl) ?_;rintro _ zt ⟨yA,rfl,yT,yi⟩;refine ⟨_,rfl,?_⟩;replace S:=S.ext yT;refine pe (.agg #[i_ a0,yA]) (bc [(0,[i_ a0]),(1,[yA])] [i_ a0,yA] (cL rfl (cL (aK rfl (oc yi)) rfl)) rfl) ?_;obtain ⟨U,yU,F⟩:=ob F;refine ec1 uk (lT yi yU) (ca (ai rfl rfl)) S fun zu J yV S=>?_;have yi:=bF yi yV;refine aF S (dt rfl) ?_;intro zw yI S yW;have yi:=bF yi yW;refine aj (S.top 0 rfl) rfl [i_ U.1,J] rfl rfl (dt rfl) (all_cons rfl (all_cons (oc (S.rdAt (R:=R3_) 1 rfl)) rfl)) ?_;intro y8 S;replace S:Sat w0 y8 [Box yI 35 [i_ U.1,J],Own R3_ [J] U.2,Box yj 35 [i_ 0,n_]]:=S;refine en y7 ?_;refine sg fun _ yJ=>?_;refine sR fun _ y9=>?_;refine pe (.agg #[i_ U.1,J]) (au (cs:=[i_ U.1,J]) rfl rfl (av (S.boxAt 0 rfl))) ?_;obtain ⟨za,yX,F⟩:=ob F;refine ec0 nO (dN (S.rdAt (R:=R3_) 1 rfl) yX) (ca (ai rfl rfl)) S fun zx zh S=>?_;refine pe (.bool (!za)) (bk rfl) (en y9 ?_);rcases oif F with ⟨yr,F⟩|⟨yr,F⟩
 ·refine cf (am yr) (sn yJ ?_);refine sR fun _ zb=>?_;refine pe (.agg #[i_ U.1,J]) (au (cs:=[i_ U.1,J]) rfl rfl (av (S.boxAt 0 rfl))) ?_;refine aj (S.top 2 rfl) Y [i_ U.1,J] rfl rfl (dt rfl) (all_cons rfl (all_cons (oc (S.rdAt (R:=R3_) 1 rfl)) rfl)) ?_;intro yK S;replace S:Sat w0 yK [Box yj 35 [i_ U.1,J],Box yI 35 [i_ U.1,J],Own R3_ [J] U.2]:=S;refine pa (.bool true) (en zb (ak ?_));refine cT (cs:=[i_ U.1,J]) rfl Y rfl (av (S.boxAt 0 rfl)) rfl ?_;replace S:=S.t2;have hr:=Option.some.inj F;exact ⟨J,congrArg (fun (r:T3_ × Bool)=>Ending.returned (.tuple #[.agg #[i_ r.1.1,J],.bool r.2])) hr,Eq.mp (congrArg (fun (r:T3_ × Bool)=>Sat w0 yK [Own R3_ [J] r.1.2]) hr) (S.keep 1)⟩
 refine ct (an yr) ?_;refine sg fun _ zc=>?_;replace S:=S.r1.r0;refine ag (pe (.agg #[i_ 0,n_]) (bc [] [i_ 0,n_] rfl rfl) ?_);refine aj (S.top 0 rfl) Y [i_ 0,n_] rfl rfl (dt rfl) (all_cons rfl (all_cons rfl rfl)) ?_;intro yL S;replace S:Sat w0 yL [Box yj 35 [i_ 0,n_]]:=S;refine pa (.bool false) (en zc (ak (tr yJ ?_)));replace S:=S.nil R0_ 28;refine cT (cs:=[i_ 0,n_]) rfl Y rfl (av (S.boxAt 1 rfl)) rfl ?_;have hr:=Option.some.inj F;exact ⟨n_,congrArg (fun (r:T3_ × Bool)=>Ending.returned (.tuple #[.agg #[i_ r.1.1,n_],.bool r.2])) hr,Eq.mp (congrArg (fun (r:T3_ × Bool)=>Sat w0 yL [Own R3_ [n_] r.1.2]) hr) (S.keep 1)⟩
theorem mY {w0:World} {Y:World} {G0:List Asn} {b0:Nat} {u0:Value} {a0:List Int} {a1:Int} {a2:Int} {a3:Int} {a4:Int} (ha0:(aA u8R 5).rd Y [u0] a0) (S:Sat Y w0 (Box b0 61 [u0,i_ a1,i_ a2] :: G0)) {N:Nat} {r:T0_ × Int × Int} (F:iP N a0 a1 a2 a3 a4=some r): Calls Try.prog 77 #[.pointer (some ⟨b0,0,none⟩),i_ a3,i_ a4] w0 fun e w'=>∃ (q0:Value),e=.returned (q0)∧Sat Y w' (Own R0_ [q0] r.1 :: Box b0 61 [u0,i_ r.2.1,i_ r.2.2] :: G0) := by
 unfold iP at F;refine aN Try.func77 rfl rfl (dt rfl) ?_;refine sR fun _ yy=>?_;refine pa n_ (en yy ?_);refine sR fun _ yz=>?_;refine bi cp S (dt rfl) ?_;intro yL yp S yJ;refine pa yp (en yz ?_);refine sg fun _ yA=>?_;refine bg fun _ yB=>?_;obtain ⟨yC,hL,yu⟩:=ob F;refine aJ (fun k e w=>∃ (yj:Int),∃ (yk:Int),∃ (D:Value),∃ (J:List Int),e 0=.pointer (some ⟨b0,0,none⟩)∧e 1=i_ a3∧e 2=i_ a4∧e 7=D∧Sat Y w (Own R0_ [D] J :: Box b0 61 [u0,i_ yj,i_ yk] :: G0)∧f9 N k a0 yj yk a3 a4 J=some yC) N ?_ ?_ ?_
 ·exact ⟨a1,a2,yp,[],rfl,rfl,rfl,rfl,S,hL⟩
 ·rintro e w ⟨_,_,_,_,_,_,_,_,_,hz⟩; exact nomatch (show none=some _ from hz)
 rintro k yM yD ⟨yj,yk,D,J,yl,ym,yn,Z,S,F⟩;refine gn fun _ yq=>?_;refine sg fun _ yr=>?_;refine sR fun _ yE=>?_;refine pM D Z (pe (i_ (J.length:Int)) (ax rfl (S.rdAt (R:=R0_) 0 rfl)) (pM (i_ a3) ym (pe (.bool (decide ((J.length:Int) < a3))) (aU rfl rfl) (en yE ?_))));rcases oif F with ⟨yi,F⟩|⟨yi,F⟩
 ·refine ct yi (sn yr ?_);refine bg fun _ yF=>?_;refine ag (pM D Z (pM (.pointer (some ⟨b0,0,none⟩)) yl (pM (i_ a4) yn ?_)));replace S:=S.t1;obtain ⟨U,yw,F⟩:=ob F;refine aW e9 (bJ ha0 S yw) (ca (ai rfl (ai rfl rfl))) (dt rfl) ?_;rintro _ yG ⟨rfl,S⟩;refine ⟨_,rfl,?_⟩;replace S:Sat Y yG (Box b0 61 [u0,i_ U.2.1,i_ U.2.2] :: Own R0_ [D] J :: G0):=S;refine aq [i_ U.1] rfl (by rfl) (dt rfl) rfl (dt rfl) S (dt rfl) ?_;intro yN yO S yK;obtain ⟨yH,yx,F⟩:=ob F;have yo:=S.boxRow 0 rfl;replace S:=S.t2;replace S:=S.int U.1;replace S:=S.one;refine aC rfl (dt rfl) rfl (dt rfl) S rfl rfl rfl (by simp) yo yx (dt rfl) ?_;intro yP yt S;refine pa yt (ah (bn yF (tn yq ?_)));replace S:=S.t2.t1;replace S:=S.r2;exact ⟨U.2.1,U.2.2,yt,yH,yl,ym,yn,rfl,S,F⟩
 refine cf yi (aM (tx yr (tx yq ?_)));replace F:=exB F yu;refine bS yB (tn yA ?_);refine sR fun _ yI=>?_;refine pM D Z (pa D (en yI (ak (aL rfl rfl ?_))));have hr:=Option.some.inj F;exact ⟨D,(congrArg (fun (r:T0_ × Int × Int)=>Ending.returned (D)) hr :),Eq.mp (congrArg (fun (r:T0_ × Int × Int)=>Sat Y yD (Own R0_ [D] r.1 :: Box b0 61 [u0,i_ r.2.1,i_ r.2.2] :: G0)) hr :) S⟩

end Go.Proofs.Ytnipkopfefkojaa
namespace Go.Proofs.Ytnipkopfefkojaa
open Go.RowKit
set_option maxRecDepth 100000
set_option maxHeartbeats 4000000
theorem kC {w0:World} {Y:World} {G0:List Asn} {b0:Nat} {u0:Value} {a0:List Int} {a1:Int} {a2:Int} {a3:Int} {a4:Int} {a5:Int} (ha0:(aA u8R 5).rd Y [u0] a0) (S:Sat Y w0 (Box b0 61 [u0,i_ a1,i_ a2] :: G0)) {N:Nat} {r:T3_ × Int × Int} (F:gT N a0 a1 a2 a3 a4 a5=some r): Calls Try.prog 58 #[.pointer (some ⟨b0,0,none⟩),i_ a3,i_ a4,i_ a5] w0 fun e w'=>∃ (q0:Value),e=.returned (.agg #[i_ r.1.1,q0])∧Sat Y w' (Own R3_ [q0] r.1.2 :: Box b0 61 [u0,i_ r.2.1,i_ r.2.2] :: G0) := by
 unfold gT at F;refine aN Try.func58 rfl rfl (dt rfl) ?_;refine sR fun _ yN=>?_;refine aF S (dt rfl) ?_;intro y9 Z S y4;refine en yN ?_;refine sR fun _ yO=>?_;refine bi R0_ S (dt rfl) ?_;intro za yr S y5;refine pa yr (en yO ?_);refine sg fun _ yP=>?_;refine sR fun _ yQ=>?_;refine pm (.pointer (some ⟨b0,0,none⟩)) (pm (i_ a4) ?_);obtain ⟨yR,yG,F⟩:=ob F;refine pe (i_ yR) (aE rfl rfl yG) ?_;replace S:=S.t2;obtain ⟨yi,yH,F⟩:=ob F;refine aW e9 (bJ ha0 S yH) (ca (ai rfl (ai rfl rfl))) (dt rfl) ?_;rintro _ yS ⟨rfl,S⟩;refine ⟨_,rfl,?_⟩;replace S:Sat Y yS (Box b0 61 [u0,i_ yi.2.1,i_ yi.2.2] :: Own R3_ [yr] [] :: Box Z 35 [i_ 0,n_] :: G0):=S;refine pa (i_ yi.1) (en yQ ?_);refine bg fun _ yT=>?_;obtain ⟨yU,hL,yI⟩:=ob F;refine aJ (fun k e w=>∃ (yk:Int),∃ (yl:Int),∃ (U:Value),∃ (ym:List T0_),∃ (yj:Int),e 0=.pointer (some ⟨b0,0,none⟩)∧e 1=i_ a3∧e 3=i_ a5∧e 8=.pointer (some ⟨Z,0,none⟩)∧e 9=U∧e 10=i_ yj∧Sat Y w (Box b0 61 [u0,i_ yk,i_ yl] :: Own R3_ [U] ym :: Box Z 35 [i_ 0,n_] :: G0)∧gb N k a0 yk yl a3 a5 0 [] ym yj=some yU) N ?_ ?_ ?_
 ·exact ⟨yi.2.1,yi.2.2,yr,[],yi.1,rfl,rfl,rfl,rfl,rfl,rfl,S,hL⟩
 ·rintro e w ⟨_,_,_,_,_,_,_,_,_,_,_,_,hz⟩; exact nomatch (show none=some _ from hz)
 rintro k zb zc ⟨yk,yl,U,ym,yj,yu,yo,yw,yp,yx,yy,S,F⟩;refine gn fun _ yA=>?_;refine sg fun _ yB=>?_;refine sR fun _ yV=>?_;refine pM (i_ yj) yy (pe (.bool (decide (0 < yj))) (bp rfl rfl) (en yV ?_));rcases oif F with ⟨yq,F⟩|⟨yq,F⟩
 ·refine ct yq (sn yB ?_);refine sg fun _ yW=>?_;refine bg fun _ yX=>?_;refine ag (pM U yx (pM (.pointer (some ⟨b0,0,none⟩)) yu (pM (i_ a3) yo (pM (i_ a5) yw ?_))));obtain ⟨yn,yJ,F⟩:=ob F;refine aW u9 (mY ha0 S yJ) (ca (ai rfl (ai rfl (ai rfl rfl)))) (dt rfl) ?_;rintro _ yY ⟨yC,rfl,S⟩;refine ⟨_,rfl,?_⟩;replace S:Sat Y yY (Own R0_ [yC] yn.1 :: Box b0 61 [u0,i_ yn.2.1,i_ yn.2.2] :: Own R3_ [U] ym :: Box Z 35 [i_ 0,n_] :: G0):=S;refine aq [yC] (aK rfl (oc (S.rdAt (R:=R0_) 0 rfl))) (by rfl) (dt rfl) rfl (dt rfl) S (dt rfl) ?_;intro zd ze S y6;obtain ⟨yZ,yK,F⟩:=ob F;have yz:=S.boxRow 0 rfl;replace S:=S.t3;replace S:=S.t2;replace S:=S.one;refine aC rfl (dt rfl) rfl (dt rfl) S rfl rfl rfl (by simp) yz yK (dt rfl) ?_;intro zf yD S;refine pa yD (ah (bn yX (tn yW ?_)));replace S:=S.r1;refine ag (pM (i_ yj) yy ?_);obtain ⟨yt,yL,F⟩:=ob F;refine pe (i_ yt) (c9 rfl rfl yL) (pa (i_ yt) (en yA ?_));replace S:=S.t2.t1.t2;exact ⟨yn.2.1,yn.2.2,yD,yZ,yt,yu,yo,yw,yp,rfl,rfl,S,F⟩
 refine cf yq (aM (tx yB (tx yA ?_)));replace F:=exB F yI;refine bS yT (tn yP ?_);refine sR fun _ y1=>?_;refine pM (i_ a3) yo (pM U yx ?_);obtain ⟨D,yM,F⟩:=ob F;refine ec1 kT (dj (S.rdAt (R:=R3_) 1 rfl) yM) (ca (ai rfl (ai rfl rfl))) S fun zg J y7 S=>?_;refine pm (.tuple #[.agg #[i_ D.1.1,J],.bool D.2]) (pe (.agg #[i_ D.1.1,J]) (aH rfl rfl) (pe (.bool D.2) (aH rfl rfl) ?_));refine aF S (dt rfl) ?_;intro zh yE S y8;refine aj (S.top 0 rfl) rfl [i_ D.1.1,J] rfl rfl (dt rfl) (all_cons rfl (all_cons (oc (S.rdAt (R:=R3_) 1 rfl)) rfl)) ?_;intro y2 S;replace S:Sat Y y2 (Box yE 35 [i_ D.1.1,J] :: Own R3_ [J] D.1.2 :: Box b0 61 [u0,i_ yk,i_ yl] :: Own R3_ [U] ym :: Box Z 35 [i_ 0,n_] :: G0):=S;refine pa (.bool D.2) (en y1 ?_);refine sg fun _ y3=>?_;replace S:=S.r3;refine ag (pe (.agg #[i_ D.1.1,J]) (au (cs:=[i_ D.1.1,J]) rfl rfl (av (S.boxAt 0 rfl))) ?_);refine aj (S.top 3 rfl) yp [i_ D.1.1,J] rfl rfl (dt rfl) (all_cons rfl (all_cons (oc (S.rdAt (R:=R3_) 1 rfl)) rfl)) ?_;intro yF S;replace S:Sat Y yF (Box Z 35 [i_ D.1.1,J] :: Box yE 35 [i_ D.1.1,J] :: Own R3_ [J] D.1.2 :: Box b0 61 [u0,i_ yk,i_ yl] :: G0):=S;refine en y3 (ak ?_);refine dg (cs:=[i_ D.1.1,J]) rfl yp rfl (av (S.boxAt 0 rfl))  ?_;replace S:=S.t3.t3;have hr:=Option.some.inj F;replace S:=S.r3.r2;exact ⟨J,(congrArg (fun (r:T3_ × Int × Int)=>Ending.returned (.agg #[i_ r.1.1,J])) hr :),Eq.mp (congrArg (fun (r:T3_ × Int × Int)=>Sat Y yF (Own R3_ [J] r.1.2 :: Box b0 61 [u0,i_ r.2.1,i_ r.2.2] :: G0)) hr :) S⟩
theorem j9 {w0:World} {J:World} {G0:List Asn} {b0:Nat} {u0:Value} {a0:List Int} {a1:Int} {a2:Int} {a3:Int} (ha0:(aA u8R 5).rd J [u0] a0) (S:Sat J w0 (Box b0 61 [u0,i_ a1,i_ a2] :: G0)) {N:Nat} {r:Bool × Int × Int} (F:gr N a0 a1 a2 a3=some r): Calls Try.prog 59 #[.pointer (some ⟨b0,0,none⟩),i_ a3] w0 fun e w'=>e=.returned (.bool r.1)∧Sat J w' (Box b0 61 [u0,i_ r.2.1,i_ r.2.2] :: G0) := by
 unfold gr at F;refine aN Try.func59 rfl rfl (dt rfl) ?_;refine sR fun _ Z=>?_;refine pa (.bool false) (en Z ?_);refine sR fun _ yi=>?_;refine pm (.pointer (some ⟨b0,0,none⟩)) (pm (i_ a3) ?_);obtain ⟨D,Y,F⟩:=ob F;refine aW e9 (bJ ha0 S Y) (ca (ai rfl (ai rfl rfl))) (dt rfl) ?_;rintro _ U ⟨rfl,S⟩;refine ⟨_,rfl,?_⟩;replace S:Sat J U (Box b0 61 [u0,i_ D.2.1,i_ D.2.2] :: G0):=S;refine pe (.bool (D.1 == 0)) (bK rfl rfl) (pa (.bool (D.1 == 0)) (en yi (ak (aL rfl rfl ?_))));have hr:=Option.some.inj F;exact ⟨(congrArg (fun (r:Bool × Int × Int)=>Ending.returned (.bool r.1)) hr :),Eq.mp (congrArg (fun (r:Bool × Int × Int)=>Sat J U (Box b0 61 [u0,i_ r.2.1,i_ r.2.2] :: G0)) hr :) S⟩
theorem nt {w0:World} {yj:World} {G0:List Asn} {b0:Nat} {u0:Value} {a0:List Int} {a1:Int} {a2:Int} (ha0:(aA u8R 5).rd yj [u0] a0) (S:Sat yj w0 (Box b0 61 [u0,i_ a1,i_ a2] :: G0)) {N:Nat} {r:T6_ × Int × Int} (F:jx N a0 a1 a2=some r): Calls Try.prog 24 #[.pointer (some ⟨b0,0,none⟩)] w0 fun e w'=>∃ (q0:Value),e=.returned (.agg #[q0])∧Sat yj w' (Own R8_ [q0] r.1 :: Box b0 61 [u0,i_ r.2.1,i_ r.2.2] :: G0) := by
 unfold jx at F;refine aN Try.func24 rfl rfl (dt rfl) ?_;refine sR fun _ zw=>?_;refine aF S (dt rfl) ?_;intro Ao yi S Ac;refine en zw ?_;refine sR fun _ zx=>?_;refine pm (.pointer (some ⟨b0,0,none⟩)) ?_;refine cK (R:=cp) (xs:=([2,3,4,6]:List Int)) [i_ 2,i_ 3,i_ 4,i_ 6] rfl rfl rfl rfl (by rfl) (jm ([2,3,4,6]:List Int)) S (dt rfl) ?_;intro Ap Aq S Ad;replace S:=S.t2;obtain ⟨yo,y6,F⟩:=ob F;refine aW kV (dO ha0 S y6) (ca (ai rfl (ai rfl rfl))) (dt rfl) ?_;rintro _ zy ⟨rfl,S⟩;refine ⟨_,rfl,?_⟩;replace S:Sat yj zy (Box b0 61 [u0,i_ yo.2.1,i_ yo.2.2] :: Box yi 26 [n_] :: G0):=S;refine pa (i_ yo.1) (en zx ?_);refine sR fun _ zA=>?_;refine pe (.agg #[n_]) (bc [] [n_] rfl rfl) ?_;refine aF S (dt rfl) ?_;intro Ar J S Ae;refine aj (S.top 0 rfl) rfl [n_] rfl rfl (dt rfl) (all_cons rfl rfl) ?_;intro zB S;replace S:Sat yj zB (Box J 26 [n_] :: Box b0 61 [u0,i_ yo.2.1,i_ yo.2.2] :: Box yi 26 [n_] :: G0):=S;refine en zA ?_;refine sg fun _ zC=>?_;refine sR fun _ zD=>?_;refine cK (R:=hX) (xs:=([(⟨#[114]⟩:ByteArray),(⟨#[115]⟩:ByteArray),(⟨#[116]⟩:ByteArray),(⟨#[117]⟩:ByteArray),(⟨#[118]⟩:ByteArray)]:List ByteArray)) [.string (⟨#[114]⟩:ByteArray),.string (⟨#[115]⟩:ByteArray),.string (⟨#[116]⟩:ByteArray),.string (⟨#[117]⟩:ByteArray),.string (⟨#[118]⟩:ByteArray)] rfl rfl rfl rfl (by rfl) (kd (xs:=[(⟨#[114]⟩:ByteArray),(⟨#[115]⟩:ByteArray),(⟨#[116]⟩:ByteArray),(⟨#[117]⟩:ByteArray),(⟨#[118]⟩:ByteArray)]) (dt rfl)) S (dt rfl) ?_;intro As yq S Af;refine pe (i_ (([(⟨#[114]⟩:ByteArray),(⟨#[115]⟩:ByteArray),(⟨#[116]⟩:ByteArray),(⟨#[117]⟩:ByteArray),(⟨#[118]⟩:ByteArray)]:List ByteArray).length:Int)) (ax rfl (S.rdAt (R:=R1_) 0 rfl)) (pm (i_ 0) (en zD ?_));refine bg fun _ zE=>?_;replace S:=S.nil R7_ 84;obtain ⟨zF,hL,y7⟩:=ob F;refine aJ (fun k e w=>∃ (yH:Int),∃ (yI:Int),∃ (D:Value),∃ (yk:List T5_),∃ (yy:Int),e 0=.pointer (some ⟨b0,0,none⟩)∧e 2=.pointer (some ⟨yi,0,none⟩)∧e 3=i_ yo.1∧e 4=.pointer (some ⟨J,0,none⟩)∧e 13=yq∧e 14=i_ (([(⟨#[114]⟩:ByteArray),(⟨#[115]⟩:ByteArray),(⟨#[116]⟩:ByteArray),(⟨#[117]⟩:ByteArray),(⟨#[118]⟩:ByteArray)]:List ByteArray).length:Int)∧e 15=i_ yy∧Sat yj w (Own R8_ [D] yk :: Own R1_ [yq] ([(⟨#[114]⟩:ByteArray),(⟨#[115]⟩:ByteArray),(⟨#[116]⟩:ByteArray),(⟨#[117]⟩:ByteArray),(⟨#[118]⟩:ByteArray)]:List ByteArray) :: Box J 26 [D] :: Box b0 61 [u0,i_ yH,i_ yI] :: Box yi 26 [n_] :: G0)∧fb N k a0 yH yI [] yo.1 yk ([(⟨#[114]⟩:ByteArray),(⟨#[115]⟩:ByteArray),(⟨#[116]⟩:ByteArray),(⟨#[117]⟩:ByteArray),(⟨#[118]⟩:ByteArray)]:List ByteArray) (([(⟨#[114]⟩:ByteArray),(⟨#[115]⟩:ByteArray),(⟨#[116]⟩:ByteArray),(⟨#[117]⟩:ByteArray),(⟨#[118]⟩:ByteArray)]:List ByteArray).length:Int) yy=some zF) N ?_ ?_ ?_
 ·exact ⟨yo.2.1,yo.2.2,n_,[],0,rfl,rfl,rfl,rfl,rfl,rfl,rfl,S,hL⟩
 ·rintro e w ⟨_,_,_,_,_,_,_,_,_,_,_,_,_,hz⟩; exact nomatch (show none=some _ from hz)
 rintro k At zG ⟨yH,yI,D,yk,yy,yp,yr,yw,yn,yz,yA,yx,S,F⟩;refine gn fun _ yJ=>?_;refine sR fun _ zH=>?_;refine pe (.bool (decide (yy < (([(⟨#[114]⟩:ByteArray),(⟨#[115]⟩:ByteArray),(⟨#[116]⟩:ByteArray),(⟨#[117]⟩:ByteArray),(⟨#[118]⟩:ByteArray)]:List ByteArray).length:Int)))) (aU yx yA) (en zH ?_);refine sg fun _ yQ=>?_;rcases oif F with ⟨yB,F⟩|⟨yB,F⟩
 ·refine ct yB (sn yQ ?_);refine sg fun _ yR=>?_;refine bg fun _ yS=>?_;refine sR fun _ zI=>?_;obtain ⟨Z,y8,F⟩:=ob F;refine aI (wA:=zG) yz (S.rdAt (R:=R1_) 1 rfl) rfl (dt rfl) yx y8 (dt rfl) ?_;intro Au Ag Av y9 yt;obtain ⟨rfl,yM⟩:=y9;refine pe (.string Z) (ae rfl (yt 0 _ rfl)) (pa (.string Z) (en zI ?_));refine sR fun _ zJ=>?_;refine pa (i_ 2) (en zJ ?_);refine sg fun _ yT=>?_;refine sR fun _ zK=>?_;refine pm (.string Z) (pe (.bool (eqS Z (⟨#[118]⟩:ByteArray))) (kM rfl rfl) (en zK ?_));rcases oif F with ⟨yC,F⟩|⟨yC,F⟩
  ·refine ct yC (ag (pa (i_ 3) (en yT ?_)));refine sR fun _ zL=>?_;refine pM (.pointer (some ⟨b0,0,none⟩)) yp (pm (i_ 3) (pM (.pointer (some ⟨b0,0,none⟩)) yp ?_));refine cK (R:=cp) (xs:=([3,6,9]:List Int)) [i_ 3,i_ 6,i_ 9] rfl rfl rfl rfl (by rfl) (jm ([3,6,9]:List Int)) S (dt rfl) ?_;intro Aw Ax S za;have yt:=ap za yt;replace S:=S.t4;obtain ⟨yU,zb,F⟩:=ob F;refine aW kV (dO ha0 S zb) (ca (ai rfl (ai rfl rfl))) (dt rfl) ?_;rintro _ zM ⟨rfl,S⟩;refine ⟨_,rfl,?_⟩;replace S:Sat yj zM (Box b0 61 [u0,i_ yU.2.1,i_ yU.2.2] :: Own R8_ [D] yk :: Own R1_ [yq] ([(⟨#[114]⟩:ByteArray),(⟨#[115]⟩:ByteArray),(⟨#[116]⟩:ByteArray),(⟨#[117]⟩:ByteArray),(⟨#[118]⟩:ByteArray)]:List ByteArray) :: Box J 26 [D] :: Box yi 26 [n_] :: G0):=S;refine pM (i_ yo.1) yw ?_;obtain ⟨U,zc,F⟩:=ob F;refine aW qW (kC ha0 S zc) (ca (ai rfl (ai rfl (ai rfl (ai rfl rfl))))) (dt rfl) ?_;rintro _ zN ⟨yl,rfl,S⟩;refine ⟨_,rfl,?_⟩;replace S:Sat yj zN (Own R3_ [yl] U.1.2 :: Box b0 61 [u0,i_ U.2.1,i_ U.2.2] :: Own R8_ [D] yk :: Own R1_ [yq] ([(⟨#[114]⟩:ByteArray),(⟨#[115]⟩:ByteArray),(⟨#[116]⟩:ByteArray),(⟨#[117]⟩:ByteArray),(⟨#[118]⟩:ByteArray)]:List ByteArray) :: Box J 26 [D] :: Box yi 26 [n_] :: G0):=S;refine aF S (dt rfl) ?_;intro Ay yV S Ah;refine aj (S.top 0 rfl) rfl [i_ U.1.1,yl] rfl rfl (dt rfl) (all_cons rfl (all_cons (oc (S.rdAt (R:=R3_) 1 rfl)) rfl)) ?_;intro zO S;replace S:Sat yj zO (Box yV 35 [i_ U.1.1,yl] :: Own R3_ [yl] U.1.2 :: Box b0 61 [u0,i_ U.2.1,i_ U.2.2] :: Own R8_ [D] yk :: Own R1_ [yq] ([(⟨#[114]⟩:ByteArray),(⟨#[115]⟩:ByteArray),(⟨#[116]⟩:ByteArray),(⟨#[117]⟩:ByteArray),(⟨#[118]⟩:ByteArray)]:List ByteArray) :: Box J 26 [D] :: Box yi 26 [n_] :: G0):=S;refine en zL (ag (pe (.pointer (some ⟨J,0 + 0,none⟩)) (ac yn) (pe D (ae rfl ((S.boxAt 5 rfl) 0 _ rfl)) (pm (.string Z) (pe (.agg #[i_ U.1.1,yl]) (au (cs:=[i_ U.1.1,yl]) rfl rfl (av (S.boxAt 0 rfl))) (pe (.agg #[.string Z,i_ U.1.1,yl]) (bc [(0,[.string Z]),(1,[i_ U.1.1,yl])] [.string Z,i_ U.1.1,yl] (cL rfl (cL rfl rfl)) rfl) ?_))))));refine aq [.string Z,i_ U.1.1,yl] rfl (by rfl) (dt rfl) rfl (dt rfl) S (dt rfl) ?_;intro Az zP S Ai;obtain ⟨yW,zd,F⟩:=ob F;have yO:=S.boxRow 0 rfl;replace S:=S.t4;replace S:=S.t3;replace S:=S.int U.1.1;replace S:=S.pair;replace S:=S.str Z yM;replace S:=S.pair;replace S:=S.one;refine aC rfl (dt rfl) rfl (dt rfl) S rfl rfl rfl (by simp) yO zd (dt rfl) ?_;intro AA yD S;refine pe (.pointer (some ⟨J,0 + 0,none⟩)) (ac yn) ?_;refine aj (S.top 5 rfl) rfl [yD] (aK rfl (oc (S.rdAt (R:=R8_) 0 rfl))) rfl (dt rfl) (all_cons (oc (S.rdAt (R:=R8_) 0 rfl)) rfl) ?_;intro zQ S;replace S:Sat yj zQ (Box J 26 [yD] :: Own R8_ [yD] yW :: Box zP 84 [.string Z,i_ U.1.1,yl] :: Box yV 35 [i_ U.1.1,yl] :: Box b0 61 [u0,i_ U.2.1,i_ U.2.2] :: Own R1_ [yq] ([(⟨#[114]⟩:ByteArray),(⟨#[115]⟩:ByteArray),(⟨#[116]⟩:ByteArray),(⟨#[117]⟩:ByteArray),(⟨#[118]⟩:ByteArray)]:List ByteArray) :: Box yi 26 [n_] :: G0):=S;refine ah (bn yS (tn yR ?_));replace S:=S.r3.r2;refine ag ?_;obtain ⟨yK,ze,F⟩:=ob F;refine pe (i_ yK) (aE yx rfl ze) (pm (i_ yK) (en yJ ?_));replace S:=S.t4.t3.t2.t4.t4;exact ⟨U.2.1,U.2.2,yD,yW,yK,yp,yr,yw,yn,yz,yA,rfl,S,F⟩
  refine cf yC (sn yT ?_);refine sR fun _ zR=>?_;refine pM (.pointer (some ⟨b0,0,none⟩)) yp (pm (i_ 2) (pM (.pointer (some ⟨b0,0,none⟩)) yp ?_));refine cK (R:=cp) (xs:=([3,6,9]:List Int)) [i_ 3,i_ 6,i_ 9] rfl rfl rfl rfl (by rfl) (jm ([3,6,9]:List Int)) S (dt rfl) ?_;intro AB AC S zf;have yt:=ap zf yt;replace S:=S.t4;obtain ⟨yX,zg,F⟩:=ob F;refine aW kV (dO ha0 S zg) (ca (ai rfl (ai rfl rfl))) (dt rfl) ?_;rintro _ zS ⟨rfl,S⟩;refine ⟨_,rfl,?_⟩;replace S:Sat yj zS (Box b0 61 [u0,i_ yX.2.1,i_ yX.2.2] :: Own R8_ [D] yk :: Own R1_ [yq] ([(⟨#[114]⟩:ByteArray),(⟨#[115]⟩:ByteArray),(⟨#[116]⟩:ByteArray),(⟨#[117]⟩:ByteArray),(⟨#[118]⟩:ByteArray)]:List ByteArray) :: Box J 26 [D] :: Box yi 26 [n_] :: G0):=S;refine pM (i_ yo.1) yw ?_;obtain ⟨Y,zh,F⟩:=ob F;refine aW qW (kC ha0 S zh) (ca (ai rfl (ai rfl (ai rfl (ai rfl rfl))))) (dt rfl) ?_;rintro _ zT ⟨ym,rfl,S⟩;refine ⟨_,rfl,?_⟩;replace S:Sat yj zT (Own R3_ [ym] Y.1.2 :: Box b0 61 [u0,i_ Y.2.1,i_ Y.2.2] :: Own R8_ [D] yk :: Own R1_ [yq] ([(⟨#[114]⟩:ByteArray),(⟨#[115]⟩:ByteArray),(⟨#[116]⟩:ByteArray),(⟨#[117]⟩:ByteArray),(⟨#[118]⟩:ByteArray)]:List ByteArray) :: Box J 26 [D] :: Box yi 26 [n_] :: G0):=S;refine aF S (dt rfl) ?_;intro AD yY S Aj;refine aj (S.top 0 rfl) rfl [i_ Y.1.1,ym] rfl rfl (dt rfl) (all_cons rfl (all_cons (oc (S.rdAt (R:=R3_) 1 rfl)) rfl)) ?_;intro zU S;replace S:Sat yj zU (Box yY 35 [i_ Y.1.1,ym] :: Own R3_ [ym] Y.1.2 :: Box b0 61 [u0,i_ Y.2.1,i_ Y.2.2] :: Own R8_ [D] yk :: Own R1_ [yq] ([(⟨#[114]⟩:ByteArray),(⟨#[115]⟩:ByteArray),(⟨#[116]⟩:ByteArray),(⟨#[117]⟩:ByteArray),(⟨#[118]⟩:ByteArray)]:List ByteArray) :: Box J 26 [D] :: Box yi 26 [n_] :: G0):=S;refine en zR (ag (pe (.pointer (some ⟨J,0 + 0,none⟩)) (ac yn) (pe D (ae rfl ((S.boxAt 5 rfl) 0 _ rfl)) (pm (.string Z) (pe (.agg #[i_ Y.1.1,ym]) (au (cs:=[i_ Y.1.1,ym]) rfl rfl (av (S.boxAt 0 rfl))) (pe (.agg #[.string Z,i_ Y.1.1,ym]) (bc [(0,[.string Z]),(1,[i_ Y.1.1,ym])] [.string Z,i_ Y.1.1,ym] (cL rfl (cL rfl rfl)) rfl) ?_))))));refine aq [.string Z,i_ Y.1.1,ym] rfl (by rfl) (dt rfl) rfl (dt rfl) S (dt rfl) ?_;intro AE zV S Ak;obtain ⟨yZ,zi,F⟩:=ob F;have yP:=S.boxRow 0 rfl;replace S:=S.t4;replace S:=S.t3;replace S:=S.int Y.1.1;replace S:=S.pair;replace S:=S.str Z yM;replace S:=S.pair;replace S:=S.one;refine aC rfl (dt rfl) rfl (dt rfl) S rfl rfl rfl (by simp) yP zi (dt rfl) ?_;intro AF yE S;refine pe (.pointer (some ⟨J,0 + 0,none⟩)) (ac yn) ?_;refine aj (S.top 5 rfl) rfl [yE] (aK rfl (oc (S.rdAt (R:=R8_) 0 rfl))) rfl (dt rfl) (all_cons (oc (S.rdAt (R:=R8_) 0 rfl)) rfl) ?_;intro zW S;replace S:Sat yj zW (Box J 26 [yE] :: Own R8_ [yE] yZ :: Box zV 84 [.string Z,i_ Y.1.1,ym] :: Box yY 35 [i_ Y.1.1,ym] :: Box b0 61 [u0,i_ Y.2.1,i_ Y.2.2] :: Own R1_ [yq] ([(⟨#[114]⟩:ByteArray),(⟨#[115]⟩:ByteArray),(⟨#[116]⟩:ByteArray),(⟨#[117]⟩:ByteArray),(⟨#[118]⟩:ByteArray)]:List ByteArray) :: Box yi 26 [n_] :: G0):=S;refine ah (bn yS (tn yR ?_));replace S:=S.r3.r2;refine ag ?_;obtain ⟨yL,zj,F⟩:=ob F;refine pe (i_ yL) (aE yx rfl zj) (pm (i_ yL) (en yJ ?_));replace S:=S.t4.t3.t2.t4.t4;exact ⟨Y.2.1,Y.2.2,yE,yZ,yL,yp,yr,yw,yn,yz,yA,rfl,S,F⟩
 refine cf yB (aM (tx yQ (tx yJ ?_)));replace F:=exB F y7;refine bS zE (tn zC ?_);refine sg fun _ y1=>?_;refine sg fun _ zX=>?_;replace S:=S.r1;refine ag (pM (.pointer (some ⟨b0,0,none⟩)) yp ?_);replace S:=S.t2;obtain ⟨yF,zk,F⟩:=ob F;refine aW rS (j9 ha0 S zk) (ca (ai rfl (ai rfl rfl))) (dt rfl) ?_;rintro _ zY ⟨rfl,S⟩;refine ⟨_,rfl,?_⟩;replace S:Sat yj zY (Box b0 61 [u0,i_ yF.2.1,i_ yF.2.2] :: Own R8_ [D] yk :: Box J 26 [D] :: Box yi 26 [n_] :: G0):=S;refine en zX ?_;rcases oif F with ⟨yG,F⟩|⟨yG,F⟩
 ·refine ct yG ?_;obtain ⟨C,hCd⟩:∃ C:World → Prop,∀ w,C w ↔ ∃ G,Sat yj w ([Box J 26 [D]] ++ G):=⟨_,fun _=>Iff.rfl⟩;refine bR [0,1,2,3,4,5,6] C (by kernel_rfl) ?_;intro AG zl;replace S:=S.ext zl;replace S:=S.t2;have hC:=(hCd _).2 ⟨_,S⟩;refine aP (.pointer (some ⟨J,0 + 0,none⟩)) 0 rfl rfl hC (ay rfl (fun w' hw'=>by obtain ⟨_,S⟩:=(hCd _).1 hw'; exact (ac yn))) ?_;refine aP D 1 rfl rfl hC (ay rfl (fun w' hw'=>by obtain ⟨_,S⟩:=(hCd _).1 hw'; exact (ae rfl ((S.boxAt 0 rfl) 0 _ rfl)))) ?_;refine aO 2 rfl ?_;refine pM (.pointer (some ⟨b0,0,none⟩)) yp (ah ?_);refine ⟨fun _=>hC,?_⟩;refine aO 3 rfl ?_;replace S:=S.t1;obtain ⟨yu,zm,F⟩:=ob F;refine aW e9 (bJ ha0 S zm) (ca (ai rfl (ai rfl rfl))) (dt rfl) ?_;rintro _ zZ ⟨rfl,S⟩;refine ⟨_,rfl,?_⟩;replace S:Sat yj zZ (Box b0 61 [u0,i_ yu.2.1,i_ yu.2.2] :: Box J 26 [D] :: Own R8_ [D] yk :: Box yi 26 [n_] :: G0):=S;refine ah ?_;replace S:=S.t1;have hC:=(hCd _).2 ⟨_,S⟩;refine ⟨fun _=>hC,?_⟩;refine aO 4 rfl ?_;obtain ⟨AH,yN,F⟩:=ob F;replace S:=S.t2;refine lq S rfl rfl (dt rfl) rfl yN (dt rfl) ?_;intro y2 Al AI zn zo Am;obtain ⟨_,_,rfl,zp,zq⟩:=zo;obtain ⟨rfl,An⟩:=zp;obtain ⟨_,_,rfl,zr,zt⟩:=zq;obtain rfl:=zr;obtain ⟨AJ,rfl⟩:=aB zt;refine ah ?_;refine ⟨fun _=>hC,?_⟩;refine aO 5 rfl ?_;refine pe (.pointer (some ⟨y2,yu.1.toNat * 3 + 1,none⟩)) (ac rfl) (ah ?_);refine ⟨fun _=>hC,?_⟩;refine aO 6 rfl ?_;refine pe (.pointer (some ⟨y2,yu.1.toNat * 3 + 1 + 1,none⟩)) (ac rfl) (ah ?_);refine ⟨fun _=>hC,?_⟩;refine aO 7 rfl ?_;obtain ⟨z0,zu,F⟩:=ob F;have y3:Value.oneCell' n_=true:=rfl;replace S:=S.nil R0_ 28;refine nr (m:=3) (j:=2) zn S yN zu rfl rfl (by omega) rfl (aK rfl y3) (oS (oS (pC _ _) (by rfl)) (by rfl)) ?_;intro AK S;refine ah ?_;refine ⟨fun h=>(nomatch (show false=true from h)),?_⟩;refine bz (by kernel_rfl) ?_;refine tn y1 ?_;refine sR fun _ Aa=>?_;refine pe (.agg #[D]) (au (cs:=[D]) yn rfl (av (S.boxAt 1 rfl))) ?_;refine aj (S.top 3 rfl) yr [D] rfl rfl (dt rfl) (all_cons (oc (S.rdAt (R:=R8_) 0 rfl)) rfl) ?_;intro y4 S;replace S:Sat yj y4 (Box yi 26 [D] :: Own R8_ [D] z0 :: Box J 26 [D] :: Box b0 61 [u0,i_ yu.2.1,i_ yu.2.2] :: G0):=S;refine en Aa (ak ?_);refine dg (cs:=[D]) rfl yr rfl (av (S.boxAt 0 rfl))  ?_;replace S:=S.t3.t2;have hr:=Option.some.inj F;replace S:=S.r3.r2;exact ⟨D,(congrArg (fun (r:T6_ × Int × Int)=>Ending.returned (.agg #[D])) hr :),Eq.mp (congrArg (fun (r:T6_ × Int × Int)=>Sat yj y4 (Own R8_ [D] r.1 :: Box b0 61 [u0,i_ r.2.1,i_ r.2.2] :: G0)) hr :) S⟩
 refine cf yG (sn y1 ?_);refine sR fun _ Ab=>?_;refine pe (.agg #[D]) (au (cs:=[D]) yn rfl (av (S.boxAt 2 rfl))) ?_;refine aj (S.top 3 rfl) yr [D] rfl rfl (dt rfl) (all_cons (oc (S.rdAt (R:=R8_) 1 rfl)) rfl) ?_;intro y5 S;replace S:Sat yj y5 (Box yi 26 [D] :: Box b0 61 [u0,i_ yF.2.1,i_ yF.2.2] :: Own R8_ [D] yk :: Box J 26 [D] :: G0):=S;refine en Ab (ak ?_);refine dg (cs:=[D]) rfl yr rfl (av (S.boxAt 0 rfl))  ?_;replace S:=S.t1.t2;have hr:=Option.some.inj F;replace S:=S.r3.r2;exact ⟨D,(congrArg (fun (r:T6_ × Int × Int)=>Ending.returned (.agg #[D])) hr :),Eq.mp (congrArg (fun (r:T6_ × Int × Int)=>Sat yj y5 (Own R8_ [D] r.1 :: Box b0 61 [u0,i_ r.2.1,i_ r.2.2] :: G0)) hr :) S⟩
theorem d9 {w0:World} {u0:Value} {a0:List Int} {a1:Int} (ha0:R0_.rd w0 [u0] a0) {N:Nat} {r:Int} (F:dD N a0 a1=some r): Calls Try.prog 51 #[u0,i_ a1] w0 fun e w'=>e=.returned (i_ r)∧Ext w0 w' := by
 unfold dD at F;refine aN Try.func51 rfl rfl (dt rfl) ?_;have S:=Sat.start w0;refine sR fun _ yy=>?_;refine pa (i_ 0) (en yy ?_);refine sg fun _ ym=>?_;refine sR fun _ yz=>?_;refine pa (i_ 0) (en yz ?_);refine bg fun _ yn=>?_;obtain ⟨yA,hL,yk⟩:=ob F;refine aJ (fun k e w=>∃ (D:Int),e 0=u0∧e 1=i_ a1∧e 5=i_ D∧Sat w0 w []∧gz N k a0 a1 D=some yA) N ?_ ?_ ?_
 ·exact ⟨0,rfl,rfl,rfl,S,hL⟩
 ·rintro e w ⟨_,_,_,_,_,hz⟩; exact nomatch (show none=some _ from hz)
 rintro k yG yH ⟨D,U,yl,J,S,F⟩;refine gn fun _ yi=>?_;refine sg fun _ yo=>?_;refine sR fun _ yB=>?_;refine pM (i_ D) J (pM u0 U (pe (i_ (a0.length:Int)) (ax rfl ha0) (pe (.bool (decide (D < (a0.length:Int)))) (aU rfl rfl) (en yB ?_))));rcases oif F with ⟨Y,F⟩|⟨Y,F⟩
 ·refine ct Y (sn yo ?_);refine sg fun _ yp=>?_;refine bg fun _ yq=>?_;refine sR fun _ yC=>?_;refine pM u0 U (pM (i_ D) J ?_);obtain ⟨yr,yt,F⟩:=ob F;refine aI (wA:=w0) rfl ha0 rfl (dt rfl) rfl yt (dt rfl) ?_;intro yI yF yJ yu yw;obtain rfl:=yu;refine pe (i_ yr) (ae rfl ((ap S.below yw) 0 _ rfl)) (pM (i_ a1) yl (pe (.bool (yr == a1)) (bK rfl rfl) (en yC ?_)));rcases oif F with ⟨Z,F⟩|⟨Z,F⟩
  ·refine ct Z ?_;refine sR fun _ yD=>?_;refine pM (i_ D) J (pa (i_ D) (en yD (ak (br yq (tr yp (tr yi (br yn (tr ym ?_))))))));replace F:=exL F yk;refine aL rfl rfl ?_;exact rI F S
  refine cf Z (aS (bn yq (tn yp (ag (pM (i_ D) J ?_)))));obtain ⟨yj,yx,F⟩:=ob F;refine pe (i_ yj) (aE rfl rfl yx) (pa (i_ yj) (en yi ?_));replace S:=S.keep 0;exact ⟨yj,U,yl,rfl,S,F⟩
 refine cf Y (aM (tx yo (tx yi ?_)));replace F:=exA F yk;refine bS yn (tn ym ?_);refine sR fun _ yE=>?_;refine pa (i_ (-1)) (en yE (ak (aL rfl rfl ?_)));exact rI F S
theorem jX {w0:World} {a0:ByteArray} (_:a0.size ≤ 9223372036854775807) {N:Nat} {r:Bool} (F:eX N a0=some r): Calls Try.prog 75 #[.string a0] w0 fun e w'=>e=.returned (.bool r)∧Ext w0 w' := by
 unfold eX at F;refine aN Try.func75 rfl rfl (dt rfl) ?_;have S:=Sat.start w0;refine sR fun _ yA=>?_;refine pa (.bool false) (en yA ?_);refine sg fun _ yl=>?_;refine sR fun _ yB=>?_;refine pa (i_ 0) (en yB ?_);refine bg fun _ ym=>?_;obtain ⟨yC,hL,Z⟩:=ob F;refine aJ (fun k e w=>∃ (J:Int),e 0=.string a0∧e 3=i_ J∧Sat w0 w []∧dW N k a0 J=some yC) N ?_ ?_ ?_
 ·exact ⟨0,rfl,rfl,S,hL⟩
 ·rintro e w ⟨_,_,_,_,hz⟩; exact nomatch (show none=some _ from hz)
 rintro k yJ yK ⟨J,U,Y,S,F⟩;refine gn fun _ yi=>?_;refine sg fun _ yt=>?_;refine sR fun _ yD=>?_;refine pM (i_ J) Y (pM (.string a0) U (pe (i_ (a0.size:Int)) (jt Try.underlying9 rfl) (pe (.bool (decide (J < (a0.size:Int)))) (aU rfl rfl) (en yD ?_))));rcases oif F with ⟨yj,F⟩|⟨yj,F⟩
 ·refine ct yj (sn yt ?_);refine sg fun _ yn=>?_;refine bg fun _ yo=>?_;refine sR fun _ yu=>?_;refine pM (.string a0) U (pM (i_ J) Y ?_);obtain ⟨yp,yw,F⟩:=ob F;refine pe (.int .u8 yp) (oV Try.underlying9 rfl rfl yw) (pe (.bool (decide (yp < 97))) (aU rfl rfl) (pm (.bool (decide (yp < 97))) ?_));rcases oif F with ⟨D,F⟩|⟨D,F⟩
  ·refine eo D (eo D (eo D (eo D (pe (.bool true) (aw rfl D rfl) (en yu (ct rfl ?_))))));refine sR fun _ yE=>?_;refine pa (.bool false) (en yE (ak (br yo (tr yn (tr yi (br ym (tr yl ?_)))))));replace F:=exL F Z;refine aL rfl rfl ?_;exact rB F S
  refine ei D (pM (.string a0) U (ei D (pM (i_ J) Y (ei D ?_))));obtain ⟨yq,yx,F⟩:=ob F;refine pe (.int .u8 yq) (oV Try.underlying9 rfl rfl yx) (ei D (pe (.bool (decide (122 < yq))) (bp rfl rfl) (pe (.bool (decide (122 < yq))) (az rfl D rfl) (en yu ?_))));rcases oif F with ⟨yk,F⟩|⟨yk,F⟩
  ·refine ct yk ?_;refine sR fun _ yF=>?_;refine pa (.bool false) (en yF (ak (br yo (tr yn (tr yi (br ym (tr yl ?_)))))));replace F:=exL F Z;refine aL rfl rfl ?_;exact rB F S
  refine cf yk (aS (bn yo (tn yn (ag (pM (i_ J) Y ?_)))));obtain ⟨yr,yy,F⟩:=ob F;refine pe (i_ yr) (aE rfl rfl yy) (pa (i_ yr) (en yi ?_));replace S:=S.keep 0;exact ⟨yr,U,rfl,S,F⟩
 refine cf yj (aM (tx yt (tx yi ?_)));replace F:=exA F Z;refine bS ym (tn yl ?_);refine sR fun _ yG=>?_;refine pM (.string a0) U (pe (i_ (a0.size:Int)) (jt Try.underlying9 rfl) ?_);obtain ⟨yH,yz,F⟩:=ob F;refine ec0 iy (dA yz) (ca (ai rfl (ai rfl (ai rfl rfl)))) S fun yL yI S=>?_;refine pa (.bool yH) (en yG (ak (aL rfl rfl ?_)));exact rB F S
theorem iE {w0:World} {a0:ByteArray} {u1:Value} {a1:List Int} {a2:Int} (_:a0.size ≤ 9223372036854775807) (ha1:R0_.rd w0 [u1] a1) {N:Nat} {r:Bool} (F:dv N a0 a1 a2=some r): Calls Try.prog 76 #[.agg #[.string a0,u1],i_ a2] w0 fun e w'=>e=.returned (.bool r)∧Ext w0 w' := by
 unfold dv at F;refine aN Try.func76 rfl rfl (dt rfl) ?_;have S:=Sat.start w0;refine sR fun _ yz=>?_;refine bv [.string a0,u1] rfl S (dt rfl) ?_;intro yI J S yG;refine pa (.bool false) (en yz ?_);refine sg fun _ yn=>?_;refine sR fun _ yA=>?_;refine pa (i_ 0) (en yA ?_);refine bg fun _ yo=>?_;obtain ⟨yB,hL,yl⟩:=ob F;refine aJ (fun k e w=>∃ (D:Int),e 1=i_ a2∧e 2=.pointer (some ⟨J,0,none⟩)∧e 5=i_ D∧Sat w0 w [Box J 50 [.string a0,u1]]∧bV N k a2 a0 a1 D=some yB) N ?_ ?_ ?_
 ·exact ⟨0,rfl,rfl,rfl,S,hL⟩
 ·rintro e w ⟨_,_,_,_,_,hz⟩; exact nomatch (show none=some _ from hz)
 rintro k yJ yK ⟨D,ym,U,Y,S,F⟩;refine gn fun _ yj=>?_;refine sg fun _ yp=>?_;refine sR fun _ yC=>?_;refine pM (i_ D) Y (pe (.pointer (some ⟨J,0 + 1,none⟩)) (ac U) (pe u1 (ae rfl ((S.boxAt 0 rfl) 1 _ rfl)) (pe (i_ (a1.length:Int)) (ax rfl ha1) (pe (.bool (decide (D < (a1.length:Int)))) (aU rfl rfl) (en yC ?_)))));rcases oif F with ⟨Z,F⟩|⟨Z,F⟩
 ·refine ct Z (sn yp ?_);refine sg fun _ yq=>?_;refine bg fun _ yr=>?_;refine sR fun _ yD=>?_;refine pe (.pointer (some ⟨J,0 + 1,none⟩)) (ac U) (pe u1 (ae rfl ((S.boxAt 0 rfl) 1 _ rfl)) (pM (i_ D) Y ?_));obtain ⟨yt,yu,F⟩:=ob F;refine aI (wA:=w0) rfl ha1 rfl (dt rfl) rfl yu (dt rfl) ?_;intro yL yH yM yw yx;obtain rfl:=yw;refine pe (i_ yt) (ae rfl ((ap S.below yx) 0 _ rfl)) (pM (i_ a2) ym (pe (.bool (yt == a2)) (bK rfl rfl) (en yD ?_)));rcases oif F with ⟨yi,F⟩|⟨yi,F⟩
  ·refine ct yi ?_;refine sg fun _ yE=>?_;replace S:=S.r0;refine ag (pa (.bool true) (en yE (ak (br yr (tr yq (tr yj (br yo (tr yn ?_))))))));replace F:=exL F yl;refine aL rfl rfl ?_;exact rB F S
  refine cf yi (aS (bn yr (tn yq (ag (pM (i_ D) Y ?_)))));obtain ⟨yk,yy,F⟩:=ob F;refine pe (i_ yk) (aE rfl rfl yy) (pa (i_ yk) (en yj ?_));replace S:=S.keep 1;exact ⟨yk,ym,U,rfl,S,F⟩
 refine cf Z (aM (tx yp (tx yj ?_)));replace F:=exA F yl;refine bS yo (tn yn ?_);refine sg fun _ yF=>?_;replace S:=S.r0;refine ag (pa (.bool false) (en yF (ak (aL rfl rfl ?_))));exact rB F S
theorem gU {w0:World} {a0:Int} {u1:Value} {a1:List T2_} {u2:Value} {a2:List Int} (ha1:R6_.rd w0 [u1] a1) (ha2:R0_.rd w0 [u2] a2) {N:Nat} {r:Bool} (F:dP N a0 a1 a2=some r): Calls Try.prog 43 #[.agg #[i_ a0,u1,u2]] w0 fun e w'=>e=.returned (.bool r)∧Ext w0 w' := by
 unfold dP at F;refine aN Try.func43 rfl rfl (dt rfl) ?_;have S:=Sat.start w0;refine sR fun _ AT=>?_;refine bv [i_ a0,u1,u2] rfl S (dt rfl) ?_;intro BP J S BC;refine pa (.bool false) (en AT ?_);refine sg fun _ yC=>?_;refine sR fun _ yV=>?_;refine pe (.pointer (some ⟨J,0 + 0,none⟩)) (ac rfl) (pe (i_ a0) (ae rfl ((S.boxAt 0 rfl) 0 _ rfl)) ?_);obtain ⟨zn,zN,F⟩:=ob F;refine ec0 iy (dA zN) (ca (ai rfl (ai rfl (ai rfl rfl)))) S fun BQ BD S=>?_;refine pe (.bool (!zn)) (bk rfl) (pm (.bool (!zn)) ?_);rcases oif F with ⟨yi,F⟩|⟨yi,F⟩
 ·refine ei (am yi) (pe (.pointer (some ⟨J,0 + 1,none⟩)) (ac rfl) (ei (am yi) (pe u1 (ae rfl ((S.boxAt 0 rfl) 1 _ rfl)) (ei (am yi) (pe (i_ (a1.length:Int)) (ax rfl ha1) (ei (am yi) ?_))))));obtain ⟨yW,zO,F⟩:=ob F;refine ec0 iy (dA zO) (ca (ai rfl (ai rfl (ai rfl rfl)))) S fun BR BE S=>?_;refine ei (am yi) (pe (.bool (!yW)) (bk rfl) (pe (.bool (!yW)) (az rfl (am yi) rfl) (pm (.bool (!yW)) ?_)));rcases oif F with ⟨Z,F⟩|⟨Z,F⟩
  ·refine ei (am Z) (pe (.pointer (some ⟨J,0 + 2,none⟩)) (ac rfl) (ei (am Z) (pe u2 (ae rfl ((S.boxAt 0 rfl) 2 _ rfl)) (ei (am Z) (pe (i_ (a2.length:Int)) (ax rfl ha2) (ei (am Z) (pe (.pointer (some ⟨J,0 + 0,none⟩)) (ac rfl) (ei (am Z) (pe (i_ a0) (ae rfl ((S.boxAt 0 rfl) 0 _ rfl)) (ei (am Z) (pe (.bool (decide (a0 < (a2.length:Int)))) (bp rfl rfl) (pe (.bool (decide (a0 < (a2.length:Int)))) (az rfl (am Z) rfl) (en yV ?_)))))))))))));rcases oif F with ⟨yD,F⟩|⟨yD,F⟩
   ·refine ct yD ?_;refine sg fun _ AU=>?_;replace S:=S.r0;refine ag (pa (.bool false) (en AU (ak (tr yC (aL rfl rfl ?_)))));exact rB F S
   refine cf yD (sn yC ?_);refine sg fun _ yE=>?_;refine sR fun _ AV=>?_;refine pa (i_ 0) (en AV ?_);refine bg fun _ yF=>?_;obtain ⟨AW,hL,yw⟩:=ob F;refine aJ (fun k e w=>∃ (yj:Int),e 1=.pointer (some ⟨J,0,none⟩)∧e 3=i_ yj∧Sat w0 w [Box J 30 [i_ a0,u1,u2]]∧cy N k a0 a1 a2 yj=some AW) N ?_ ?_ ?_
   ·exact ⟨0,rfl,rfl,S,hL⟩
   ·rintro e w ⟨_,_,_,_,hz⟩; exact nomatch (show none=some _ from hz)
   rintro k BS BT ⟨yj,yq,yx,S,F⟩;refine gn fun _ yB=>?_;refine sg fun _ zo=>?_;refine sR fun _ AX=>?_;refine pM (i_ yj) yx (pe (.pointer (some ⟨J,0 + 1,none⟩)) (ac yq) (pe u1 (ae rfl ((S.boxAt 0 rfl) 1 _ rfl)) (pe (i_ (a1.length:Int)) (ax rfl ha1) (pe (.bool (decide (yj < (a1.length:Int)))) (aU rfl rfl) (en AX ?_)))));rcases oif F with ⟨yG,F⟩|⟨yG,F⟩
   ·refine ct yG (sn zo ?_);refine sg fun _ yH=>?_;refine bg fun _ yI=>?_;refine sg fun _ yX=>?_;refine sR fun _ zp=>?_;refine pe (.pointer (some ⟨J,0 + 1,none⟩)) (ac yq) (pe u1 (ae rfl ((S.boxAt 0 rfl) 1 _ rfl)) (pM (i_ yj) yx ?_));obtain ⟨AY,zP,F⟩:=ob F;refine aI (wA:=w0) rfl ha1 rfl (dt rfl) rfl zP (dt rfl) ?_;intro AZ zQ BU zR zS;obtain ⟨_,_,rfl,zT,zU⟩:=zR;obtain ⟨rfl,zV⟩:=zT;obtain ⟨BV,rfl⟩:=aB zU;refine pe (.pointer (some ⟨AZ,zQ + 0,none⟩)) (ac rfl) (pe (.string AY.1) (ae rfl ((ap S.below zS) 0 _ rfl)) ?_);obtain ⟨zq,zW,F⟩:=ob F;refine ec0 uP (jX zV zW) (ca (ai rfl rfl)) S fun BW BF S=>?_;refine pe (.bool (!zq)) (bk rfl) (pm (.bool (!zq)) ?_);rcases oif F with ⟨U,F⟩|⟨U,F⟩
    ·refine ei (am U) (pe (.pointer (some ⟨J,0 + 1,none⟩)) (ac yq) (ei (am U) (pe u1 (ae rfl ((S.boxAt 0 rfl) 1 _ rfl)) (ei (am U) (pM (i_ yj) yx (ei (am U) ?_))))));obtain ⟨A0,zX,F⟩:=ob F;refine aI (wA:=w0) rfl ha1 rfl (dt rfl) rfl zX (dt rfl) ?_;intro A1 zY BX zZ z0;obtain ⟨_,_,rfl,Aa,zf⟩:=zZ;obtain ⟨rfl,BG⟩:=Aa;obtain ⟨A2,rfl⟩:=aB zf;refine ei (am U) (pe (.pointer (some ⟨A1,zY + 1,none⟩)) (ac rfl) (ei (am U) (pe A2 (ae rfl ((ap S.below z0) 1 _ rfl)) (ei (am U) (pe (i_ (A0.2.length:Int)) (ax rfl zf) (ei (am U) ?_))))));obtain ⟨zr,Ab,F⟩:=ob F;refine ec0 iy (dA Ab) (ca (ai rfl (ai rfl (ai rfl rfl)))) S fun BY BH S=>?_;refine ei (am U) (pe (.bool (!zr)) (bk rfl) (pe (.bool (!zr)) (az rfl (am U) rfl) (en zp ?_)));rcases oif F with ⟨yJ,F⟩|⟨yJ,F⟩
     ·refine cf (am yJ) (sn yX ?_);refine sR fun _ A3=>?_;refine pa (i_ 0) (en A3 ?_);refine bg fun _ zt=>?_;obtain ⟨A4,hL,zg⟩:=ob F;refine aJ (fun k e w=>∃ (yo:Int),e 1=.pointer (some ⟨J,0,none⟩)∧e 3=i_ yj∧e 4=i_ yo∧Sat w0 w [Box J 30 [i_ a0,u1,u2]]∧cw N k a0 a1 a2 yj yo=some A4) N ?_ ?_ ?_
      ·exact ⟨0,yq,yx,rfl,S,hL⟩
      ·rintro e w ⟨_,_,_,_,_,hz⟩; exact nomatch (show none=some _ from hz)
      rintro k BZ B0 ⟨yo,yr,yy,yK,S,F⟩;refine gn fun _ yY=>?_;refine sg fun _ zu=>?_;refine sR fun _ A5=>?_;refine pM (i_ yo) yK (pe (.pointer (some ⟨J,0 + 1,none⟩)) (ac yr) (pe u1 (ae rfl ((S.boxAt 0 rfl) 1 _ rfl)) (pM (i_ yj) yy ?_)));obtain ⟨zw,Ac,F⟩:=ob F;refine aI (wA:=w0) rfl ha1 rfl (dt rfl) rfl Ac (dt rfl) ?_;intro A6 Ad B1 Ae Af;obtain ⟨_,_,rfl,Ag,zh⟩:=Ae;obtain ⟨rfl,BI⟩:=Ag;obtain ⟨A7,rfl⟩:=aB zh;refine pe (.pointer (some ⟨A6,Ad + 1,none⟩)) (ac rfl) (pe A7 (ae rfl ((ap S.below Af) 1 _ rfl)) (pe (i_ (zw.2.length:Int)) (ax rfl zh) (pe (.bool (decide (yo < (zw.2.length:Int)))) (aU rfl rfl) (en A5 ?_))));rcases oif F with ⟨yL,F⟩|⟨yL,F⟩
      ·refine ct yL (sn zu ?_);refine sg fun _ zx=>?_;refine bg fun _ zy=>?_;refine sg fun _ A8=>?_;refine ck (by kernel_rfl) (by kernel_rfl) ?_;refine qe (.pointer (some ⟨J,0 + 1,none⟩)) (ac yr) (qe u1 (ae rfl ((S.boxAt 0 rfl) 1 _ rfl)) (qM (i_ yj) yy ?_));obtain ⟨B2,Ah,F⟩:=ob F;refine bl (wA:=w0) rfl ha1 rfl (dt rfl) rfl Ah (dt rfl) ?_;intro A9 Ai B3 Aj Ak;obtain ⟨_,_,rfl,Al,zi⟩:=Aj;obtain ⟨rfl,BJ⟩:=Al;obtain ⟨Ba,rfl⟩:=aB zi;refine qe (.pointer (some ⟨A9,Ai + 1,none⟩)) (ac rfl) (qe Ba (ae rfl ((ap S.below Ak) 1 _ rfl)) (qM (i_ yo) yK ?_));obtain ⟨Bb,Am,F⟩:=ob F;refine bl (wA:=w0) rfl zi rfl (dt rfl) rfl Am (dt rfl) ?_;intro B4 BK B5 An Ao;obtain rfl:=An;refine qe (i_ Bb) (ae rfl ((ap S.below Ao) 0 _ rfl)) (qe (.pointer (some ⟨J,0 + 0,none⟩)) (ac yr) (qe (i_ a0) (ae rfl ((S.boxAt 0 rfl) 0 _ rfl)) ?_));obtain ⟨Bc,Ap,F⟩:=ob F;refine qe (i_ Bc) (c9 rfl rfl Ap) ?_;obtain ⟨zA,Aq,F⟩:=ob F;refine cU (.bool zA) iy (fun w' hw'=>dA Aq) (ca (ai rfl (ai rfl (ai rfl rfl)))) (dt rfl) ?_;refine qe (.bool (!zA)) (bk rfl) (bm ?_);intro B6 Ar;replace S:=S.ext Ar;refine tn A8 ?_;rcases oif F with ⟨yM,F⟩|⟨yM,F⟩
       ·refine cf (am yM) (aS (bn zy (tn zx (ag (pM (i_ yo) yK ?_)))));obtain ⟨yZ,As,F⟩:=ob F;refine pe (i_ yZ) (aE rfl rfl As) (pa (i_ yZ) (en yY ?_));replace S:=S.keep 1;exact ⟨yZ,yr,yy,rfl,S,F⟩
       refine ct (an yM) ?_;refine sg fun _ Bd=>?_;replace S:=S.r0;refine ag (pa (.bool false) (en Bd (ak (br zy (tr zx (tr yY (br zt (br yI (tr yH (tr yB (br yF (tr yE ?_))))))))))));replace F:=exL F zg;replace F:=exL F yw;refine aL rfl rfl ?_;exact rB F S
      refine cf yL (aM (tx zu (tx yY ?_)));replace F:=exA F zg;refine bS zt (bn yI (tn yH (ag (pM (i_ yj) yy ?_))));obtain ⟨y1,At,F⟩:=ob F;refine pe (i_ y1) (aE rfl rfl At) (pa (i_ y1) (en yB ?_));replace S:=S.keep 1;exact ⟨y1,yr,rfl,S,F⟩
     refine ct (an yJ) ?_;refine sg fun _ Be=>?_;replace S:=S.r0;refine ag (pa (.bool false) (en Be (ak (tr yX (br yI (tr yH (tr yB (br yF (tr yE ?_)))))))));replace F:=exL F yw;refine aL rfl rfl ?_;exact rB F S
    refine eo (an U) (eo (an U) (eo (an U) (eo (an U) (eo (an U) (eo (an U) (eo (an U) (eo (an U) (eo (an U) (pe (.bool true) (aw rfl (an U) rfl) (en zp (ct rfl ?_)))))))))));refine sg fun _ Bf=>?_;replace S:=S.r0;refine ag (pa (.bool false) (en Bf (ak (tr yX (br yI (tr yH (tr yB (br yF (tr yE ?_)))))))));replace F:=exL F yw;refine aL rfl rfl ?_;exact rB F S
   refine cf yG (aM (tx zo (tx yB ?_)));replace F:=exA F yw;refine bS yF (tn yE ?_);refine sg fun _ zB=>?_;refine sR fun _ Bg=>?_;refine pa (i_ 0) (en Bg ?_);refine bg fun _ zC=>?_;obtain ⟨Bh,hL,zj⟩:=ob F;refine aJ (fun k e w=>∃ (yk:Int),e 1=.pointer (some ⟨J,0,none⟩)∧e 5=i_ yk∧Sat w0 w [Box J 30 [i_ a0,u1,u2]]∧cE N k a0 a1 a2 yk=some Bh) N ?_ ?_ ?_
   ·exact ⟨0,yq,rfl,S,hL⟩
   ·rintro e w ⟨_,_,_,_,hz⟩; exact nomatch (show none=some _ from hz)
   rintro k B7 B8 ⟨yk,yN,zk,S,F⟩;refine gn fun _ y2=>?_;refine sg fun _ zD=>?_;refine sR fun _ Bi=>?_;refine pM (i_ yk) zk (pe (.pointer (some ⟨J,0 + 0,none⟩)) (ac yN) (pe (i_ a0) (ae rfl ((S.boxAt 0 rfl) 0 _ rfl)) (pe (.bool (decide (yk < a0))) (aU rfl rfl) (en Bi ?_))));rcases oif F with ⟨yO,F⟩|⟨yO,F⟩
   ·refine ct yO (sn zD ?_);refine sg fun _ zE=>?_;refine bg fun _ zF=>?_;refine sR fun _ Bj=>?_;refine pa (.bool false) (en Bj ?_);refine sg fun _ Bk=>?_;refine sR fun _ Bl=>?_;refine pa (i_ 0) (en Bl ?_);refine bg fun _ Bm=>?_;obtain ⟨Bn,hL,Au⟩:=ob F;refine aJ (fun k e w=>∃ (yp:Bool),∃ (ym:Int),e 1=.pointer (some ⟨J,0,none⟩)∧e 5=i_ yk∧e 6=.bool yp∧e 7=i_ ym∧Sat w0 w [Box J 30 [i_ a0,u1,u2]]∧ce N k a0 a1 a2 yk yp ym=some Bn) N ?_ ?_ ?_
    ·exact ⟨false,0,yN,zk,rfl,rfl,S,hL⟩
    ·rintro e w ⟨_,_,_,_,_,_,_,hz⟩; exact nomatch (show none=some _ from hz)
    rintro k B9 Ca ⟨yp,ym,yt,yz,zl,yA,S,F⟩;refine gn fun _ y3=>?_;refine sg fun _ zG=>?_;refine sR fun _ Bo=>?_;refine pM (i_ ym) yA (pe (.pointer (some ⟨J,0 + 1,none⟩)) (ac yt) (pe u1 (ae rfl ((S.boxAt 0 rfl) 1 _ rfl)) (pe (i_ (a1.length:Int)) (ax rfl ha1) (pe (.bool (decide (ym < (a1.length:Int)))) (aU rfl rfl) (en Bo ?_)))));rcases oif F with ⟨yP,F⟩|⟨yP,F⟩
    ·refine ct yP (sn zG ?_);refine sg fun _ zH=>?_;refine bg fun _ zI=>?_;refine ag (pM (.bool yp) zl (pm (.bool yp) ?_));rcases oif F with ⟨Y,F⟩|⟨Y,F⟩
     ·refine eo Y (eo Y (eo Y (eo Y (eo Y (eo Y (eo Y (pe (.bool true) (aw rfl Y rfl) (pa (.bool true) (ah (bn zI (tn zH (ag (pM (i_ ym) yA ?_)))))))))))));obtain ⟨y4,Av,F⟩:=ob F;refine pe (i_ y4) (aE rfl rfl Av) (pa (i_ y4) (en y3 ?_));replace S:=S.keep 1;exact ⟨true,y4,yt,yz,rfl,rfl,S,F⟩
     refine ei Y (pe (.pointer (some ⟨J,0 + 1,none⟩)) (ac yt) (ei Y (pe u1 (ae rfl ((S.boxAt 0 rfl) 1 _ rfl)) (ei Y (pM (i_ ym) yA (ei Y ?_))))));obtain ⟨zJ,Aw,F⟩:=ob F;refine aI (wA:=w0) rfl ha1 rfl (dt rfl) rfl Aw (dt rfl) ?_;intro Cb BL Cc Ax Ay;obtain ⟨_,_,rfl,Az,zm⟩:=Ax;obtain ⟨rfl,AA⟩:=Az;obtain ⟨zK,rfl⟩:=aB zm;refine ei Y (pe (.agg #[.string zJ.1,zK]) (au (cs:=[.string zJ.1,zK]) rfl rfl (ap S.below Ay)) (ei Y (pM (i_ yk) yz (ei Y ?_))));obtain ⟨y5,AB,F⟩:=ob F;refine ec0 uj (iE AA (S.up zm) AB) (ca (ai rfl (ai rfl rfl))) S fun Cd BM S=>?_;refine pe (.bool y5) (az rfl Y rfl) (pa (.bool y5) (ah (bn zI (tn zH (ag (pM (i_ ym) yA ?_))))));obtain ⟨y6,AC,F⟩:=ob F;refine pe (i_ y6) (aE rfl rfl AC) (pa (i_ y6) (en y3 ?_));replace S:=S.keep 1;exact ⟨y5,y6,yt,yz,rfl,rfl,S,F⟩
    refine cf yP (aM (tx zG (tx y3 ?_)));replace F:=exB F Au;refine bS Bm (tn Bk ?_);refine sR fun _ Bp=>?_;refine pM (.bool yp) zl (pe (.bool (!yp)) (bk rfl) (en Bp ?_));rcases oif F with ⟨yQ,F⟩|⟨yQ,F⟩
    ·refine cf (am yQ) (aS (bn zF (tn zE (ag (pM (i_ yk) yz ?_)))));obtain ⟨y7,AD,F⟩:=ob F;refine pe (i_ y7) (aE rfl rfl AD) (pa (i_ y7) (en y2 ?_));replace S:=S.keep 1;exact ⟨y7,yt,rfl,S,F⟩
    refine ct (an yQ) ?_;refine sg fun _ Bq=>?_;replace S:=S.r0;refine ag (pa (.bool false) (en Bq (ak (br zF (tr zE (tr y2 (br zC (tr zB ?_))))))));replace F:=exL F zj;refine aL rfl rfl ?_;exact rB F S
   refine cf yO (aM (tx zD (tx y2 ?_)));replace F:=exA F zj;refine bS zC (tn zB ?_);refine sg fun _ y8=>?_;refine sR fun _ Br=>?_;refine pa (i_ 0) (en Br ?_);refine bg fun _ y9=>?_;obtain ⟨Bs,hL,yR⟩:=ob F;refine aJ (fun k e w=>∃ (yl:Int),e 1=.pointer (some ⟨J,0,none⟩)∧e 8=i_ yl∧Sat w0 w [Box J 30 [i_ a0,u1,u2]]∧cF N k a0 a1 a2 yl=some Bs) N ?_ ?_ ?_
   ·exact ⟨0,yN,rfl,S,hL⟩
   ·rintro e w ⟨_,_,_,_,hz⟩; exact nomatch (show none=some _ from hz)
   rintro k Ce Cf ⟨yl,yn,yu,S,F⟩;refine gn fun _ yS=>?_;refine sg fun _ zL=>?_;refine sR fun _ Bt=>?_;refine pM (i_ yl) yu (pe (.pointer (some ⟨J,0 + 2,none⟩)) (ac yn) (pe u2 (ae rfl ((S.boxAt 0 rfl) 2 _ rfl)) (pe (i_ (a2.length:Int)) (ax rfl ha2) (pe (.bool (decide (yl < (a2.length:Int)))) (aU rfl rfl) (en Bt ?_)))));rcases oif F with ⟨yT,F⟩|⟨yT,F⟩
   ·refine ct yT (sn zL ?_);refine sg fun _ za=>?_;refine bg fun _ zb=>?_;refine sg fun _ zM=>?_;refine ck (by kernel_rfl) (by kernel_rfl) ?_;refine qe (.pointer (some ⟨J,0 + 2,none⟩)) (ac yn) (qe u2 (ae rfl ((S.boxAt 0 rfl) 2 _ rfl)) (qM (i_ yl) yu ?_));obtain ⟨Bu,AE,F⟩:=ob F;refine bl (wA:=w0) rfl ha2 rfl (dt rfl) rfl AE (dt rfl) ?_;intro Cg BN Ch AF AG;obtain rfl:=AF;refine qe (i_ Bu) (ae rfl ((ap S.below AG) 0 _ rfl)) (qe (.pointer (some ⟨J,0 + 0,none⟩)) (ac yn) (qe (i_ a0) (ae rfl ((S.boxAt 0 rfl) 0 _ rfl)) ?_));obtain ⟨Bv,AH,F⟩:=ob F;refine qe (i_ Bv) (c9 rfl rfl AH) ?_;obtain ⟨zc,AI,F⟩:=ob F;refine cU (.bool zc) iy (fun w' hw'=>dA AI) (ca (ai rfl (ai rfl (ai rfl rfl)))) (dt rfl) ?_;refine qe (.bool (!zc)) (bk rfl) (qm (.bool (!zc)) ?_);rcases oif F with ⟨D,F⟩|⟨D,F⟩
    ·refine qi (am D) (qe (.pointer (some ⟨J,0 + 2,none⟩)) (ac yn) (qi (am D) (qe u2 (ae rfl ((S.boxAt 0 rfl) 2 _ rfl)) (qi (am D) (qM (i_ yl) yu (qi (am D) ?_))))));obtain ⟨Ci,AJ,F⟩:=ob F;refine vI (wA:=w0) rfl rfl ha2 (.inr ⟨rfl,rfl⟩) (.inl (congrArg some rfl)) AJ (dt rfl) ?_;intro Cj AK;refine qi (am D) (qe (.pointer (some ⟨J,0 + 2,none⟩)) (ac yn) (qi (am D) (qe u2 (ae rfl ((S.boxAt 0 rfl) 2 _ rfl)) (qi (am D) (qM (i_ yl) yu (qi (am D) ?_))))));obtain ⟨Bw,AM,F⟩:=ob F;refine bl (wA:=w0) rfl ha2 rfl (dt rfl) rfl AM (dt rfl) ?_;intro Ck BO Cl AN AO;obtain rfl:=AN;refine qi (am D) (qe (i_ Bw) (ae rfl ((ap S.below AO) 0 _ rfl)) (qi (am D) ?_));obtain ⟨zd,AP,F⟩:=ob F;refine cU (i_ zd) kx (fun w' hw'=>d9 (bF (S.up AK) hw') AP) (ca (ai rfl (ai rfl rfl))) (dt rfl) ?_;refine qi (am D) (qe (.bool (decide (0 ≤ zd))) (c3 rfl rfl) (qe (.bool (decide (0 ≤ zd))) (az rfl (am D) rfl) (bm ?_)));intro Cm AQ;replace S:=S.ext AQ;refine tn zM ?_;rcases oif F with ⟨yU,F⟩|⟨yU,F⟩
     ·refine ct yU ?_;refine sg fun _ Bx=>?_;replace S:=S.r0;refine ag (pa (.bool false) (en Bx (ak (br zb (tr za (tr yS (br y9 (tr y8 ?_))))))));replace F:=exL F yR;refine aL rfl rfl ?_;exact rB F S
     refine cf yU (aS (bn zb (tn za (ag (pM (i_ yl) yu ?_)))));obtain ⟨ze,AR,F⟩:=ob F;refine pe (i_ ze) (aE rfl rfl AR) (pa (i_ ze) (en yS ?_));replace S:=S.keep 1;exact ⟨ze,yn,rfl,S,F⟩
    refine qo (an D) (qo (an D) (qo (an D) (qo (an D) (qo (an D) (qo (an D) (qo (an D) (qo (an D) (qo (an D) (qo (an D) (qo (an D) (qe (.bool true) (aw rfl (an D) rfl) (bm ?_))))))))))));intro Cn AS;replace S:=S.ext AS;refine tn zM (ct rfl ?_);refine sg fun _ By=>?_;replace S:=S.r0;refine ag (pa (.bool false) (en By (ak (br zb (tr za (tr yS (br y9 (tr y8 ?_))))))));replace F:=exL F yR;refine aL rfl rfl ?_;exact rB F S
   refine cf yT (aM (tx zL (tx yS ?_)));replace F:=exA F yR;refine bS y9 (tn y8 ?_);refine sg fun _ Bz=>?_;replace S:=S.r0;refine ag (pa (.bool true) (en Bz (ak (aL rfl rfl ?_))));exact rB F S
  refine eo (an Z) (eo (an Z) (eo (an Z) (eo (an Z) (eo (an Z) (eo (an Z) (pe (.bool true) (aw rfl (an Z) rfl) (en yV (ct rfl ?_))))))));refine sg fun _ BA=>?_;replace S:=S.r0;refine ag (pa (.bool false) (en BA (ak (tr yC (aL rfl rfl ?_)))));exact rB F S
 refine eo (an yi) (eo (an yi) (eo (an yi) (eo (an yi) (eo (an yi) (pe (.bool true) (aw rfl (an yi) rfl) (pm (.bool true) (eo rfl (eo rfl (eo rfl (eo rfl (eo rfl (eo rfl (pe (.bool true) (aw rfl rfl rfl) (en yV (ct rfl ?_)))))))))))))));refine sg fun _ BB=>?_;replace S:=S.r0;refine ag (pa (.bool false) (en BB (ak (tr yC (aL rfl rfl ?_)))));exact rB F S
theorem kD {w0:World} {a0:ByteArray} {a1:Int} (ha0:a0.size ≤ 9223372036854775807) {N:Nat} {r:(List ByteArray)} (F:jL N a0 a1=some r): Calls Try.prog 78 #[.string a0,.int .u8 a1] w0 fun e w'=>∃ (q0:Value),e=.returned (q0)∧Sat w0 w' [Own R1_ [q0] r] := by
 unfold jL at F;refine aN Try.func78 rfl rfl (dt rfl) ?_;have S:=Sat.start w0;refine sR fun _ yO=>?_;refine pa n_ (en yO ?_);refine sR fun _ yP=>?_;refine bi hX S (dt rfl) ?_;intro y5 yB S y2;refine pa yB (en yP ?_);refine sR fun _ yQ=>?_;refine pa (i_ 0) (en yQ ?_);refine sg fun _ yR=>?_;refine sR fun _ yS=>?_;refine pa (i_ 0) (en yS ?_);refine bg fun _ yT=>?_;obtain ⟨yU,hL,yH⟩:=ob F;refine aJ (fun k e w=>∃ (Z:Value),∃ (yi:List ByteArray),∃ (J:Int),∃ (D:Int),e 0=.string a0∧e 1=.int .u8 a1∧e 5=Z∧e 6=i_ J∧e 7=i_ D∧Sat w0 w [Own R1_ [Z] yi]∧jd N k a0 a1 yi J D=some yU) N ?_ ?_ ?_
 ·exact ⟨yB,[],0,0,rfl,rfl,rfl,rfl,rfl,S,hL⟩
 ·rintro e w ⟨_,_,_,_,_,_,_,_,_,_,hz⟩; exact nomatch (show none=some _ from hz)
 rintro k y6 y7 ⟨Z,yi,J,D,U,yj,yk,yl,Y,S,F⟩;refine gn fun _ yp=>?_;refine sg fun _ yC=>?_;refine sR fun _ yV=>?_;refine pM (i_ D) Y (pM (.string a0) U (pe (i_ (a0.size:Int)) (jt Try.underlying9 rfl) (pe (.bool (decide (D < (a0.size:Int)))) (aU rfl rfl) (en yV ?_))));rcases oif F with ⟨ym,F⟩|⟨ym,F⟩
 ·refine ct ym (sn yC ?_);refine sg fun _ yD=>?_;refine bg fun _ yE=>?_;refine sR fun _ yW=>?_;refine pM (.string a0) U (pM (i_ D) Y ?_);obtain ⟨yF,yI,F⟩:=ob F;refine pe (.int .u8 yF) (oV Try.underlying9 rfl rfl yI) (pM (.int .u8 a1) yj (pe (.bool (yF == a1)) (bK rfl rfl) (en yW ?_)));rcases oif F with ⟨yn,F⟩|⟨yn,F⟩
  ·refine ct yn ?_;refine sR fun _ yX=>?_;refine pM Z yk (pM (.string a0) U (pM (i_ J) yl (pM (i_ D) Y ?_)));obtain ⟨yq,yx,F⟩:=ob F;refine pe (.string yq) (ny (l:=J) (h:=D) Try.underlying9 rfl (.inl (congrArg some rfl)) (.inl (congrArg some rfl)) yx) ?_;refine aq [.string yq] rfl (by rfl) (dt rfl) rfl (dt rfl) S (dt rfl) ?_;intro y8 y9 S y3;obtain ⟨yY,yJ,F⟩:=ob F;have yz:=S.boxRow 0 rfl;replace S:=S.t1;replace S:=S.str yq (oG ha0 yx);replace S:=S.one;refine aC rfl (dt rfl) rfl (dt rfl) S rfl rfl rfl (by simp) yz yJ (dt rfl) ?_;intro za yG S;refine pa yG (en yX ?_);replace S:=S.r1;refine ag (pM (i_ D) Y ?_);obtain ⟨yr,yK,F⟩:=ob F;refine pe (i_ yr) (aE rfl rfl yK) (pa (i_ yr) (ah (bn yE (tn yD (ag (pM (i_ D) Y ?_))))));obtain ⟨yt,yL,F⟩:=ob F;refine pe (i_ yt) (aE rfl rfl yL) (pa (i_ yt) (en yp ?_));replace S:=S.keep 1;exact ⟨yG,yY,yr,yt,U,yj,rfl,rfl,rfl,S,F⟩
  refine cf yn (aS (bn yE (tn yD (ag (pM (i_ D) Y ?_)))));obtain ⟨yu,yM,F⟩:=ob F;refine pe (i_ yu) (aE rfl rfl yM) (pa (i_ yu) (en yp ?_));replace S:=S.keep 1;exact ⟨Z,yi,J,yu,U,yj,yk,yl,rfl,S,F⟩
 refine cf ym (aM (tx yC (tx yp ?_)));replace F:=exB F yH;refine bS yT (tn yR ?_);refine sR fun _ yZ=>?_;refine pM Z yk (pM (.string a0) U (pM (i_ J) yl ?_));obtain ⟨yw,yy,F⟩:=ob F;refine pe (.string yw) (ny (l:=J) (h:=(a0.size:Int)) Try.underlying9 rfl (.inl (congrArg some rfl)) (.inr ⟨rfl,rfl⟩) yy) ?_;refine aq [.string yw] rfl (by rfl) (dt rfl) rfl (dt rfl) S (dt rfl) ?_;intro zb zc S y4;obtain ⟨zd,yN,F⟩:=ob F;have yA:=S.boxRow 0 rfl;replace S:=S.t1;replace S:=S.str yw (oG ha0 yy);replace S:=S.one;refine aC rfl (dt rfl) rfl (dt rfl) S rfl rfl rfl (by simp) yA yN (dt rfl) ?_;intro y1 yo S;refine pa yo (en yZ (ak (aL rfl rfl ?_)));have hr:=Option.some.inj F;exact ⟨yo,congrArg (fun (r:(List ByteArray))=>Ending.returned (yo)) hr,Eq.mp (congrArg (fun (r:(List ByteArray))=>Sat w0 y1 [Own R1_ [yo] r]) hr) (S.keep 1)⟩
theorem gR {w0:World} {a0:Int}  {N:Nat} {r:ByteArray} (F:fC N a0=some r): Calls Try.prog 80 #[i_ a0] w0 fun e w'=>e=.returned (.string r)∧Ext w0 w'∧r.size ≤ 9223372036854775807 := by
 unfold fC at F;refine aN Try.func80 rfl rfl (dt rfl) ?_;have S:=Sat.start w0;refine sR fun _ yk=>?_;refine pa (.string ByteArray.empty) (en yk ?_);refine sg fun _ U=>?_;refine sR fun _ yl=>?_;refine pm (i_ a0) ?_;obtain ⟨ym,yi,F⟩:=ob F;refine ec0 iy (dA yi) (ca (ai rfl (ai rfl (ai rfl rfl)))) S fun yq yp S=>?_;refine pe (.bool (!ym)) (bk rfl) (en yl ?_);rcases oif F with ⟨D,F⟩|⟨D,F⟩
 ·refine cf (am D) (sn U ?_);refine sR fun _ yn=>?_;refine pm (i_ a0) (pm (i_ a0) ?_);obtain ⟨Y,yj,F⟩:=ob F;refine pe (i_ Y) (aE rfl rfl yj) ?_;obtain ⟨Z,J,F⟩:=ob F;refine pe (.string Z) (ny (l:=a0) (h:=Y) Try.underlying9 rfl (.inl (congrArg some rfl)) (.inl (congrArg some rfl)) J) (pa (.string Z) (en yn (ak (aL rfl rfl ?_))));have hr:=Option.some.inj F;exact ⟨congrArg (fun (r:ByteArray)=>Ending.returned (.string r)) hr,S.below,Eq.mp (congrArg (fun (r:ByteArray)=>r.size ≤ 9223372036854775807) hr :) (oG (dt rfl) J)⟩
 refine ct (an D) ?_;refine sR fun _ yo=>?_;refine pa (.string ByteArray.empty) (en yo (ak (tr U (aL rfl rfl ?_))));have hr:=Option.some.inj F;exact ⟨congrArg (fun (r:ByteArray)=>Ending.returned (.string r)) hr,S.below,Eq.mp (congrArg (fun (r:ByteArray)=>r.size ≤ 9223372036854775807) hr :) (dt rfl)⟩
theorem lS {w0:World} {a0:ByteArray} (_:a0.size ≤ 9223372036854775807) {N:Nat} {r:T0_} (F:kh N a0=some r): Calls Try.prog 79 #[.string a0] w0 fun e w'=>∃ (q0:Value),e=.returned (q0)∧Sat w0 w' [Own R0_ [q0] r] := by
 unfold kh at F;refine aN Try.func79 rfl rfl (dt rfl) ?_;have S:=Sat.start w0;refine sR fun _ yU=>?_;refine pa n_ (en yU ?_);refine sR fun _ yV=>?_;refine bi cp S (dt rfl) ?_;intro ze yA S zc;refine pa yA (en yV ?_);refine sg fun _ yW=>?_;refine sR fun _ yX=>?_;refine pa (i_ 0) (en yX ?_);refine bg fun _ yY=>?_;obtain ⟨yZ,hL,yK⟩:=ob F;refine aJ (fun k e w=>∃ (U:Value),∃ (yl:List Int),∃ (D:Int),e 0=.string a0∧e 3=U∧e 4=i_ D∧Sat w0 w [Own R0_ [U] yl]∧j5 N k a0 yl D=some yZ) N ?_ ?_ ?_
 ·exact ⟨yA,[],0,rfl,rfl,rfl,S,hL⟩
 ·rintro e w ⟨_,_,_,_,_,_,_,hz⟩; exact nomatch (show none=some _ from hz)
 rintro k zf y1 ⟨U,yl,D,yw,yx,yy,S,F⟩;refine gn fun _ yB=>?_;refine sg fun _ yC=>?_;refine sR fun _ y2=>?_;refine pM (i_ D) yy (pM (.string a0) yw (pe (i_ (a0.size:Int)) (jt Try.underlying9 rfl) (pe (.bool (decide (D < (a0.size:Int)))) (aU rfl rfl) (en y2 ?_))));rcases oif F with ⟨ym,F⟩|⟨ym,F⟩
 ·refine ct ym (sn yC ?_);refine sg fun _ y3=>?_;refine bg fun _ y4=>?_;refine sR fun _ y5=>?_;refine pa (i_ 0) (en y5 ?_);refine bg fun _ y6=>?_;obtain ⟨y7,hL,yL⟩:=ob F;refine aJ (fun k e w=>∃ (yi:Value),∃ (yk:List Int),∃ (J:Int),e 0=.string a0∧e 3=yi∧e 4=i_ D∧e 5=i_ J∧Sat w0 w [Own R0_ [yi] yk]∧iI N k a0 yk D J=some y7) N ?_ ?_ ?_
  ·exact ⟨U,yl,0,yw,yx,yy,rfl,S,hL⟩
  ·rintro e w ⟨_,_,_,_,_,_,_,_,hz⟩; exact nomatch (show none=some _ from hz)
  rintro k zg zh ⟨yi,yk,J,yj,yn,Y,Z,S,F⟩;refine gn fun _ yq=>?_;refine sg fun _ yD=>?_;refine sR fun _ y8=>?_;refine pM (i_ J) Z (pe (.bool (decide (J < 5))) (aU rfl rfl) (en y8 ?_));rcases oif F with ⟨yo,F⟩|⟨yo,F⟩
  ·refine ct yo (sn yD ?_);refine sg fun _ yE=>?_;refine bg fun _ yF=>?_;refine sg fun _ y9=>?_;refine ck (by kernel_rfl) (by kernel_rfl) ?_;refine qM (i_ J) Z ?_;obtain ⟨yG,yM,F⟩:=ob F;refine cU (.string yG) rg (fun w' hw'=>(gR yM).mono (fun _ _ h=>⟨h.1,h.2.1⟩)) (ca (ai rfl rfl)) (dt rfl) ?_;refine qM (.string a0) yj (qM (i_ D) Y (qM (i_ D) Y ?_));obtain ⟨yH,yN,F⟩:=ob F;refine qe (i_ yH) (aE rfl rfl yN) ?_;obtain ⟨yI,yO,F⟩:=ob F;refine qe (.string yI) (ny (l:=D) (h:=yH) Try.underlying9 rfl (.inl (congrArg some rfl)) (.inl (congrArg some rfl)) yO) (qe (.bool (eqS yG yI)) (kM rfl rfl) (bm ?_));intro zi yP;replace S:=S.ext yP;refine tn y9 ?_;rcases oif F with ⟨yp,F⟩|⟨yp,F⟩
   ·refine ct yp (ag (pM yi yn (pM (i_ J) Z ?_)));refine aq [i_ J] rfl (by rfl) (dt rfl) rfl (dt rfl) S (dt rfl) ?_;intro zj zk S zd;obtain ⟨za,yQ,F⟩:=ob F;have yz:=S.boxRow 0 rfl;replace S:=S.t1;replace S:=S.int J;replace S:=S.one;refine aC rfl (dt rfl) rfl (dt rfl) S rfl rfl rfl (by simp) yz yQ (dt rfl) ?_;intro zl yJ S;refine pa yJ (ah (bn yF (tn yE ?_)));replace S:=S.r1;refine ag (pM (i_ J) Z ?_);obtain ⟨yr,yR,F⟩:=ob F;refine pe (i_ yr) (aE rfl rfl yR) (pa (i_ yr) (en yq ?_));replace S:=S.keep 1;exact ⟨yJ,za,yr,yj,rfl,Y,rfl,S,F⟩
   refine cf yp (aS (bn yF (tn yE (ag (pM (i_ J) Z ?_)))));obtain ⟨yt,yS,F⟩:=ob F;refine pe (i_ yt) (aE rfl rfl yS) (pa (i_ yt) (en yq ?_));replace S:=S.keep 1;exact ⟨yi,yk,yt,yj,yn,Y,rfl,S,F⟩
  refine cf yo (aM (tx yD (tx yq ?_)));replace F:=exB F yL;refine bS y6 (bn y4 (tn y3 (ag (pM (i_ D) Y ?_))));obtain ⟨yu,yT,F⟩:=ob F;refine pe (i_ yu) (aE rfl rfl yT) (pa (i_ yu) (en yB ?_));replace S:=S.keep 1;exact ⟨yi,yk,yu,yj,yn,rfl,S,F⟩
 refine cf ym (aM (tx yC (tx yB ?_)));replace F:=exB F yK;refine bS yY (tn yW ?_);refine sR fun _ zb=>?_;refine pM U yx (pa U (en zb (ak (aL rfl rfl ?_))));have hr:=Option.some.inj F;exact ⟨U,congrArg (fun (r:T0_)=>Ending.returned (U)) hr,Eq.mp (congrArg (fun (r:T0_)=>Sat w0 y1 [Own R0_ [U] r]) hr) (S.keep 1)⟩
theorem j7 {w0:World} {u0:Value} {a0:List Int} (ha0:R0_.rd w0 [u0] a0) {N:Nat} {r:ByteArray} (F:i5 N a0=some r): Calls Try.prog 85 #[u0] w0 fun e w'=>e=.returned (.string r)∧Ext w0 w'∧r.size ≤ 9223372036854775807 := by
 unfold i5 at F;refine aN Try.func85 rfl rfl (dt rfl) ?_;have S:=Sat.start w0;refine sR fun _ yz=>?_;refine pa (.string ByteArray.empty) (en yz ?_);refine sR fun _ yA=>?_;refine pa (.string (⟨#[40]⟩:ByteArray)) (en yA ?_);refine sg fun _ yB=>?_;refine sR fun _ yC=>?_;refine pa (i_ 0) (en yC ?_);refine bg fun _ yD=>?_;obtain ⟨yE,hL,yq⟩:=ob F;refine aJ (fun k e w=>∃ (J:ByteArray),∃ (D:Int),e 0=u0∧e 3=.string J∧e 4=i_ D∧Sat w0 w []∧J.size ≤ 9223372036854775807∧j6 N k a0 J D=some yE) N ?_ ?_ ?_
 ·exact ⟨(⟨#[40]⟩:ByteArray),0,rfl,rfl,rfl,S,(dt rfl),hL⟩
 ·rintro e w ⟨_,_,_,_,_,_,_,hz⟩; exact nomatch (show none=some _ from hz)
 rintro k yN yO ⟨J,D,U,yk,Y,S,yK,F⟩;refine gn fun _ yn=>?_;refine sg fun _ yo=>?_;refine sR fun _ yF=>?_;refine pM (i_ D) Y (pM u0 U (pe (i_ (a0.length:Int)) (ax rfl ha0) (pe (.bool (decide (D < (a0.length:Int)))) (aU rfl rfl) (en yF ?_))));rcases oif F with ⟨Z,F⟩|⟨Z,F⟩
 ·refine ct Z (sn yo ?_);refine sg fun _ yG=>?_;refine bg fun _ yH=>?_;refine ag (pM (.string J) yk (pM u0 U (pM (i_ D) Y ?_)));obtain ⟨yI,yr,F⟩:=ob F;refine aI (wA:=w0) rfl ha0 rfl (dt rfl) rfl yr (dt rfl) ?_;intro yP yL yQ yt yu;obtain rfl:=yt;refine pe (i_ yI) (ae rfl ((ap S.below yu) 0 _ rfl)) ?_;obtain ⟨yR,yw,F⟩:=ob F;refine aW rg (gR yw) (ca (ai rfl rfl)) (dt rfl) ?_;rintro _ yS ⟨rfl,yx,yM⟩;refine ⟨_,rfl,?_⟩;replace S:=S.ext yx;obtain ⟨yi,yl,F⟩:=ob F;refine pe (.string yi) (jA rfl rfl yl) (pa (.string yi) (ah (bn yH (tn yG (ag (pM (i_ D) Y ?_))))));obtain ⟨yj,yy,F⟩:=ob F;refine pe (i_ yj) (aE rfl rfl yy) (pa (i_ yj) (en yn ?_));replace S:=S.keep 0;exact ⟨yi,yj,U,rfl,rfl,S,(kp yl),F⟩
 refine cf Z (aM (tx yo (tx yn ?_)));replace F:=exB F yq;refine bS yD (tn yB ?_);refine sR fun _ yJ=>?_;refine pM (.string J) yk ?_;obtain ⟨yp,ym,F⟩:=ob F;refine pe (.string yp) (jA rfl rfl ym) (pa (.string yp) (en yJ (ak (aL rfl rfl ?_))));have hr:=Option.some.inj F;exact ⟨congrArg (fun (r:ByteArray)=>Ending.returned (.string r)) hr,S.below,Eq.mp (congrArg (fun (r:ByteArray)=>r.size ≤ 9223372036854775807) hr :) (kp ym)⟩
theorem m7 {w0:World} {a0:Int} {u1:Value} {a1:List T2_} {u2:Value} {a2:List Int} (ha1:R6_.rd w0 [u1] a1) (ha2:R0_.rd w0 [u2] a2) {N:Nat} {r:ByteArray} (F:jg N a0 a1 a2=some r): Calls Try.prog 81 #[.agg #[i_ a0,u1,u2]] w0 fun e w'=>e=.returned (.string r)∧Ext w0 w'∧r.size ≤ 9223372036854775807 := by
 unfold jg at F;refine aN Try.func81 rfl rfl (dt rfl) ?_;have S:=Sat.start w0;refine sR fun _ zg=>?_;refine bv [i_ a0,u1,u2] rfl S (dt rfl) ?_;intro zO Y S zH;refine pa (.string ByteArray.empty) (en zg ?_);refine sg fun _ yA=>?_;refine sR fun _ zh=>?_;refine pe (.agg #[i_ a0,u1,u2]) (au (cs:=[i_ a0,u1,u2]) rfl rfl (av (S.boxAt 0 rfl))) ?_;obtain ⟨zi,yF,F⟩:=ob F;refine ec0 qQ (gU (S.up ha1) (S.up ha2) yF) (ca (ai rfl rfl)) S fun zP zI S=>?_;refine pe (.bool (!zi)) (bk rfl) (en zh ?_);rcases oif F with ⟨yi,F⟩|⟨yi,F⟩
 ·refine cf (am yi) (sn yA ?_);refine sR fun _ zj=>?_;refine pe (.pointer (some ⟨Y,0 + 2,none⟩)) (ac rfl) (pe u2 (ae rfl ((S.boxAt 0 rfl) 2 _ rfl)) ?_);obtain ⟨zQ,yG,F⟩:=ob F;refine aW rP (j7 (S.up ha2) yG) (ca (ai rfl rfl)) (dt rfl) ?_;rintro _ zR ⟨rfl,yH,zJ⟩;refine ⟨_,rfl,?_⟩;replace S:=S.ext yH;obtain ⟨ym,yu,F⟩:=ob F;refine pe (.string ym) (jA rfl rfl yu) (pa (.string ym) (en zj ?_));refine sg fun _ zk=>?_;refine sR fun _ zl=>?_;refine pa (i_ 0) (en zl ?_);refine bg fun _ zm=>?_;obtain ⟨zn,hL,yI⟩:=ob F;refine aJ (fun k e w=>∃ (Z:ByteArray),∃ (D:Int),e 1=.pointer (some ⟨Y,0,none⟩)∧e 3=.string Z∧e 4=i_ D∧Sat w0 w [Box Y 30 [i_ a0,u1,u2]]∧Z.size ≤ 9223372036854775807∧fX N k a0 a1 a2 Z D=some zn) N ?_ ?_ ?_
  ·exact ⟨ym,0,rfl,rfl,rfl,S,(kp yu),hL⟩
  ·rintro e w ⟨_,_,_,_,_,_,_,hz⟩; exact nomatch (show none=some _ from hz)
  rintro k zS zT ⟨Z,D,U,yj,J,S,yJ,F⟩;refine gn fun _ yn=>?_;refine sg fun _ yB=>?_;refine sR fun _ zo=>?_;refine pM (i_ D) J (pe (.pointer (some ⟨Y,0 + 1,none⟩)) (ac U) (pe u1 (ae rfl ((S.boxAt 0 rfl) 1 _ rfl)) (pe (i_ (a1.length:Int)) (ax rfl ha1) (pe (.bool (decide (D < (a1.length:Int)))) (aU rfl rfl) (en zo ?_)))));rcases oif F with ⟨yk,F⟩|⟨yk,F⟩
  ·refine ct yk (sn yB ?_);refine sg fun _ yC=>?_;refine bg fun _ yD=>?_;refine sg fun _ yE=>?_;refine sR fun _ zp=>?_;refine pM (i_ D) J (pe (.bool (decide (0 < D))) (bp rfl rfl) (en zp ?_));rcases oif F with ⟨yl,F⟩|⟨yl,F⟩
   ·refine ct yl (ag (pM (.string Z) yj ?_));obtain ⟨yo,yK,F⟩:=ob F;refine pe (.string yo) (jA rfl rfl yK) (pa (.string yo) (en yE ?_));refine ck (by kernel_rfl) (by kernel_rfl) ?_;refine qm (.string yo) (qe (.pointer (some ⟨Y,0 + 1,none⟩)) (ac U) (qe u1 (ae rfl ((S.boxAt 0 rfl) 1 _ rfl)) (qM (i_ D) J ?_)));obtain ⟨zq,yL,F⟩:=ob F;refine bl (wA:=w0) rfl ha1 rfl (dt rfl) rfl yL (dt rfl) ?_;intro zr yM zU yN yO;obtain ⟨_,_,rfl,yP,yQ⟩:=yN;obtain ⟨rfl,zK⟩:=yP;obtain ⟨zV,rfl⟩:=aB yQ;refine qe (.pointer (some ⟨zr,yM + 0,none⟩)) (ac rfl) (qe (.string zq.1) (ae rfl ((ap S.below yO) 0 _ rfl)) ?_);obtain ⟨zt,yR,F⟩:=ob F;refine qe (.string zt) (jA rfl rfl yR) (qe (.pointer (some ⟨Y,0 + 1,none⟩)) (ac U) (qe u1 (ae rfl ((S.boxAt 0 rfl) 1 _ rfl)) (qM (i_ D) J ?_)));obtain ⟨zW,yS,F⟩:=ob F;refine bl (wA:=w0) rfl ha1 rfl (dt rfl) rfl yS (dt rfl) ?_;intro zu yT zX yU yV;obtain ⟨_,_,rfl,yW,yw⟩:=yU;obtain ⟨rfl,zL⟩:=yW;obtain ⟨zw,rfl⟩:=aB yw;refine qe (.pointer (some ⟨zu,yT + 1,none⟩)) (ac rfl) (qe zw (ae rfl ((ap S.below yV) 1 _ rfl)) ?_);obtain ⟨zx,yX,F⟩:=ob F;refine cU (.string zx) rP (fun w' hw'=>(j7 (bF (S.up yw) hw') yX).mono (fun _ _ h=>⟨h.1,h.2.1⟩)) (ca (ai rfl rfl)) (dt rfl) ?_;obtain ⟨yp,yx,F⟩:=ob F;refine qe (.string yp) (jA rfl rfl yx) (qe (.string yp) (cr rfl) (bm ?_));intro zY yY;replace S:=S.ext yY;refine bn yD (tn yC (ag (pM (i_ D) J ?_)));obtain ⟨yq,yZ,F⟩:=ob F;refine pe (i_ yq) (aE rfl rfl yZ) (pa (i_ yq) (en yn ?_));replace S:=S.keep 1;exact ⟨yp,yq,U,rfl,rfl,S,(kp yx),F⟩
   refine cf yl (sn yE ?_);refine ck (by kernel_rfl) (by kernel_rfl) ?_;refine qM (.string Z) yj (qe (.pointer (some ⟨Y,0 + 1,none⟩)) (ac U) (qe u1 (ae rfl ((S.boxAt 0 rfl) 1 _ rfl)) (qM (i_ D) J ?_)));obtain ⟨zy,y1,F⟩:=ob F;refine bl (wA:=w0) rfl ha1 rfl (dt rfl) rfl y1 (dt rfl) ?_;intro zA y2 zZ y3 y4;obtain ⟨_,_,rfl,y5,y6⟩:=y3;obtain ⟨rfl,zM⟩:=y5;obtain ⟨z0,rfl⟩:=aB y6;refine qe (.pointer (some ⟨zA,y2 + 0,none⟩)) (ac rfl) (qe (.string zy.1) (ae rfl ((ap S.below y4) 0 _ rfl)) ?_);obtain ⟨zB,y7,F⟩:=ob F;refine qe (.string zB) (jA rfl rfl y7) (qe (.pointer (some ⟨Y,0 + 1,none⟩)) (ac U) (qe u1 (ae rfl ((S.boxAt 0 rfl) 1 _ rfl)) (qM (i_ D) J ?_)));obtain ⟨Aa,y8,F⟩:=ob F;refine bl (wA:=w0) rfl ha1 rfl (dt rfl) rfl y8 (dt rfl) ?_;intro zC y9 Ab za zb;obtain ⟨_,_,rfl,zc,yy⟩:=za;obtain ⟨rfl,zN⟩:=zc;obtain ⟨zD,rfl⟩:=aB yy;refine qe (.pointer (some ⟨zC,y9 + 1,none⟩)) (ac rfl) (qe zD (ae rfl ((ap S.below zb) 1 _ rfl)) ?_);obtain ⟨zE,zd,F⟩:=ob F;refine cU (.string zE) rP (fun w' hw'=>(j7 (bF (S.up yy) hw') zd).mono (fun _ _ h=>⟨h.1,h.2.1⟩)) (ca (ai rfl rfl)) (dt rfl) ?_;obtain ⟨yr,yz,F⟩:=ob F;refine qe (.string yr) (jA rfl rfl yz) (qe (.string yr) (cr rfl) (bm ?_));intro Ac ze;replace S:=S.ext ze;refine bn yD (tn yC (ag (pM (i_ D) J ?_)));obtain ⟨yt,zf,F⟩:=ob F;refine pe (i_ yt) (aE rfl rfl zf) (pa (i_ yt) (en yn ?_));replace S:=S.keep 1;exact ⟨yr,yt,U,rfl,rfl,S,(kp yz),F⟩
  refine cf yk (aM (tx yB (tx yn ?_)));replace F:=exB F yI;refine bS zm (tn zk ?_);refine sg fun _ zF=>?_;replace S:=S.r0;refine ag (pM (.string Z) yj (pa (.string Z) (en zF (ak (aL rfl rfl ?_)))));have hr:=Option.some.inj F;exact ⟨congrArg (fun (r:ByteArray)=>Ending.returned (.string r)) hr,S.below,Eq.mp (congrArg (fun (r:ByteArray)=>r.size ≤ 9223372036854775807) hr :) yJ⟩
 refine ct (an yi) ?_;refine sg fun _ zG=>?_;replace S:=S.r0;refine ag (pa (.string ByteArray.empty) (en zG (ak (tr yA (aL rfl rfl ?_)))));have hr:=Option.some.inj F;exact ⟨congrArg (fun (r:ByteArray)=>Ending.returned (.string r)) hr,S.below,Eq.mp (congrArg (fun (r:ByteArray)=>r.size ≤ 9223372036854775807) hr :) (dt rfl)⟩

end Go.Proofs.Ytnipkopfefkojaa
