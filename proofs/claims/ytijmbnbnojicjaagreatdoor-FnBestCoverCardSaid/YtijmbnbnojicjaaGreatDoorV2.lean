/- Plain laws: the program solves a system of equations as the specification does. -/
import Derived.Test.YtijmbnbnojicjaaGreatDoorV1
namespace Go.Proofs.YtijmbnbnojicjaaGreatDoor
open Go.RowKit
theorem ixI {α:Type} {xs:List α} {i:Int} {x:α} (h:ix xs i=some x):0≤i∧i<xs.length:=by
 obtain ⟨k,rfl,hk,_⟩:=eQ h
 omega
theorem p9 {α:Type} {xs ys:List α} {i:Int} {y:α} (h:sto xs i y=some ys):0≤i∧i<xs.length∧ys=xs.set i.toNat y:=by
 unfold sto at h
 split at h
 ·rename_i h0;exact ⟨by omega,by omega,(Option.some.inj h).symm⟩
 ·cases h
theorem pZ {α:Type} {xs:List α} {i:Int} {y:α} (h0:0≤i) (h1:i<xs.length):sto xs i y=some (xs.set i.toNat y):=by
 obtain ⟨k,rfl⟩:=Int.eq_ofNat_of_zero_le h0
 rw [kQ (by omega)];simp
theorem rS {α:Type} {xs ys:List α} {i:Int} {y:α} (h:sto xs i y=some ys):ix ys i=some y:=by
 obtain ⟨h0,h1,rfl⟩:=p9 h
 obtain ⟨k,rfl⟩:=Int.eq_ofNat_of_zero_le h0
 rw [aZ (by simp;omega)];simp
theorem tU {α:Type} {xs ys:List α} {i j:Int} {y:α} (h:sto xs i y=some ys) (hn:j≠i):ix ys j=ix xs j:=by
 obtain ⟨h0,h1,rfl⟩:=p9 h
 obtain ⟨k,rfl⟩:=Int.eq_ofNat_of_zero_le h0
 unfold ix
 split
 ·rename_i hj
  obtain ⟨l,rfl⟩:=Int.eq_ofNat_of_zero_le hj
  simp only [Int.toNat_natCast]
  rw [List.getElem?_set_ne (by omega)]
 ·rfl
theorem qa {α:Type} {xs ys:List α} {i:Int} {y:α} (h:sto xs i y=some ys):ys.length=xs.length:=by
 obtain ⟨_,_,rfl⟩:=p9 h;simp
theorem vq {α:Type} {xs:List α} {i:Int} {y:α} (h:ix xs i=some y):sto xs i y=some xs:=by
 obtain ⟨k,rfl,hk,rfl⟩:=eQ h
 rw [kQ hk];simp
theorem xu {α:Type} {xs ys:List α} {i:Int} {y z:α} (h:sto xs i y=some ys):sto ys i z=sto xs i z:=by
 obtain ⟨h0,h1,rfl⟩:=p9 h
 rw [pZ h0 h1,pZ h0 (by simpa using h1),List.set_set]
theorem rt {α:Type} {k:Nat} {xs ys zs:List α} (h:apd k xs ys=some zs):zs=xs++ys:=by
 unfold apd at h
 split at h
 ·exact (Option.some.inj h).symm
 ·cases h
section
variable {N:Nat}
theorem yk (hN:1073741824≤N) {p i:Int} (hpi:p≠i) {f1 f2:Int} {P:aW}:∀ (fuel:Nat) (m:bh) (R:aW) (c:Int) (s:bh × Bool × Int),ix m i=some R→ix m p=some P→bY N fuel m p i f1 f2 true c=some s →
  (s.2.1=true∧∃ R',fS N fuel R P f1 f2 c=some (.inr (R',s.2.2))∧sto m i R'=some s.1)∨(s.2.1=false∧∃ R',fS N fuel R P f1 f2 c=some (.inl (false,R'))):=by
 intro fuel
 induction fuel with
 | zero=>intro m R c s _ _ h;cases h
 | succ fuel ih =>
  intro m R c s hi hp h
  rw [bY,hi,bs] at h
  rw [fS]
  rcases oif h with ⟨hc,h⟩ | ⟨hc,h⟩
  ·rw [hc,cond_true]
   rw [cond_true,hp,bs] at h
   obtain ⟨a,ha,h⟩:=ob h
   rw [ha,bs,rP]
   obtain ⟨t,ht,h⟩:=ob h
   rw [ht,bs]
   rw [bs] at h
   obtain ⟨b,hb,h⟩:=ob h
   rw [hb,bs,vO hN _ _ (tZ ht)]
   obtain ⟨v,hv,h⟩:=ob h
   rw [hv,bs]
   rcases oif h with ⟨h1,h⟩ | ⟨h1,h⟩
   ·rw [h1,cond_true]
    rw [bs,hb,bs] at h
    obtain ⟨R1,hR1,h⟩:=ob h
    obtain ⟨m1,hm1,h⟩:=ob h
    obtain ⟨c1,hc1,h⟩:=ob h
    cases h2:v.2 with
    | true =>
     rw [h2] at h
     rw [cond_true,hR1,bs,hc1,bs]
     rcases ih m1 R1 c1 s (rS hm1) (by rw [tU hm1 hpi];exact hp) h with ⟨g1,R',g2,g3⟩ | ⟨g1,R',g2⟩
     ·exact .inl ⟨g1,R',g2,by rw [← xu hm1];exact g3⟩
     ·exact .inr ⟨g1,R',g2⟩
    | false =>
     rw [h2] at h
     rw [cond_false]
     refine .inr ⟨?_,_,rfl⟩
     cases fuel with
     | zero=>cases h
     | succ fuel =>
      rw [bY,rS hm1,bs] at h
      rcases oif h with ⟨_,h⟩ | ⟨_,h⟩
      ·rw [cond_false] at h;cases h;rfl
      ·cases h;rfl
   ·rw [h1,cond_false]
    refine .inr ⟨?_,_,rfl⟩
    rw [bs] at h
    obtain ⟨_,_,h⟩:=ob h
    obtain ⟨R1,hR1,h⟩:=ob h
    obtain ⟨m1,hm1,h⟩:=ob h
    obtain ⟨c1,hc1,h⟩:=ob h
    cases fuel with
    | zero=>cases h
    | succ fuel =>
     rw [bY,rS hm1,bs] at h
     rcases oif h with ⟨_,h⟩ | ⟨_,h⟩
     ·rw [cond_false] at h;cases h;rfl
     ·cases h;rfl
  ·rw [hc,cond_false]
   cases h
   exact .inl ⟨rfl,R,rfl,vq hi⟩
theorem wh (hN:1073741824≤N) {p n:Int}:∀ (fuel:Nat) (m:bh) (i:Int) (s:Sum (Bool × bh) (bh × Int)),(m.length:Int)=n→cl N fuel m p i=some s →
  (∃ m' z,s=.inr (m',z)∧(m'.length:Int)=n∧cd N fuel n m p i=some (.inr (m',z)))∨(∃ m',s=.inl (false,m')∧cd N fuel n m p i=some (.inl ([],false))):=by
 intro fuel
 induction fuel with
 | zero=>intro m i s _ h;cases h
 | succ fuel ih =>
  intro m i s hl h
  rw [cl,hl] at h
  rw [cd]
  rcases oif h with ⟨hc,h⟩ | ⟨hc,h⟩
  ·rw [hc,cond_true]
   rcases oif h with ⟨he,h⟩ | ⟨he,h⟩
   ·have e:i=p:=by simpa using he
    have e2:(i != p)=false:=by simpa using e
    rw [e2,cond_false]
    obtain ⟨i1,hi1,h⟩:=ob h
    rw [hi1,bs]
    exact ih m i1 s hl h
   ·have e:i≠p:=by simpa using he
    have e2:(i != p)=true:=by simpa using e
    rw [e2,cond_true]
    obtain ⟨R,hR,h⟩:=ob h
    rw [hR,bs]
    obtain ⟨a,ha,h⟩:=ob h
    rw [ha,bs]
    rcases oif h with ⟨hz,h⟩ | ⟨hz,h⟩
    ·have e3:(a.1 != 0)=false:=by simpa using hz
     rw [e3,cond_false]
     obtain ⟨i1,hi1,h⟩:=ob h
     rw [hi1,bs]
     exact ih m i1 s hl h
    ·have e3:(a.1 != 0)=true:=by simpa using hz
     rw [e3,cond_true]
     rw [hR,bs,ha,bs] at h
     rw [bs]
     obtain ⟨P,hP,h⟩:=ob h
     rw [hP,bs]
     unfold jq
     rw [ha,bs]
     obtain ⟨b,hb,h⟩:=ob h
     rw [hb,bs,re hN]
     obtain ⟨f,hf,h⟩:=ob h
     rw [hf,bs]
     obtain ⟨r,hr,h⟩:=ob h
     cases h0:f.2 with
     | true =>
      rw [h0] at hr
      rw [cond_true]
      rcases yk hN (Ne.symm e) N m R p r hR hP hr with ⟨g1,R',g2,g3⟩ | ⟨g1,R',g2⟩
      ·rw [g2,bs]
       simp only [lpS,bs]
       rw [g3,bs,cond_true]
       rw [lpB] at h
       simp only [g1,cond_true] at h
       obtain ⟨i1,hi1,h⟩:=ob h
       rw [hi1,bs]
       exact ih r.1 i1 s (by rw [qa g3];exact hl) h
      ·rw [g2,bs]
       simp only [lpS,bs]
       obtain ⟨q0,q1⟩:=ixI hR
       rw [pZ q0 q1,bs,cond_false]
       rw [lpB] at h
       simp only [g1,cond_false] at h
       cases h
       exact .inr ⟨_,rfl,rfl⟩
     | false =>
      rw [h0] at hr
      rw [cond_false,bs]
      have g1:r.2.1=false:=by
       cases hN':N with
       | zero=>omega
       | succ K =>
        rw [hN'] at hr
        rw [bY,hR,bs] at hr
        rcases oif hr with ⟨_,hr⟩ | ⟨_,hr⟩
        ·rw [cond_false] at hr;cases hr;rfl
        ·cases hr;rfl
      rw [lpB] at h
      simp only [g1,cond_false] at h
      cases h
      obtain ⟨q0,q1⟩:=ixI hR
      refine .inr ⟨_,rfl,?_⟩
      simp only [pZ q0 q1,bs,cond_false]
  ·rw [hc,cond_false]
   cases h
   exact .inl ⟨m,_,rfl,hl,rfl⟩
theorem uY (N:Nat):∀ (fuel:Nat) (n p k:Int) (m:bh),eF N fuel n m p k=bD N fuel n m p k:=by
 intro fuel
 induction fuel with
 | zero=>intros;rfl
 | succ fuel ih=>intro n p k m;rw [eF,bD];simp only [ih]
theorem ux {m m1 m2:bh} {p q:Int} {a b:aW} (ha:ix m p=some a) (hb:ix m q=some b) (h1:sto m q a=some m1) (h2:sto m1 p b=some m2):∃ m3,sto m p b=some m3∧sto m3 q a=some m2:=by
 obtain ⟨q0,q1,rfl⟩:=p9 h1
 obtain ⟨p0,p1,rfl⟩:=p9 h2
 have p2:p<m.length:=by simpa using p1
 refine ⟨_,pZ p0 p2,?_⟩
 rw [pZ q0 (by simpa using q1)]
 obtain ⟨k,rfl⟩:=Int.eq_ofNat_of_zero_le p0
 obtain ⟨l,rfl⟩:=Int.eq_ofNat_of_zero_le q0
 by_cases e:k=l
 ·subst e
  obtain rfl:a=b:=by rw [ha] at hb;exact Option.some.inj hb
  rfl
 ·simp only [Int.toNat_natCast]
  rw [List.set_comm _ _ e]
theorem vG (hN:1073741824≤N) {n:Int}:∀ (fuel:Nat) (m:bh) (p:Int) (s:Sum (aW × Bool) (bh × Int)),(m.length:Int)=n→bv N fuel n m p=some s →
  eI N fuel n m p=some s:=by
 intro fuel
 induction fuel with
 | zero=>intro m p s _ h;cases h
 | succ fuel ih =>
  intro m p s hl h
  rw [bv] at h
  rw [eI]
  rcases oif h with ⟨hc,h⟩ | ⟨hc,h⟩
  ·rw [hc,cond_true,uY]
   obtain ⟨q,hq,h⟩:=ob h
   rw [hq,bs]
   simp only [lpB] at h ⊢
   rcases oif h with ⟨he,h⟩ | ⟨he,h⟩
   ·rw [he,cond_true];exact h
   ·rw [he,cond_false]
    obtain ⟨b,hb,h⟩:=ob h
    obtain ⟨a,ha,h⟩:=ob h
    rw [hb,bs] at h
    obtain ⟨m1,h1,h⟩:=ob h
    obtain ⟨m2,h2,h⟩:=ob h
    obtain ⟨m3,h3,h4⟩:=ux ha hb h1 h2
    rw [hb,bs,ha,bs,bs,h3,bs,h4,bs]
    obtain ⟨r,hr,h⟩:=ob h
    unfold fM at hr
    obtain ⟨r1,hr1,hr⟩:=ob hr
    have hl2:(m2.length:Int)=n:=by rw [qa h2,qa h1];exact hl
    rcases wh hN N m2 0 r1 hl2 hr1 with ⟨m',z,rfl,hl',g⟩ | ⟨m',rfl,g⟩
    ·rw [g,bs]
     simp only [lpS] at hr ⊢
     cases hr
     simp only [cond_true] at h
     obtain ⟨p1,hp1,h⟩:=ob h
     rw [hp1,bs]
     exact ih m' p1 s hl' h
    ·rw [g,bs]
     simp only [lpS] at hr ⊢
     cases hr
     simp only [cond_false] at h
     exact h
  ·rw [hc,cond_false];exact h
theorem yd (hN:1073741824≤N) {n:Int} {m:bh}:∀ (fuel:Nat) (o:aW) (p:Int),eK N fuel n m o p=bt N fuel n m o p:=by
 intro fuel
 induction fuel with
 | zero=>intros;rfl
 | succ fuel ih=>intro o p;rw [eK,bt];simp only [ih,re hN]
theorem ro {xs:aW} (h:xs.length≤1048576):fv N xs=some xs:=by
 unfold fv
 rw [bm (by decide) (by simpa using Nat.le_trans h (by decide)),bs,List.nil_append]
theorem wX (hN:1073741824≤N) {n:Int} {A:bh} {b:aW} (hA:∀ i R,ix A i=some R→(R.length:Int)=n∧R.length≤1000∧ef N R=some true) (hb:∀ i r,ix b i=some r→VR N r) (hl:(A.length:Int)=n):∀ (fuel:Nat) (m:bh) (i:Int) (s:Sum (aW × Bool) (bh × Int)),(m.length:Int)=i→i≤n→bu N fuel A b n m i=some s →
  eG N fuel b n m A n i=some s∧∀ r,s=.inr r→(r.1.length:Int)=n:=by
 intro fuel
 induction fuel with
 | zero=>intro m i s _ _ h;cases h
 | succ fuel ih =>
  intro m i s hm hi h
  rw [bu] at h
  rw [eG]
  rcases oif h with ⟨hc,h⟩ | ⟨hc,h⟩
  ·rw [hc,cond_true]
   obtain ⟨r,hr,h⟩:=ob h
   have hv:ax N r.1 r.2=some true:=hb _ _ hr
   rw [hv,bs,cond_true] at h
   obtain ⟨R,hR,h⟩:=ob h
   obtain ⟨g1,g2,g3⟩:=hA _ _ hR
   have e:((R.length:Int) != n)=false:=by simpa using g1
   rw [hR,bs,e,cond_false,g3,bs,cond_true,hr,bs,ro (by omega),bs]
   rw [hr,bs,bm (by decide) (by simp;omega),bs,List.nil_append] at h
   obtain ⟨R1,h1,h⟩:=ob h
   rw [h1,bs]
   obtain ⟨m1,h2,h⟩:=ob h
   rw [h2,bs]
   obtain ⟨i1,h3,h⟩:=ob h
   rw [h3,bs]
   have e1:=rt h2
   have e2:=su h3
   have e3:=of_decide_eq_true hc
   exact ih m1 i1 s (by rw [e1,List.length_append,List.length_singleton];omega) (by omega) h
  ·rw [hc,cond_false]
   have e3:=of_decide_eq_false hc
   refine ⟨h,fun r e=>?_⟩
   cases h;cases e
   show (m.length:Int)=n
   omega
theorem wW (N:Nat) {xs:aW} (hl:xs.length≤1000) (hv:∀ i r,ix xs i=some r→VR N r):∀ (c i fuel:Nat),i+c=xs.length→c<fuel→f6 N fuel xs (xs.length:Int) (i:Int)=some (.inr (xs.length:Int)):=by
 intro c
 induction c with
 | zero =>
  intro i fuel hi hf
  obtain ⟨fuel,rfl⟩:∃ k',fuel=k'+1:=⟨fuel-1,by omega⟩
  rw [f6,decide_eq_false (by omega),cond_false,show (i:Int)=(xs.length:Int) by omega]
 | succ c ih =>
  intro i fuel hi hf
  obtain ⟨fuel,rfl⟩:∃ k',fuel=k'+1:=⟨fuel-1,by omega⟩
  have e:=fV (r:=xs) (j:=i) (by omega)
  have h:ax N (av xs i).1 (av xs i).2=some true:=hv _ _ e
  rw [lx] at h
  rw [f6,decide_eq_true (by omega),cond_true,e,bs,h,bs,cond_true,bo (by omega) (by omega),bs]
  exact ih (i+1) fuel (by omega) (by omega)
theorem pY (hN:1073741824≤N) {xs:aW} (hl:xs.length≤1000) (hv:∀ i r,ix xs i=some r→VR N r):ef N xs=some true:=by
 unfold ef
 have:=wW N hl hv xs.length 0 N (by omega) (by omega)
 rw [show ((0:Nat):Int)=0 from rfl] at this
 rw [this,bs];rfl
theorem uW (hN:1073741824≤N) {A:bh} {b:aW} (h6:b.length≤6) (hl:A.length=b.length) (hA:∀ i R,ix A i=some R→R.length=b.length∧∀ j r,ix R j=some r→VR N r) (hb:∀ i r,ix b i=some r→VR N r) {s:aW × Bool} (h:bq N A b=some s):fi N A b=some s:=by
 unfold bq at h
 unfold fi
 rw [decide_eq_false (by omega),cond_false] at h ⊢
 have e:((A.length:Int) != (b.length:Int))=false:=by simp [hl]
 rw [e,cond_false,pY hN (by omega) hb,bs,cond_true]
 obtain ⟨q,hq,h⟩:=ob h
 obtain ⟨q',hq',hqq⟩:=o9 hN (A:=A) (by omega) (c:=b.length) (by omega) b.length
 obtain rfl:q=q':=by rw [hq] at hq';exact Option.some.inj hq'
 have hqt:q=true:=hqq.2 ⟨fun i hi=>by
  have e1:=hA _ _ (ixM hi)
  exact ⟨e1.1,fun j hj=>by have:=e1.2 _ _ (fV (r:=ba A i) (j:=j) (by omega));exact this⟩,hl⟩
 rw [hqt,cond_true] at h
 obtain ⟨s1,h1,h⟩:=ob h
 have g1:=wX hN (n:=(b.length:Int)) (A:=A) (b:=b) (fun i R hR=>by
  obtain ⟨e1,e2⟩:=hA i R hR
  exact ⟨by omega,by omega,pY hN (by omega) e2⟩) hb (by omega) N [] 0 s1 rfl (by omega) h1
 rw [hl,g1.1,bs]
 cases s1 with
 | inl r=>exact h
 | inr r =>
  simp only [lpS] at h ⊢
  obtain ⟨s2,h2,h⟩:=ob h
  have hml:(r.1.length:Int)=(b.length:Int):=g1.2 r rfl
  rw [vG hN N r.1 0 s2 hml h2,bs]
  cases s2 with
  | inl r=>exact h
  | inr r =>
   simp only [lpS] at h ⊢
   rw [yd hN]
   exact h
end
def Le {α:Type} (a b:Option α):Prop:=∀ r,a=some r→b=some r
theorem Le.refl {α:Type} (a:Option α):Le a a:=fun _ h=>h
theorem Le.bind {α β:Type} {a b:Option α} {f g:α→Option β} (h:Le a b) (hf:∀ x,Le (f x) (g x)):Le (a.bind f) (b.bind g):=fun r hr=>by
 obtain ⟨x,hx,hr⟩:=ob hr
 rw [h x hx]
 exact hf x r hr
theorem Le.cond {α:Type} {c:Bool} {a b x y:Option α} (h:Le a x) (h2:Le b y):Le (bif c then a else b) (bif c then x else y):=by cases c <;> assumption
theorem Le.lpS {R V S:Type} {s:Sum R V} {f f2:R→Option S} {g g2:V→Option S} (h:∀ q,Le (f q) (f2 q)) (h2:∀ v,Le (g v) (g2 v)):Le (lpS s f g) (lpS s f2 g2):=by
 cases s
 ·exact h _
 ·exact h2 _
theorem Le.lpB {V S:Type} {s:V} {g g2:V→Option S} (h2:∀ v,Le (g v) (g2 v)):Le (lpB s g) (lpB s g2):=h2 s
section
variable {N N':Nat}
theorem lB (hN:N≤N') (a0:Int) (a1:Int) (a2:Int):Le (cA N a0 a1 a2) (cA N' a0 a1 a2):=by
  unfold cA
  repeat' first
    | with_reducible exact Le.refl _
    | refine Le.bind ?_ fun _=>?_
    | refine Le.cond ?_ ?_
    | refine Le.lpS (fun _=>?_) (fun v=>?_)
    | refine Le.lpB (fun v=>?_)
theorem oU (hN:N≤N'):∀ k k',k≤k'→∀ x0 x1,Le (cV N k x0 x1) (cV N' k' x0 x1):=by
  intro k
  induction k with
  | zero=>intro k' _ x0 x1 r h;cases h
  | succ k ih =>
    intro k' hk x0 x1
    obtain ⟨k',rfl⟩:∃ j,k'=j+1:=⟨k' - 1,by omega⟩
    rw [cV,cV]
    repeat' first
      | with_reducible exact Le.refl _
      | exact ih _ (Nat.le_of_succ_le_succ hk) _ _
      | refine Le.bind ?_ fun _=>?_
      | refine Le.cond ?_ ?_
      | refine Le.lpS (fun _=>?_) (fun v=>?_)
      | refine Le.lpB (fun v=>?_)
theorem mT (hN:N≤N') (a0:Int) (a1:Int):Le (d7 N a0 a1) (d7 N' a0 a1):=by
  unfold d7
  repeat' first
    | with_reducible exact Le.refl _
    | exact oU hN _ _ hN _ _
    | refine Le.bind ?_ fun _=>?_
    | refine Le.cond ?_ ?_
    | refine Le.lpS (fun _=>?_) (fun v=>?_)
    | refine Le.lpB (fun v=>?_)
theorem cB (hN:N≤N') (a0:Int) (a1:Int):Le (ax N a0 a1) (ax N' a0 a1):=by
  unfold ax
  repeat' first
    | with_reducible exact Le.refl _
    | exact lB hN _ _ _
    | exact mT hN _ _
    | refine Le.bind ?_ fun _=>?_
    | refine Le.cond ?_ ?_
    | refine Le.lpS (fun _=>?_) (fun v=>?_)
    | refine Le.lpB (fun v=>?_)
theorem iW (hN:N≤N') (a0:Int) (a1:Int):Le (bz N a0 a1) (bz N' a0 a1):=by
  unfold bz
  repeat' first
    | with_reducible exact Le.refl _
    | exact lB hN _ _ _
    | exact mT hN _ _
    | exact cB hN _ _
    | refine Le.bind ?_ fun _=>?_
    | refine Le.cond ?_ ?_
    | refine Le.lpS (fun _=>?_) (fun v=>?_)
    | refine Le.lpB (fun v=>?_)
theorem kh (hN:N≤N') (a0:Int) (a1:Int) (a2:Int) (a3:Int):Le (bA N a0 a1 a2 a3) (bA N' a0 a1 a2 a3):=by
  unfold bA
  repeat' first
    | with_reducible exact Le.refl _
    | exact cB hN _ _
    | exact iW hN _ _
    | refine Le.bind ?_ fun _=>?_
    | refine Le.cond ?_ ?_
    | refine Le.lpS (fun _=>?_) (fun v=>?_)
    | refine Le.lpB (fun v=>?_)
theorem mY (hN:N≤N') (a0:Int) (a1:Int) (a2:Int) (a3:Int):Le (dD N a0 a1 a2 a3) (dD N' a0 a1 a2 a3):=by
  unfold dD
  repeat' first
    | with_reducible exact Le.refl _
    | exact cB hN _ _
    | exact kh hN _ _ _ _
    | refine Le.bind ?_ fun _=>?_
    | refine Le.cond ?_ ?_
    | refine Le.lpS (fun _=>?_) (fun v=>?_)
    | refine Le.lpB (fun v=>?_)
theorem kg (hN:N≤N') (a0:Int) (a1:Int) (a2:Int) (a3:Int):Le (bL N a0 a1 a2 a3) (bL N' a0 a1 a2 a3):=by
  unfold bL
  repeat' first
    | with_reducible exact Le.refl _
    | exact cB hN _ _
    | exact iW hN _ _
    | refine Le.bind ?_ fun _=>?_
    | refine Le.cond ?_ ?_
    | refine Le.lpS (fun _=>?_) (fun v=>?_)
    | refine Le.lpB (fun v=>?_)
theorem ki (hN:N≤N') (a0:Int) (a1:Int) (a2:Int) (a3:Int):Le (dm N a0 a1 a2 a3) (dm N' a0 a1 a2 a3):=by
  unfold dm
  repeat' first
    | with_reducible exact Le.refl _
    | exact cB hN _ _
    | exact iW hN _ _
    | refine Le.bind ?_ fun _=>?_
    | refine Le.cond ?_ ?_
    | refine Le.lpS (fun _=>?_) (fun v=>?_)
    | refine Le.lpB (fun v=>?_)
theorem lu (hN:N≤N') (a0:Int) (a1:Int) (a2:Int) (a3:Int):Le (bO N a0 a1 a2 a3) (bO N' a0 a1 a2 a3):=by
  unfold bO
  repeat' first
    | with_reducible exact Le.refl _
    | exact cB hN _ _
    | refine Le.bind ?_ fun _=>?_
    | refine Le.cond ?_ ?_
    | refine Le.lpS (fun _=>?_) (fun v=>?_)
    | refine Le.lpB (fun v=>?_)
theorem mf (hN:N≤N'):∀ k k',k≤k'→∀ x0 x1 x2 x3 x4 x5 x6,Le (bE N k x0 x1 x2 x3 x4 x5 x6) (bE N' k' x0 x1 x2 x3 x4 x5 x6):=by
  intro k
  induction k with
  | zero=>intro k' _ x0 x1 x2 x3 x4 x5 x6 r h;cases h
  | succ k ih =>
    intro k' hk x0 x1 x2 x3 x4 x5 x6
    obtain ⟨k',rfl⟩:∃ j,k'=j+1:=⟨k' - 1,by omega⟩
    rw [bE,bE]
    repeat' first
      | with_reducible exact Le.refl _
      | exact kh hN _ _ _ _
      | exact kg hN _ _ _ _
      | exact ih _ (Nat.le_of_succ_le_succ hk) _ _ _ _ _ _ _
      | refine Le.bind ?_ fun _=>?_
      | refine Le.cond ?_ ?_
      | refine Le.lpS (fun _=>?_) (fun v=>?_)
      | refine Le.lpB (fun v=>?_)
theorem nD (hN:N≤N') (a0:List (Int × Int)) (a1:List (Int × Int)):Le (dk N a0 a1) (dk N' a0 a1):=by
  unfold dk
  repeat' first
    | with_reducible exact Le.refl _
    | exact mf hN _ _ hN _ _ _ _ _ _ _
    | refine Le.bind ?_ fun _=>?_
    | refine Le.cond ?_ ?_
    | refine Le.lpS (fun _=>?_) (fun v=>?_)
    | refine Le.lpB (fun v=>?_)
theorem j7 (hN:N≤N'):∀ k k',k≤k'→∀ x0 x1 x2 x3,Le (aX N k x0 x1 x2 x3) (aX N' k' x0 x1 x2 x3):=by
  intro k
  induction k with
  | zero=>intro k' _ x0 x1 x2 x3 r h;cases h
  | succ k ih =>
    intro k' hk x0 x1 x2 x3
    obtain ⟨k',rfl⟩:∃ j,k'=j+1:=⟨k' - 1,by omega⟩
    rw [aX,aX]
    repeat' first
      | with_reducible exact Le.refl _
      | exact nD hN _ _
      | exact ih _ (Nat.le_of_succ_le_succ hk) _ _ _ _
      | refine Le.bind ?_ fun _=>?_
      | refine Le.cond ?_ ?_
      | refine Le.lpS (fun _=>?_) (fun v=>?_)
      | refine Le.lpB (fun v=>?_)
theorem kI (hN:N≤N') (a0:List (List (Int × Int))) (a1:List (Int × Int)):Le (bG N a0 a1) (bG N' a0 a1):=by
  unfold bG
  repeat' first
    | with_reducible exact Le.refl _
    | exact j7 hN _ _ hN _ _ _ _
    | refine Le.bind ?_ fun _=>?_
    | refine Le.cond ?_ ?_
    | refine Le.lpS (fun _=>?_) (fun v=>?_)
    | refine Le.lpB (fun v=>?_)
theorem ld (hN:N≤N'):∀ k k',k≤k'→∀ x0 x1 x2,Le (bB N k x0 x1 x2) (bB N' k' x0 x1 x2):=by
  intro k
  induction k with
  | zero=>intro k' _ x0 x1 x2 r h;cases h
  | succ k ih =>
    intro k' hk x0 x1 x2
    obtain ⟨k',rfl⟩:∃ j,k'=j+1:=⟨k' - 1,by omega⟩
    rw [bB,bB]
    repeat' first
      | with_reducible exact Le.refl _
      | exact ih _ (Nat.le_of_succ_le_succ hk) _ _ _
      | refine Le.bind ?_ fun _=>?_
      | refine Le.cond ?_ ?_
      | refine Le.lpS (fun _=>?_) (fun v=>?_)
      | refine Le.lpB (fun v=>?_)
theorem lR (hN:N≤N') (a0:List (Int × Int)) (a1:List (Int × Int)):Le (cE N a0 a1) (cE N' a0 a1):=by
  unfold cE
  repeat' first
    | with_reducible exact Le.refl _
    | exact ld hN _ _ hN _ _ _
    | refine Le.bind ?_ fun _=>?_
    | refine Le.cond ?_ ?_
    | refine Le.lpS (fun _=>?_) (fun v=>?_)
    | refine Le.lpB (fun v=>?_)
theorem mo (hN:N≤N'):∀ k k',k≤k'→∀ x0 x1 x2 x3 x4,Le (cZ N k x0 x1 x2 x3 x4) (cZ N' k' x0 x1 x2 x3 x4):=by
  intro k
  induction k with
  | zero=>intro k' _ x0 x1 x2 x3 x4 r h;cases h
  | succ k ih =>
    intro k' hk x0 x1 x2 x3 x4
    obtain ⟨k',rfl⟩:∃ j,k'=j+1:=⟨k' - 1,by omega⟩
    rw [cZ,cZ]
    repeat' first
      | with_reducible exact Le.refl _
      | exact cB hN _ _
      | exact ih _ (Nat.le_of_succ_le_succ hk) _ _ _ _ _
      | refine Le.bind ?_ fun _=>?_
      | refine Le.cond ?_ ?_
      | refine Le.lpS (fun _=>?_) (fun v=>?_)
      | refine Le.lpB (fun v=>?_)
theorem mA (hN:N≤N'):∀ k k',k≤k'→∀ x0 x1 x2 x3,Le (c4 N k x0 x1 x2 x3) (c4 N' k' x0 x1 x2 x3):=by
  intro k
  induction k with
  | zero=>intro k' _ x0 x1 x2 x3 r h;cases h
  | succ k ih =>
    intro k' hk x0 x1 x2 x3
    obtain ⟨k',rfl⟩:∃ j,k'=j+1:=⟨k' - 1,by omega⟩
    rw [c4,c4]
    repeat' first
      | with_reducible exact Le.refl _
      | exact mo hN _ _ hN _ _ _ _ _
      | exact ih _ (Nat.le_of_succ_le_succ hk) _ _ _ _
      | refine Le.bind ?_ fun _=>?_
      | refine Le.cond ?_ ?_
      | refine Le.lpS (fun _=>?_) (fun v=>?_)
      | refine Le.lpB (fun v=>?_)
theorem kV (hN:N≤N') (a0:List (List (Int × Int))) (a1:Int) (a2:Int):Le (dh N a0 a1 a2) (dh N' a0 a1 a2):=by
  unfold dh
  repeat' first
    | with_reducible exact Le.refl _
    | exact mA hN _ _ hN _ _ _ _
    | refine Le.bind ?_ fun _=>?_
    | refine Le.cond ?_ ?_
    | refine Le.lpS (fun _=>?_) (fun v=>?_)
    | refine Le.lpB (fun v=>?_)
theorem kv (hN:N≤N') (a0:List (List (Int × Int))) (a1:List (Int × Int)) (a2:List (Int × Int)):Le (bN N a0 a1 a2) (bN N' a0 a1 a2):=by
  unfold bN
  repeat' first
    | with_reducible exact Le.refl _
    | exact lB hN _ _ _
    | exact kV hN _ _ _
    | refine Le.bind ?_ fun _=>?_
    | refine Le.cond ?_ ?_
    | refine Le.lpS (fun _=>?_) (fun v=>?_)
    | refine Le.lpB (fun v=>?_)
theorem nA (hN:N≤N'):∀ k k',k≤k'→∀ x0 x1 x2 x3 x4 x5 x6,Le (bY N k x0 x1 x2 x3 x4 x5 x6) (bY N' k' x0 x1 x2 x3 x4 x5 x6):=by
  intro k
  induction k with
  | zero=>intro k' _ x0 x1 x2 x3 x4 x5 x6 r h;cases h
  | succ k ih =>
    intro k' hk x0 x1 x2 x3 x4 x5 x6
    obtain ⟨k',rfl⟩:∃ j,k'=j+1:=⟨k' - 1,by omega⟩
    rw [bY,bY]
    repeat' first
      | with_reducible exact Le.refl _
      | exact mY hN _ _ _ _
      | exact kg hN _ _ _ _
      | exact ih _ (Nat.le_of_succ_le_succ hk) _ _ _ _ _ _ _
      | refine Le.bind ?_ fun _=>?_
      | refine Le.cond ?_ ?_
      | refine Le.lpS (fun _=>?_) (fun v=>?_)
      | refine Le.lpB (fun v=>?_)
theorem nC (hN:N≤N'):∀ k k',k≤k'→∀ x0 x1 x2,Le (cl N k x0 x1 x2) (cl N' k' x0 x1 x2):=by
  intro k
  induction k with
  | zero=>intro k' _ x0 x1 x2 r h;cases h
  | succ k ih =>
    intro k' hk x0 x1 x2
    obtain ⟨k',rfl⟩:∃ j,k'=j+1:=⟨k' - 1,by omega⟩
    rw [cl,cl]
    repeat' first
      | with_reducible exact Le.refl _
      | exact ki hN _ _ _ _
      | exact nA hN _ _ hN _ _ _ _ _ _ _
      | exact ih _ (Nat.le_of_succ_le_succ hk) _ _ _
      | refine Le.bind ?_ fun _=>?_
      | refine Le.cond ?_ ?_
      | refine Le.lpS (fun _=>?_) (fun v=>?_)
      | refine Le.lpB (fun v=>?_)
theorem pS (hN:N≤N') (a0:List (List (Int × Int))) (a1:Int):Le (fM N a0 a1) (fM N' a0 a1):=by
  unfold fM
  repeat' first
    | with_reducible exact Le.refl _
    | exact nC hN _ _ hN _ _ _
    | refine Le.bind ?_ fun _=>?_
    | refine Le.cond ?_ ?_
    | refine Le.lpS (fun _=>?_) (fun v=>?_)
    | refine Le.lpB (fun v=>?_)
theorem kB (hN:N≤N'):∀ k k',k≤k'→∀ x0 x1 x2 x3 x4,Le (bu N k x0 x1 x2 x3 x4) (bu N' k' x0 x1 x2 x3 x4):=by
  intro k
  induction k with
  | zero=>intro k' _ x0 x1 x2 x3 x4 r h;cases h
  | succ k ih =>
    intro k' hk x0 x1 x2 x3 x4
    obtain ⟨k',rfl⟩:∃ j,k'=j+1:=⟨k' - 1,by omega⟩
    rw [bu,bu]
    repeat' first
      | with_reducible exact Le.refl _
      | exact cB hN _ _
      | exact ih _ (Nat.le_of_succ_le_succ hk) _ _ _ _ _
      | refine Le.bind ?_ fun _=>?_
      | refine Le.cond ?_ ?_
      | refine Le.lpS (fun _=>?_) (fun v=>?_)
      | refine Le.lpB (fun v=>?_)
theorem ky (hN:N≤N'):∀ k k',k≤k'→∀ x0 x1 x2 x3,Le (bD N k x0 x1 x2 x3) (bD N' k' x0 x1 x2 x3):=by
  intro k
  induction k with
  | zero=>intro k' _ x0 x1 x2 x3 r h;cases h
  | succ k ih =>
    intro k' hk x0 x1 x2 x3
    obtain ⟨k',rfl⟩:∃ j,k'=j+1:=⟨k' - 1,by omega⟩
    rw [bD,bD]
    repeat' first
      | with_reducible exact Le.refl _
      | exact ih _ (Nat.le_of_succ_le_succ hk) _ _ _ _
      | refine Le.bind ?_ fun _=>?_
      | refine Le.cond ?_ ?_
      | refine Le.lpS (fun _=>?_) (fun v=>?_)
      | refine Le.lpB (fun v=>?_)
theorem ku (hN:N≤N'):∀ k k',k≤k'→∀ x0 x1 x2,Le (bv N k x0 x1 x2) (bv N' k' x0 x1 x2):=by
  intro k
  induction k with
  | zero=>intro k' _ x0 x1 x2 r h;cases h
  | succ k ih =>
    intro k' hk x0 x1 x2
    obtain ⟨k',rfl⟩:∃ j,k'=j+1:=⟨k' - 1,by omega⟩
    rw [bv,bv]
    repeat' first
      | with_reducible exact Le.refl _
      | exact pS hN _ _
      | exact ky hN _ _ hN _ _ _ _
      | exact ih _ (Nat.le_of_succ_le_succ hk) _ _ _
      | refine Le.bind ?_ fun _=>?_
      | refine Le.cond ?_ ?_
      | refine Le.lpS (fun _=>?_) (fun v=>?_)
      | refine Le.lpB (fun v=>?_)
theorem kl (hN:N≤N'):∀ k k',k≤k'→∀ x0 x1 x2 x3,Le (bt N k x0 x1 x2 x3) (bt N' k' x0 x1 x2 x3):=by
  intro k
  induction k with
  | zero=>intro k' _ x0 x1 x2 x3 r h;cases h
  | succ k ih =>
    intro k' hk x0 x1 x2 x3
    obtain ⟨k',rfl⟩:∃ j,k'=j+1:=⟨k' - 1,by omega⟩
    rw [bt,bt]
    repeat' first
      | with_reducible exact Le.refl _
      | exact ki hN _ _ _ _
      | exact ih _ (Nat.le_of_succ_le_succ hk) _ _ _ _
      | refine Le.bind ?_ fun _=>?_
      | refine Le.cond ?_ ?_
      | refine Le.lpS (fun _=>?_) (fun v=>?_)
      | refine Le.lpB (fun v=>?_)
theorem lk (hN:N≤N') (a0:List (List (Int × Int))) (a1:List (Int × Int)):Le (bq N a0 a1) (bq N' a0 a1):=by
  unfold bq
  repeat' first
    | with_reducible exact Le.refl _
    | exact kV hN _ _ _
    | exact kB hN _ _ hN _ _ _ _ _
    | exact ku hN _ _ hN _ _ _
    | exact kl hN _ _ hN _ _ _ _
    | refine Le.bind ?_ fun _=>?_
    | refine Le.cond ?_ ?_
    | refine Le.lpS (fun _=>?_) (fun v=>?_)
    | refine Le.lpB (fun v=>?_)
theorem nE (hN:N≤N'):∀ k k',k≤k'→∀ x0 x1 x2 x3 x4 x5,Le (cF N k x0 x1 x2 x3 x4 x5) (cF N' k' x0 x1 x2 x3 x4 x5):=by
  intro k
  induction k with
  | zero=>intro k' _ x0 x1 x2 x3 x4 x5 r h;cases h
  | succ k ih =>
    intro k' hk x0 x1 x2 x3 x4 x5
    obtain ⟨k',rfl⟩:∃ j,k'=j+1:=⟨k' - 1,by omega⟩
    rw [cF,cF]
    repeat' first
      | with_reducible exact Le.refl _
      | exact cB hN _ _
      | exact ih _ (Nat.le_of_succ_le_succ hk) _ _ _ _ _ _
      | refine Le.bind ?_ fun _=>?_
      | refine Le.cond ?_ ?_
      | refine Le.lpS (fun _=>?_) (fun v=>?_)
      | refine Le.lpB (fun v=>?_)
theorem ny (hN:N≤N'):∀ k k',k≤k'→∀ x0 x1 x2 x3 x4 x5 x6,Le (bZ N k x0 x1 x2 x3 x4 x5 x6) (bZ N' k' x0 x1 x2 x3 x4 x5 x6):=by
  intro k
  induction k with
  | zero=>intro k' _ x0 x1 x2 x3 x4 x5 x6 r h;cases h
  | succ k ih =>
    intro k' hk x0 x1 x2 x3 x4 x5 x6
    obtain ⟨k',rfl⟩:∃ j,k'=j+1:=⟨k' - 1,by omega⟩
    rw [bZ,bZ]
    repeat' first
      | with_reducible exact Le.refl _
      | exact lu hN _ _ _ _
      | exact ih _ (Nat.le_of_succ_le_succ hk) _ _ _ _ _ _ _
      | refine Le.bind ?_ fun _=>?_
      | refine Le.cond ?_ ?_
      | refine Le.lpS (fun _=>?_) (fun v=>?_)
      | refine Le.lpB (fun v=>?_)
theorem pn (hN:N≤N') (a0:List (List (Int × Int))) (a1:List (Int × Int)) (a2:List (Int × Int)) (a3:List (Int × Int)) (a4:Int):Le (dA N a0 a1 a2 a3 a4) (dA N' a0 a1 a2 a3 a4):=by
  unfold dA
  repeat' first
    | with_reducible exact Le.refl _
    | exact kI hN _ _
    | exact kv hN _ _ _
    | exact nE hN _ _ hN _ _ _ _ _ _
    | exact ny hN _ _ hN _ _ _ _ _ _ _
    | refine Le.bind ?_ fun _=>?_
    | refine Le.cond ?_ ?_
    | refine Le.lpS (fun _=>?_) (fun v=>?_)
    | refine Le.lpB (fun v=>?_)
theorem mr (hN:N≤N'):∀ k k',k≤k'→∀ x0 x1 x2 x3 x4 x5 x6 x7 x8 x9 x10 x11 x12 x13 x14,Le (bX N k x0 x1 x2 x3 x4 x5 x6 x7 x8 x9 x10 x11 x12 x13 x14) (bX N' k' x0 x1 x2 x3 x4 x5 x6 x7 x8 x9 x10 x11 x12 x13 x14):=by
  intro k
  induction k with
  | zero=>intro k' _ x0 x1 x2 x3 x4 x5 x6 x7 x8 x9 x10 x11 x12 x13 x14 r h;cases h
  | succ k ih =>
    intro k' hk x0 x1 x2 x3 x4 x5 x6 x7 x8 x9 x10 x11 x12 x13 x14
    obtain ⟨k',rfl⟩:∃ j,k'=j+1:=⟨k' - 1,by omega⟩
    rw [bX,bX]
    repeat' first
      | with_reducible exact Le.refl _
      | exact ih _ (Nat.le_of_succ_le_succ hk) _ _ _ _ _ _ _ _ _ _ _ _ _ _ _
      | refine Le.bind ?_ fun _=>?_
      | refine Le.cond ?_ ?_
      | refine Le.lpS (fun _=>?_) (fun v=>?_)
      | refine Le.lpB (fun v=>?_)
theorem mh (hN:N≤N'):∀ k k',k≤k'→∀ x0 x1 x2 x3 x4 x5 x6 x7 x8 x9 x10 x11,Le (bQ N k x0 x1 x2 x3 x4 x5 x6 x7 x8 x9 x10 x11) (bQ N' k' x0 x1 x2 x3 x4 x5 x6 x7 x8 x9 x10 x11):=by
  intro k
  induction k with
  | zero=>intro k' _ x0 x1 x2 x3 x4 x5 x6 x7 x8 x9 x10 x11 r h;cases h
  | succ k ih =>
    intro k' hk x0 x1 x2 x3 x4 x5 x6 x7 x8 x9 x10 x11
    obtain ⟨k',rfl⟩:∃ j,k'=j+1:=⟨k' - 1,by omega⟩
    rw [bQ,bQ]
    repeat' first
      | with_reducible exact Le.refl _
      | exact mr hN _ _ hN _ _ _ _ _ _ _ _ _ _ _ _ _ _ _
      | exact ih _ (Nat.le_of_succ_le_succ hk) _ _ _ _ _ _ _ _ _ _ _ _
      | refine Le.bind ?_ fun _=>?_
      | refine Le.cond ?_ ?_
      | refine Le.lpS (fun _=>?_) (fun v=>?_)
      | refine Le.lpB (fun v=>?_)
theorem mB (hN:N≤N'):∀ k k',k≤k'→∀ x0 x1 x2 x3 x4 x5 x6 x7 x8 x9 x10 x11,Le (bT N k x0 x1 x2 x3 x4 x5 x6 x7 x8 x9 x10 x11) (bT N' k' x0 x1 x2 x3 x4 x5 x6 x7 x8 x9 x10 x11):=by
  intro k
  induction k with
  | zero=>intro k' _ x0 x1 x2 x3 x4 x5 x6 x7 x8 x9 x10 x11 r h;cases h
  | succ k ih =>
    intro k' hk x0 x1 x2 x3 x4 x5 x6 x7 x8 x9 x10 x11
    obtain ⟨k',rfl⟩:∃ j,k'=j+1:=⟨k' - 1,by omega⟩
    rw [bT,bT]
    repeat' first
      | with_reducible exact Le.refl _
      | exact lR hN _ _
      | exact ih _ (Nat.le_of_succ_le_succ hk) _ _ _ _ _ _ _ _ _ _ _ _
      | refine Le.bind ?_ fun _=>?_
      | refine Le.cond ?_ ?_
      | refine Le.lpS (fun _=>?_) (fun v=>?_)
      | refine Le.lpB (fun v=>?_)
theorem mM (hN:N≤N'):∀ k k',k≤k'→∀ x0 x1 x2 x3 x4 x5 x6 x7 x8,Le (bp N k x0 x1 x2 x3 x4 x5 x6 x7 x8) (bp N' k' x0 x1 x2 x3 x4 x5 x6 x7 x8):=by
  intro k
  induction k with
  | zero=>intro k' _ x0 x1 x2 x3 x4 x5 x6 x7 x8 r h;cases h
  | succ k ih =>
    intro k' hk x0 x1 x2 x3 x4 x5 x6 x7 x8
    obtain ⟨k',rfl⟩:∃ j,k'=j+1:=⟨k' - 1,by omega⟩
    rw [bp,bp]
    repeat' first
      | with_reducible exact Le.refl _
      | exact lk hN _ _
      | exact pn hN _ _ _ _ _
      | exact mh hN _ _ hN _ _ _ _ _ _ _ _ _ _ _ _
      | exact mB hN _ _ hN _ _ _ _ _ _ _ _ _ _ _ _
      | exact ih _ (Nat.le_of_succ_le_succ hk) _ _ _ _ _ _ _ _ _
      | refine Le.bind ?_ fun _=>?_
      | refine Le.cond ?_ ?_
      | refine Le.lpS (fun _=>?_) (fun v=>?_)
      | refine Le.lpB (fun v=>?_)
end
theorem wN (a b:Int):ml a b=ml b a:=by unfold ml;rw [Int.mul_comm]
section
variable {N:Nat}
theorem zE (hN:1073741824≤N) (a b:Int):bA N a b 0 0=some ((0,0),false):=by
 unfold bA
 rw [oN hN]
 rcases ic hN (a,b) with h | h
 ·have h:ax N a b=some true:=h
  rw [h];rfl
 ·have h:ax N a b=some false:=h
  rw [h];rfl
theorem uV (hN:1073741824≤N) {a b:aW} {u v:Int}:∀ (fuel:Nat) (x y i:Int),gl N fuel a b u v x y (a.length:Int) i=bE N fuel a b u v x y i:=by
 intro fuel
 induction fuel with
 | zero=>intros;rfl
 | succ fuel ih =>
  intro x y i
  rw [gl,bE]
  simp only [rP,ra]
  cases decide (i<(a.length:Int)) with
  | false=>rfl
  | true =>
   simp only [cond_true]
   cases ix a i with
   | none=>rfl
   | some p =>
    cases ix b i with
    | none=>rfl
    | some q =>
     simp only [bs]
     cases hm:bL N p.1 p.2 q.1 q.2 with
     | none=>rfl
     | some r =>
      simp only [bs]
      cases hr:r.2 with
      | false =>
       have:=tZ hm
       rw [hr] at this
       rcases this with ⟨h,_⟩ | ⟨_,h⟩
       ·cases h
       ·rw [h]
        simp only [zE hN,bs,cond_false]
      | true =>
       simp only [cond_true]
       cases bA N x y r.1.1 r.1.2 with
       | none=>rfl
       | some s =>
        simp only [bs]
        cases s.2 with
        | false=>rfl
        | true =>
         simp only [cond_true]
         cases ad i 1 with
         | none=>rfl
         | some i1=>simp only [bs];exact ih _ _ _
theorem vQ (hN:1073741824≤N) (a b:aW):ig N a b=dk N a b:=by
 unfold ig dk
 simp only [uV hN]
theorem ui (hN:1073741824≤N) {A:bh} {x:aW}:∀ (fuel:Nat) (y:aW) (i:Int),dX N fuel x y A (A.length:Int) i=aX N fuel A x y i:=by
 intro fuel
 induction fuel with
 | zero=>intros;rfl
 | succ fuel ih =>
  intro y i
  rw [dX,aX]
  simp only [vQ hN,ih]
theorem wq (hN:1073741824≤N) (A:bh) (x:aW):eU N A x=bG N A x:=by
 unfold eU bG
 simp only [ui hN]
theorem wc {A:bh} {x:aW}:∀ (fuel:Nat) (y:aW) (i:Int) (q:aW × Bool),aX N fuel A x y i=some (.inl q)→q=([],false):=by
 intro fuel
 induction fuel with
 | zero=>intro y i q h;cases h
 | succ fuel ih =>
  intro y i q h
  rw [aX] at h
  rcases oif h with ⟨_,h⟩ | ⟨_,h⟩
  ·obtain ⟨_,_,h⟩:=ob h
   obtain ⟨_,_,h⟩:=ob h
   rcases oif h with ⟨_,h⟩ | ⟨_,h⟩
   ·obtain ⟨_,_,h⟩:=ob h
    obtain ⟨_,_,h⟩:=ob h
    exact ih _ _ _ h
   ·cases h;rfl
  ·cases h
theorem vg {A:bh} {x:aW} {r:aW × Bool} (h:bG N A x=some r) (hr:r.2=false):r.1=[]:=by
 unfold bG at h
 obtain ⟨s,hs,h⟩:=ob h
 cases s with
 | inl q =>
  have:=wc N [] 0 q hs
  simp only [lpS] at h
  cases h;rw [this]
 | inr v =>
  simp only [lpS] at h
  cases h;cases hr
theorem xP {x:aW} (hv:∀ i r,ix x i=some r→VR N r) {sg:Int} {A:bh} {B C:aW}:∀ (fuel:Nat) (i:Int),gS N fuel x sg A B C x (x.length:Int) i=cF N fuel x sg A B C i:=by
 intro fuel
 induction fuel with
 | zero=>intros;rfl
 | succ fuel ih =>
  intro i
  rw [gS,cF]
  cases decide (i<(x.length:Int)) with
  | false=>rfl
  | true =>
   simp only [cond_true]
   cases hx:ix x i with
   | none=>rfl
   | some r =>
    have h:ax N r.1 r.2=some true:=hv _ _ hx
    simp only [bs,h,cond_true,ih]
theorem xz {sg:Int} {A:bh} {B C y:aW} {u:Bool}:∀ (fuel:Nat) (i:Int),gU N fuel sg A B C y (y.length:Int) i=bZ N fuel sg A B C y u i:=by
 intro fuel
 induction fuel with
 | zero=>intros;rfl
 | succ fuel ih =>
  intro i
  rw [gU,bZ]
  simp only [vJ,ih,wN sg]
theorem uR (hN:1073741824≤N) {A:bh} {B C x:aW} {sg:Int} (h1:c8 N A B C=some true) (h2:bN N A B C=some true) (hl:x.length≤1000) (hv:∀ i r,ix x i=some r→VR N r):iS N A B C x sg=dA N A B C x sg:=by
 unfold iS dA
 rw [h1,h2]
 simp only [bs,cond_true]
 cases ((x.length:Int) != (C.length:Int)) with
 | true=>rfl
 | false =>
  simp only [cond_false,pY hN hl hv,bs,cond_true,xP hv]
  cases cF N N x sg A B C 0 with
  | none=>rfl
  | some s =>
   simp only [bs]
   cases s with
   | inl q=>rfl
   | inr q =>
    simp only [lpS]
    rw [wq hN]
    cases hm:bG N A x with
    | none=>rfl
    | some r =>
     simp only [bs]
     cases hr:r.2 with
     | true=>simp only [cond_true,xz (u:=true)]
     | false =>
      have he:=vg hm hr
      rw [he,cond_false]
      have:bZ N N sg A B C [] false 0=some (.inr 0):=by
       obtain ⟨K,rfl⟩:∃ K,N=K+1:=⟨N-1,by omega⟩
       rw [bZ];rfl
      rw [this];rfl
theorem yI (hN:1073741824≤N) {A:bh} {c:Nat} (hA:A.length≤1000) (hc:c≤1000) (hr:∀ i R,ix A i=some R→R.length=c∧∀ j r,ix R j=some r→VR N r):∀ (k i fuel:Nat),i+k=A.length→k<fuel→di N fuel (c:Int) A (A.length:Int) (i:Int)=some (.inr (A.length:Int)):=by
 intro k
 induction k with
 | zero =>
  intro i fuel hi hf
  obtain ⟨fuel,rfl⟩:∃ k',fuel=k'+1:=⟨fuel-1,by omega⟩
  rw [di,decide_eq_false (by omega),cond_false,show (i:Int)=(A.length:Int) by omega]
 | succ k ih =>
  intro i fuel hi hf
  obtain ⟨fuel,rfl⟩:∃ k',fuel=k'+1:=⟨fuel-1,by omega⟩
  have e:=ixM (m:=A) (i:=i) (by omega)
  obtain ⟨g1,g2⟩:=hr _ _ e
  have e2:(((ba A i).length:Int) != (c:Int))=false:=by simp [g1]
  rw [di,decide_eq_true (by omega),cond_true,e,bs,e2,cond_false,pY hN (by omega) g2,bs,cond_true,bo (by omega) (by omega),bs]
  exact ih (i+1) fuel (by omega) (by omega)
theorem l9 {α:Type} {xs:List α} {i:Int} {x:α} (h:ix xs i=some x):x∈xs:=by
 obtain ⟨k,rfl,hk,rfl⟩:=eQ h
 exact List.getElem_mem hk
theorem rO (hN:1073741824≤N) {n:Nat} (i:Int) (r:cj) (h:ix (aB n) i=some r):VR N r:=by
 have:=l9 h
 unfold aB at this
 rw [List.eq_of_mem_replicate this]
 exact gk hN (by decide) (by decide)
theorem s7 (hN:1073741824≤N) {n:Nat} {atoms:List aU} (i:Int) (R:aW) (h:ix (aR n atoms) i=some R):R.length=atoms.length∧∀ j r,ix R j=some r→VR N r:=by
 have:=l9 h
 unfold aR at this
 obtain ⟨v,_,rfl⟩:=List.mem_map.1 this
 refine ⟨by unfold dy;rw [List.length_map],fun j r hr=>?_⟩
 have:=l9 hr
 unfold dy at this
 obtain ⟨a,_,rfl⟩:=List.mem_map.1 this
 exact rZ hN (j6 _ _)
theorem uy (hN:1073741824≤N) {n:Nat} {atoms:List aU} (n1:1≤n) (n5:n≤5) (a1:1≤atoms.length) (a4:atoms.length≤4):c8 N (aR n atoms) (aB n) (aB atoms.length)=some true:=by
 have l1:(aB n).length=n:=by unfold aB;simp
 have l2:(aB atoms.length).length=atoms.length:=by unfold aB;simp
 unfold c8
 have e:(((aR n atoms).length:Int) != (n:Int))=false:=by simp [cq]
 have hL:=yI hN (A:=aR n atoms) (c:=atoms.length) (by rw [cq];omega) (by omega) (s7 hN) (aR n atoms).length 0 N (by omega) (by rw [cq];omega)
 rw [show ((0:Nat):Int)=0 from rfl] at hL
 rw [l1,l2,eW,bs,show inR (atoms.length:Int) 1 5=true from b9.2 (by omega),cond_true,eW,bs,show inR (n:Int) 1 5=true from b9.2 (by omega),cond_true,e,cond_false,pY hN (by omega) (rO hN),bs,cond_true,pY hN (by omega) (rO hN),bs,cond_true,hL,bs]
 rfl
end
section
variable {N:Nat}
theorem nH {α:Type} [DecidableEq α] {a b:List α} {i:Nat} (h1:i<a.length) (h2:i<b.length):(a.drop i=b.drop i)↔(a[i]=b[i]∧a.drop (i+1)=b.drop (i+1)):=by
 rw [List.drop_eq_getElem_cons h1,List.drop_eq_getElem_cons h2,List.cons.injEq]
theorem uQ (p q:cj):(p.1 == q.1&&p.2 == q.2)=decide (p=q):=by
 obtain ⟨a,b⟩:=p;obtain ⟨c,d⟩:=q
 by_cases h:a=c <;> by_cases h2:b=d <;> simp [h,h2]
theorem y5 {a b:aW} (hl:a.length=b.length) (h6:a.length≤1000):∀ (c i fuel:Nat),i+c=a.length→c<fuel→eu N fuel a b (a.length:Int) (i:Int)=some (if a.drop i=b.drop i then .inr (a.length:Int) else .inl false):=by
 intro c
 induction c with
 | zero =>
  intro i fuel hi hf
  obtain ⟨fuel,rfl⟩:∃ k',fuel=k'+1:=⟨fuel-1,by omega⟩
  rw [eu,decide_eq_false (by omega),cond_false,List.drop_eq_nil_of_le (by omega),List.drop_eq_nil_of_le (by omega),if_pos rfl,show (i:Int)=(a.length:Int) by omega]
 | succ c ih =>
  intro i fuel hi hf
  obtain ⟨fuel,rfl⟩:∃ k',fuel=k'+1:=⟨fuel-1,by omega⟩
  rw [eu,decide_eq_true (by omega),cond_true,aZ (by omega),bs,aZ (by omega),bs,uQ]
  by_cases h:a[i]'(by omega)=b[i]'(by omega)
  ·rw [decide_eq_true h,cond_true,bo (by omega) (by omega),bs]
   have:=ih (i+1) fuel (by omega) (by omega)
   rw [show ((i:Int)+1)=((i+1:Nat):Int) by omega,this]
   have e:(a.drop i=b.drop i)↔(a.drop (i+1)=b.drop (i+1)):=by rw [nH (by omega) (by omega)];simp [h]
   simp only [e]
  ·rw [decide_eq_false h,cond_false,if_neg (by rw [nH (by omega) (by omega)];exact fun h'=>h h'.1)]
theorem zq {a b:aW} (hl:a.length=b.length) (h6:a.length≤1000):∀ (c i fuel:Nat),i+c=a.length→c<fuel→bB N fuel a b (i:Int)=some (if a.drop i=b.drop i then .inr (a.length:Int) else .inl false):=by
 intro c
 induction c with
 | zero =>
  intro i fuel hi hf
  obtain ⟨fuel,rfl⟩:∃ k',fuel=k'+1:=⟨fuel-1,by omega⟩
  rw [bB,decide_eq_false (by omega),cond_false,List.drop_eq_nil_of_le (by omega),List.drop_eq_nil_of_le (by omega),if_pos rfl,show (i:Int)=(a.length:Int) by omega]
 | succ c ih =>
  intro i fuel hi hf
  obtain ⟨fuel,rfl⟩:∃ k',fuel=k'+1:=⟨fuel-1,by omega⟩
  rw [bB,decide_eq_true (by omega),cond_true,aZ (by omega),bs,aZ (by omega),bs,uQ]
  by_cases h:a[i]'(by omega)=b[i]'(by omega)
  ·rw [decide_eq_true h,cond_true,bo (by omega) (by omega),bs]
   have:=ih (i+1) fuel (by omega) (by omega)
   rw [show ((i:Int)+1)=((i+1:Nat):Int) by omega,this]
   have e:(a.drop i=b.drop i)↔(a.drop (i+1)=b.drop (i+1)):=by rw [nH (by omega) (by omega)];simp [h]
   simp only [e]
  ·rw [decide_eq_false h,cond_false,if_neg (by rw [nH (by omega) (by omega)];exact fun h'=>h h'.1)]
theorem yc (hN:1073741824≤N) {a b:aW} (h6:a.length≤1000):fX N a b=some (decide (a=b)):=by
 unfold fX
 by_cases hl:a.length=b.length
 ·have:=y5 (N:=N) hl h6 a.length 0 N (by omega) (by omega)
  rw [show ((0:Nat):Int)=0 from rfl] at this
  rw [show ((a.length:Int) != (b.length:Int))=false by simp [hl],cond_false,this,bs,List.drop_zero,List.drop_zero]
  by_cases e:a=b
  ·rw [if_pos e,decide_eq_true e];rfl
  ·rw [if_neg e,decide_eq_false e];rfl
 ·rw [show ((a.length:Int) != (b.length:Int))=true by simp;omega,cond_true,decide_eq_false (fun e=>hl (by rw [e]))]
theorem qd (hN:1073741824≤N) {a b:aW} (h6:a.length≤1000):cE N a b=some (decide (a=b)):=by
 unfold cE
 by_cases hl:a.length=b.length
 ·have:=zq (N:=N) hl h6 a.length 0 N (by omega) (by omega)
  rw [show ((0:Nat):Int)=0 from rfl] at this
  rw [show ((a.length:Int) != (b.length:Int))=false by simp [hl],cond_false,this,bs,List.drop_zero,List.drop_zero]
  by_cases e:a=b
  ·rw [if_pos e,decide_eq_true e];rfl
  ·rw [if_neg e,decide_eq_false e];rfl
 ·rw [show ((a.length:Int) != (b.length:Int))=true by simp;omega,cond_true,decide_eq_false (fun e=>hl (by rw [e]))]
theorem Ax (hN:1073741824≤N) {sg n m i:Int} {A:bh} {B C x:aW} {L:List (List Int)} {out:bh} (ho:out.length≤100000) (hr:∀ y∈out,y.length≤1000):∀ (c k fuel:Nat) (b:Bool),k+c=out.length→c<fuel →
  bT N fuel sg A B C out n m L i x b (k:Int)=some (b||decide (x∈out.drop k),(out.length:Int)):=by
 intro c
 induction c with
 | zero =>
  intro k fuel b hk hf
  obtain ⟨fuel,rfl⟩:∃ k',fuel=k'+1:=⟨fuel-1,by omega⟩
  rw [bT,decide_eq_false (by omega),cond_false,List.drop_eq_nil_of_le (by omega),show (k:Int)=(out.length:Int) by omega]
  simp
 | succ c ih =>
  intro k fuel b hk hf
  obtain ⟨fuel,rfl⟩:∃ k',fuel=k'+1:=⟨fuel-1,by omega⟩
  have hk':k<out.length:=by omega
  rw [bT,decide_eq_true (by omega),cond_true,List.drop_eq_getElem_cons hk']
  cases b with
  | true =>
   rw [cond_true,bo (by omega) (by omega),bs]
   have:=ih (k+1) fuel true (by omega) (by omega)
   rw [show ((k:Int)+1)=((k+1:Nat):Int) by omega,this]
   simp
  | false =>
   rw [cond_false,aZ hk',bs,qd hN (hr _ (List.getElem_mem hk')),bs,bo (by omega) (by omega),bs]
   have:=ih (k+1) fuel (decide (out[k]=x)) (by omega) (by omega)
   rw [show ((k:Int)+1)=((k+1:Nat):Int) by omega,this]
   have e:(x=out[k])↔(out[k]=x):=⟨Eq.symm,Eq.symm⟩
   simp only [List.mem_cons,e,Bool.false_or,Bool.decide_or]
theorem AB (hN:1073741824≤N) {rec:Int→(List Int)→Int→(List (List (Int × Int)))→(List (Int × Int))→(List (List (Int × Int)))→(List (Int × Int))→(List (Int × Int))→Int→(List (List (Int × Int)))→Option (List (List (Int × Int)))} {cs:List Int} {n sg:Int} {R A:bh} {H B C x:aW} {out:bh} (ho:out.length≤100000) (hx:x.length≤1000):∀ (c k fuel:Nat),k+c=out.length→c<fuel →
  fw rec N fuel cs n R H A B C sg out x out (out.length:Int) (k:Int)=some (if x∈out.drop k then .inl out else .inr (out.length:Int)):=by
 intro c
 induction c with
 | zero =>
  intro k fuel hk hf
  obtain ⟨fuel,rfl⟩:∃ k',fuel=k'+1:=⟨fuel-1,by omega⟩
  rw [fw,decide_eq_false (by omega),cond_false,List.drop_eq_nil_of_le (by omega),if_neg (by simp),show (k:Int)=(out.length:Int) by omega]
 | succ c ih =>
  intro k fuel hk hf
  obtain ⟨fuel,rfl⟩:∃ k',fuel=k'+1:=⟨fuel-1,by omega⟩
  have hk':k<out.length:=by omega
  rw [fw,decide_eq_true (by omega),cond_true,List.drop_eq_getElem_cons hk',aZ hk',bs,yc hN hx,bs]
  by_cases e:x=out[k]
  ·rw [decide_eq_true e,cond_true,if_pos (List.mem_cons.2 (.inl e))]
  ·rw [decide_eq_false e,cond_false,bo (by omega) (by omega),bs]
   have:=ih (k+1) fuel (by omega) (by omega)
   rw [show ((k:Int)+1)=((k+1:Nat):Int) by omega,this]
   simp only [List.mem_cons,e,false_or]
def hZ (N n:Nat) (atoms:List aU) (out:bh) (l:List Int):Option bh :=
 (bq N (dG (aR n atoms) n atoms.length l) (du n l)).bind fun r =>
 bif r.2 then (dA N (aR n atoms) (aB n) (aB atoms.length) r.1 1).bind fun b =>
  bif b then (bif decide (r.1∈out) then some out else apd 24 out [r.1]) else some out
 else some out
def i5 (N n:Nat) (atoms:List aU):List (List Int)→bh→Option bh
 | [],out=>some out
 | l :: ls,out=>(hZ N n atoms out l).bind (i5 N n atoms ls)
theorem qz {n:Nat} {atoms:List aU}:∀ (a b:List (List Int)) (out:bh),i5 N n atoms (a++b) out=(i5 N n atoms a out).bind (i5 N n atoms b)
 | [],_,_=>rfl
 | l :: a,b,out=>by
  show (hZ N n atoms out l).bind (i5 N n atoms (a++b))=((hZ N n atoms out l).bind (i5 N n atoms a)).bind (i5 N n atoms b)
  cases hZ N n atoms out l with
  | none=>rfl
  | some o=>exact qz a b o
def Ok (na c:Nat) (out:bh):Prop:=out.length≤c∧∀ y∈out,y.length=na
theorem sV (hN:1073741824≤N) {n:Nat} {atoms:List aU} (a4:atoms.length≤4) {l:List Int} (hl:l.length=atoms.length) {out o:bh} {c:Nat} (ho:Ok atoms.length c out) (h:hZ N n atoms out l=some o):Ok atoms.length (c+1) o:=by
 unfold hZ at h
 obtain ⟨r,hr,h⟩:=ob h
 have same:some out=some o→Ok atoms.length (c+1) o:=fun h=>by cases h;exact ⟨by have:=ho.1;omega,ho.2⟩
 rcases oif h with ⟨h2,h⟩ | ⟨_,h⟩
 rotate_left
 ·exact same h
 obtain ⟨b,_,h⟩:=ob h
 rcases oif h with ⟨_,h⟩ | ⟨_,h⟩
 rotate_left
 ·exact same h
 rcases oif h with ⟨_,h⟩ | ⟨_,h⟩
 ·exact same h
 have hbl:(du n l).length=atoms.length:=by unfold du ik;rw [List.length_map,List.length_map,hl]
 obtain ⟨x,ok,es,hsol⟩:=lj hN (n:=atoms.length) (by omega) (nT (n:=n) (atoms:=atoms) hl) hbl
 rw [hr] at es
 obtain rfl:=Option.some.inj es
 rw [rt h]
 refine ⟨by rw [List.length_append,List.length_singleton];have:=ho.1;omega,fun y hy=>?_⟩
 rcases List.mem_append.1 hy with h | h
 ·exact ho.2 y h
 ·rw [List.mem_singleton.1 h];exact (hsol h2).1
theorem wn (hN:1073741824≤N) {n:Nat} {atoms:List aU} (n5:n≤5) (a4:atoms.length≤4) {L:List (List Int)} (hL:L.length≤10000) (hm:∀ l∈L,l.length=atoms.length∧∀ v∈l,0≤v∧v<(n+atoms.length:Nat)):∀ (c i fuel:Nat) (out:bh) (s:bh × Int),i+c=L.length→Ok atoms.length i out →
  bp N fuel 1 (aR n atoms) (aB n) (aB atoms.length) out (atoms.length:Int) (n:Int) L (i:Int)=some s→i5 N n atoms (L.drop i) out=some s.1:=by
 intro c
 induction c with
 | zero =>
  intro i fuel out s hi ho h
  cases fuel with
  | zero=>cases h
  | succ fuel =>
   rw [bp,decide_eq_false (by omega),cond_false] at h
   cases h
   rw [List.drop_eq_nil_of_le (by omega)];rfl
 | succ c ih =>
  intro i fuel out s hi ho h
  cases fuel with
  | zero=>cases h
  | succ fuel =>
   have hiL:i<L.length:=by omega
   obtain ⟨m1,m2⟩:=hm _ (List.getElem_mem hiL)
   rw [bp,decide_eq_true (by omega),cond_true,uE hN a4 n5 cq hiL m1 m2,bs,lpB] at h
   dsimp only at h
   rw [List.drop_eq_getElem_cons hiL]
   have go:∀ o,hZ N n atoms out L[i]=some o→bp N fuel 1 (aR n atoms) (aB n) (aB atoms.length) o (atoms.length:Int) (n:Int) L ((i+1:Nat):Int)=some s→(hZ N n atoms out L[i]).bind (i5 N n atoms (L.drop (i+1)))=some s.1:=fun o e h=>by
    have ok:=sV hN a4 m1 ho e
    rw [e,bs]
    exact ih (i+1) fuel o s (by omega) ok h
   show (hZ N n atoms out L[i]).bind (i5 N n atoms (L.drop (i+1)))=some s.1
   obtain ⟨r,hr,h⟩:=ob h
   rcases oif h with ⟨h2,h⟩ | ⟨h2,h⟩
   ·obtain ⟨b,hb,h⟩:=ob h
    rcases oif h with ⟨h3,h⟩ | ⟨h3,h⟩
    ·have hol:=ho.1
     have hd:=Ax hN (sg:=1) (n:=(atoms.length:Int)) (m:=(n:Int)) (i:=(i:Int)) (A:=aR n atoms) (B:=aB n) (C:=aB atoms.length) (x:=r.1) (L:=L) (out:=out) (by omega) (fun y hy=>by rw [ho.2 y hy];omega) out.length 0 N false (by omega) (by omega)
     rw [show ((0:Nat):Int)=0 from rfl,Bool.false_or,List.drop_zero] at hd
     rw [hd,bs,lpB] at h
     dsimp only at h
     rcases oif h with ⟨h4,h⟩ | ⟨h4,h⟩
     ·rw [bo (by omega) (by omega),bs] at h
      exact go out (by unfold hZ;rw [hr,bs,h2,cond_true,hb,bs,h3,cond_true,h4,cond_true]) h
     ·obtain ⟨o,eo,h⟩:=ob h
      rw [bo (by omega) (by omega),bs] at h
      exact go o (by unfold hZ;rw [hr,bs,h2,cond_true,hb,bs,h3,cond_true,h4,cond_false,eo]) h
    ·rw [bo (by omega) (by omega),bs] at h
     exact go out (by unfold hZ;rw [hr,bs,h2,cond_true,hb,bs,h3,cond_false]) h
   ·rw [bo (by omega) (by omega),bs] at h
    exact go out (by unfold hZ;rw [hr,bs,h2,cond_false]) h
end
def iG (n:Nat) (atoms:List aU):bh:=aR n atoms++(List.range' 0 atoms.length).map (dx atoms.length)
def kA (n:Nat) (atoms:List aU):aW:=aB n++List.replicate atoms.length (0,1)
section
variable {N:Nat}
theorem yf {m i j:Nat} (h:j<(dx m i).length):(dx m i)[j]=bif ((i:Int) == (j:Int)) then (1,1) else (0,1):=by
 unfold dx at h ⊢
 rw [List.getElem_set]
 by_cases e:i=j
 ·subst e;simp
 ·rw [if_neg e,show (((i:Nat):Int) == (j:Int))=false by simpa using fun h=>e (by omega),cond_false];simp
theorem xX (hN:1073741824≤N) {m i:Nat} (hm:m≤1000) {A R:bh} {B C H:aW} {sg:Int} :
  dC N N A B C sg (m:Int) R H (i:Int) [] 0=some (dx m i,(m:Int)):=by
 have ul:=kP m i
 have h:=hG (fun q (o:aW) v=>dC N q A B C sg (m:Int) R H (i:Int) o v) m (fun v=>(dx m i).take v) (dx m i,(m:Int))
  (fun q v h=>by
   show dC N (q+1) A B C sg (m:Int) R H (i:Int) ((dx m i).take v) (v:Int)=dC N q A B C sg (m:Int) R H (i:Int) ((dx m i).take (v+1)) ((v+1:Nat):Int)
   have hv:v<(dx m i).length:=by omega
   rw [dC,dlt h,cond_true,List.take_succ_eq_append_getElem hv,yf hv]
   unfold ko
   cases ((i:Int) == (v:Int)) with
   | true=>rw [cond_true,bs,bm (by decide) (by rw [List.length_take,List.length_singleton];omega),bs,ad1 (by omega),bs,cond_true]
   | false=>rw [cond_false,bs,bm (by decide) (by rw [List.length_take,List.length_singleton];omega),bs,ad1 (by omega),bs,cond_false])
  (fun q=>by
   show dC N (q+1) A B C sg (m:Int) R H (i:Int) ((dx m i).take m) (m:Int)=_
   rw [dC,dge (by omega),cond_false,List.take_of_length_le (by omega)]) N 0 (by omega) (by omega)
 exact h
theorem xH (hN:1073741824≤N) {n:Nat} (n5:n≤5) {atoms:List aU} (a4:atoms.length≤4) {C:aW} {sg:Int} :
  dB N N (aR n atoms) (aB n) C sg (atoms.length:Int) (aR n atoms) (aB n) 0=some (iG n atoms,kA n atoms,(atoms.length:Int)):=by
 have l0:=cq (n:=n) (atoms:=atoms)
 have l1:(aB n).length=n:=by unfold aB;simp
 have h:=hG (fun q (o:bh × aW) v=>dB N q (aR n atoms) (aB n) C sg (atoms.length:Int) o.1 o.2 v) atoms.length (fun v=>(aR n atoms++(List.range' 0 v).map (dx atoms.length),aB n++List.replicate v (0,1))) (iG n atoms,kA n atoms,(atoms.length:Int))
  (fun q v h=>by
   show dB N (q+1) (aR n atoms) (aB n) C sg (atoms.length:Int) (aR n atoms++(List.range' 0 v).map (dx atoms.length)) (aB n++List.replicate v (0,1)) (v:Int)=dB N q (aR n atoms) (aB n) C sg (atoms.length:Int) (aR n atoms++(List.range' 0 (v+1)).map (dx atoms.length)) (aB n++List.replicate (v+1) (0,1)) ((v+1:Nat):Int)
   rw [dB,dlt h,cond_true,xX hN (by omega),bs,lpB]
   dsimp only
   rw [bm (by decide) (by simp;omega),bs,bm (by decide) (by simp;omega),bs,ad1 (by omega),bs,List.range'_1_concat,List.map_append,← List.append_assoc,List.replicate_succ',← List.append_assoc,Nat.zero_add]
   rfl)
  (fun q=>by
   show dB N (q+1) (aR n atoms) (aB n) C sg (atoms.length:Int) (aR n atoms++(List.range' 0 atoms.length).map (dx atoms.length)) (aB n++List.replicate atoms.length (0,1)) (atoms.length:Int)=_
   rw [dB,dge (by omega),cond_false];rfl) N 0 (by omega) (by omega)
 have e:aR n atoms++(List.range' 0 0).map (dx atoms.length)=aR n atoms:=by simp
 have e2:aB n++List.replicate 0 ((0:Int),(1:Int))=aB n:=by simp
 dsimp only at h
 rw [e,e2] at h
 exact h
theorem nw (n:Nat) (atoms:List aU):(iG n atoms).length=n+atoms.length:=by unfold iG;rw [List.length_append,cq,List.length_map,List.length_range']
theorem vv {n:Nat} {atoms:List aU} {j:Nat} (h:j<n+atoms.length):ix (iG n atoms) (j:Int)=some (fW (aR n atoms) n atoms.length j):=by
 rw [aZ (by rw [nw];exact h)]
 congr 1
 unfold fW iG
 by_cases hj:j<n
 ·have hc:j<(aR n atoms).length:=by rw [cq];exact hj
  rw [if_pos hj,List.getElem_append_left hc]
  unfold ba;simp [hc]
 ·rw [if_neg hj,List.getElem_append_right (by rw [cq];omega)]
  simp [cq]
theorem xA {n:Nat} {atoms:List aU} {j:Nat} (h:j<n+atoms.length):ix (kA n atoms) (j:Int)=some (hO n j):=by
 have l1:(aB n).length=n:=by unfold aB;simp
 unfold kA
 rw [aZ (by rw [List.length_append,l1,List.length_replicate];exact h)]
 congr 1
 unfold hO
 by_cases hj:j<n
 ·rw [if_pos hj,List.getElem_append_left (by omega)]
  unfold aB;simp
 ·rw [if_neg hj,List.getElem_append_right (by omega)]
  simp
theorem w8 (hN:1073741824≤N) {rec:Int→(List Int)→Int→(List (List (Int × Int)))→(List (Int × Int))→(List (List (Int × Int)))→(List (Int × Int))→(List (Int × Int))→Int→(List (List (Int × Int)))→Option (List (List (Int × Int)))} {n:Nat} {atoms:List aU} (a4:atoms.length≤4) {l:List Int} (hl:l.length=atoms.length) (hb:∀ v∈l,0≤v∧v<(n+atoms.length:Nat)) {sg w:Int} {A out:bh} {B C:aW} :
  dg rec N N l w (iG n atoms) (kA n atoms) A B C sg out [] [] l (l.length:Int) 0=some (dG (aR n atoms) n atoms.length l,du n l,(l.length:Int)):=by
 have h:=hG (fun q (o:bh × aW) k=>dg rec N q l w (iG n atoms) (kA n atoms) A B C sg out o.1 o.2 l (l.length:Int) k) l.length (fun k=>(dG (aR n atoms) n atoms.length (l.take k),du n (l.take k))) (dG (aR n atoms) n atoms.length l,du n l,(l.length:Int))
  (fun q k h=>by
   show dg rec N (q+1) l w (iG n atoms) (kA n atoms) A B C sg out (dG (aR n atoms) n atoms.length (l.take k)) (du n (l.take k)) l (l.length:Int) (k:Int)=dg rec N q l w (iG n atoms) (kA n atoms) A B C sg out (dG (aR n atoms) n atoms.length (l.take (k+1))) (du n (l.take (k+1))) l (l.length:Int) ((k+1:Nat):Int)
   have hv:=hb _ (List.getElem_mem h)
   have l1:(dG (aR n atoms) n atoms.length (l.take k)).length≤1000:=by unfold dG ik;rw [List.length_map,List.length_map,List.length_take];omega
   have l2:(du n (l.take k)).length≤1000:=by unfold du ik;rw [List.length_map,List.length_map,List.length_take];omega
   have eA:dG (aR n atoms) n atoms.length (l.take (k+1))=dG (aR n atoms) n atoms.length (l.take k)++[fW (aR n atoms) n atoms.length l[k].toNat]:=by
    unfold dG ik
    rw [List.take_succ_eq_append_getElem h,List.map_append,List.map_append];rfl
   have eB:du n (l.take (k+1))=du n (l.take k)++[hO n l[k].toNat]:=by
    unfold du ik
    rw [List.take_succ_eq_append_getElem h,List.map_append,List.map_append];rfl
   obtain ⟨j,hj⟩:∃ j:Nat,l[k]=(j:Int):=⟨l[k].toNat,by omega⟩
   rw [hj] at hv
   rw [dg,dlt h,cond_true,aZ h,bs,eA,eB,hj,Int.toNat_natCast,vv (by omega),bs,bm (by decide) (by rw [List.length_singleton];omega),bs,xA (by omega),bs,bm (by decide) (by rw [List.length_singleton];omega),bs,ad1 (by omega),bs])
  (fun q=>by
   show dg rec N (q+1) l w (iG n atoms) (kA n atoms) A B C sg out (dG (aR n atoms) n atoms.length (l.take l.length)) (du n (l.take l.length)) l (l.length:Int) (l.length:Int)=_
   rw [dg,dge (by omega),cond_false,List.take_length]) N 0 (by omega) (by omega)
 exact h
theorem wd (hN:1073741824≤N) {m i:Nat} (j:Int) (r:cj) (h:ix (dx m i) j=some r):VR N r:=by
 have:=l9 h
 unfold dx at this
 rcases List.mem_or_eq_of_mem_set this with h | rfl
 ·rw [List.eq_of_mem_replicate h];exact gk hN (by decide) (by decide)
 ·exact gk hN (by decide) (by decide)
theorem xJ (hN:1073741824≤N) {n:Nat} {atoms:List aU} {l:List Int} (i:Int) (R:aW) (h:ix (dG (aR n atoms) n atoms.length l) i=some R):R.length=atoms.length∧∀ j r,ix R j=some r→VR N r:=by
 have:=l9 h
 unfold dG at this
 obtain ⟨v,_,rfl⟩:=List.mem_map.1 this
 unfold fW
 by_cases hv:v<n
 ·rw [if_pos hv]
  exact s7 hN (v:Int) _ (ixM (by rw [cq];exact hv))
 ·rw [if_neg hv]
  exact ⟨kP _ _,fun j r hr=>wd hN j r hr⟩
theorem xD (hN:1073741824≤N) {n:Nat} {l:List Int} (i:Int) (r:cj) (h:ix (du n l) i=some r):VR N r:=by
 have:=l9 h
 unfold du at this
 obtain ⟨v,_,rfl⟩:=List.mem_map.1 this
 unfold hO
 split
 ·exact gk hN (by decide) (by decide)
 ·exact gk hN (by decide) (by decide)
theorem yj (hN:1073741824≤N) {n:Nat} {atoms:List aU} (n1:1≤n) (n5:n≤5) (a1:1≤atoms.length) (a4:atoms.length≤4) {l:List Int} (hl:l.length=atoms.length) (hb:∀ v∈l,0≤v∧v<(n+atoms.length:Nat)) {f:Int} {out o:bh} {c:Nat} (ho:Ok atoms.length c out) (hc:c≤100000) (h:hZ N n atoms out l=some o) :
  ck (N+1) f l (atoms.length:Int) (iG n atoms) (kA n atoms) (aR n atoms) (aB n) (aB atoms.length) 1 out=some o:=by
 have hol:=ho.1
 unfold hZ at h
 obtain ⟨r,hr,h⟩:=ob h
 have hbl:(du n l).length=atoms.length:=by unfold du ik;rw [List.length_map,List.length_map,hl]
 have hal:(dG (aR n atoms) n atoms.length l).length=atoms.length:=by unfold dG ik;rw [List.length_map,List.length_map,hl]
 have hs:=uW hN (A:=dG (aR n atoms) n atoms.length l) (b:=du n l) (by omega) (by omega) (fun i R hR=>by
  rw [hbl];exact xJ hN i R hR) (fun i r hr=>xD hN i r hr) hr
 rw [ck,decide_eq_false (by omega),cond_false,w8 hN a4 hl hb,bs,lpB]
 dsimp only
 rw [hs,bs]
 rcases oif h with ⟨h2,h⟩ | ⟨h2,h⟩
 ·rw [h2,cond_true]
  obtain ⟨x,ok,es,hsol⟩:=lj hN (n:=atoms.length) (by omega) (nT (n:=n) (atoms:=atoms) hl) hbl
  rw [hr] at es
  obtain rfl:=Option.some.inj es
  obtain ⟨xl,xv,_⟩:=hsol h2
  have xl':x.length=atoms.length:=xl
  rw [uR hN (uy hN n1 n5 a1 a4) (pG hN n1 n5 a1 a4) (by show x.length≤1000;omega) (fun i q hq=>by
   obtain ⟨k,rfl,hk,rfl⟩:=eQ hq
   have hk':k<x.length:=hk
   have:=xv k (by omega)
   unfold av at this
   simpa [hk'] using this)]
  obtain ⟨b,hb',h⟩:=ob h
  rw [hb',bs]
  rcases oif h with ⟨h3,h⟩ | ⟨h3,h⟩
  ·rw [h3,cond_true]
   have hd:=AB hN (rec:=ck N) (cs:=l) (n:=(atoms.length:Int)) (sg:=1) (R:=iG n atoms) (H:=kA n atoms) (A:=aR n atoms) (B:=aB n) (C:=aB atoms.length) (x:=x) (out:=out) (by omega) (by omega) out.length 0 N (by omega) (by omega)
   rw [show ((0:Nat):Int)=0 from rfl,List.drop_zero] at hd
   rw [hd,bs]
   rcases oif h with ⟨h4,h⟩ | ⟨h4,h⟩
   ·rw [if_pos (of_decide_eq_true h4)]
    exact h
   ·rw [if_neg (of_decide_eq_false h4)]
    simp only [lpS]
    rw [h,bs]
  ·rw [h3,cond_false];exact h
 ·rw [h2,cond_false];exact h
theorem yu {xs:List Int} (h:xs.length≤1048576):iQ N xs=some xs:=by
 unfold iQ
 rw [bm (by decide) (by simpa using Nat.le_trans h (by decide)),bs,List.nil_append]
theorem vA {r i t:Nat} (h:t≤i):cT (r+1) i t=[]:=by
 show (List.range' i (t-r-i)).flatMap _=[]
 rw [show t-r-i=0 by omega];rfl
theorem pK {r i t:Nat} (h:i<t):cT (r+1) i t=(cT r (i+1) t).map (fun l=>(i:Int) :: l)++cT (r+1) (i+1) t:=by
 show (List.range' i (t-r-i)).flatMap (fun j:Nat=>(cT r (j+1) t).map fun l=>(j:Int) :: l)=_
 by_cases hr:i+r<t
 ·obtain ⟨k,hk⟩:∃ k,t-r-i=k+1:=⟨t-r-i-1,by omega⟩
  rw [hk,List.range'_succ,List.flatMap_cons]
  congr 1
  show _=(List.range' (i+1) (t-r-(i+1))).flatMap _
  rw [show t-r-(i+1)=k by omega]
 ·rw [show t-r-i=0 by omega]
  have e:cT r (i+1) t=[]:=by
   cases r with
   | zero=>omega
   | succ r =>
    show (List.range' (i+1) (t-r-(i+1))).flatMap _=[]
    rw [show t-r-(i+1)=0 by omega];rfl
  rw [e]
  show []=[]++(List.range' (i+1) (t-r-(i+1))).flatMap _
  rw [show t-r-(i+1)=0 by omega];rfl
theorem sT (hN:1073741824≤N) {n:Nat} {atoms:List aU} (a4:atoms.length≤4):∀ (L:List (List Int)) (out o:bh) (c:Nat),(∀ l∈L,l.length=atoms.length)→Ok atoms.length c out→i5 N n atoms L out=some o→Ok atoms.length (c+L.length) o
 | [],out,o,c,_,ho,h=>by cases h;exact ho
 | l :: L,out,o,c,hl,ho,h=>by
  obtain ⟨o1,h1,h⟩:=ob (show (hZ N n atoms out l).bind (i5 N n atoms L)=some o from h)
  have:=sT hN a4 L o1 o (c+1) (fun x hx=>hl x (List.mem_cons_of_mem _ hx)) (sV hN a4 (hl l (by simp)) ho h1) h
  rw [List.length_cons,show c+(L.length+1)=c+1+L.length by omega]
  exact this
theorem uo (hN:1073741824≤N) {n:Nat} {atoms:List aU} (n1:1≤n) (n5:n≤5) (a1:1≤atoms.length) (a4:atoms.length≤4):∀ (r f:Nat) (cs:List Int) (out o:bh) (c:Nat),cs.length+r=atoms.length→f≤n+atoms.length→(∀ v∈cs,0≤v∧v<(n+atoms.length:Nat))→Ok atoms.length c out→c+(cT r f (n+atoms.length)).length≤100000 →
  i5 N n atoms ((cT r f (n+atoms.length)).map fun l=>cs++l) out=some o →
  ck (N+1+r) (f:Int) cs (atoms.length:Int) (iG n atoms) (kA n atoms) (aR n atoms) (aB n) (aB atoms.length) 1 out=some o:=by
 intro r
 induction r with
 | zero =>
  intro f cs out o c hcl hf hcs ho hc h
  obtain ⟨o1,h1,h⟩:=ob (show (hZ N n atoms out (cs++[])).bind (fun o=>some o)=some o from h)
  cases h
  rw [List.append_nil] at h1
  exact yj hN n1 n5 a1 a4 (by omega) hcs ho (by omega) h1
 | succ r ih =>
  intro f cs out o c hcl hf hcs ho hc h
  rw [show N+1+(r+1)=(N+1+r)+1 by omega,ck,decide_eq_true (by omega),cond_true]
  have key:∀ (d i fuel:Nat) (out o:bh) (c:Nat),i+d=n+atoms.length→d<fuel→Ok atoms.length c out→c+(cT (r+1) i (n+atoms.length)).length≤100000→i5 N n atoms ((cT (r+1) i (n+atoms.length)).map fun l=>cs++l) out=some o →
    fC (ck (N+1+r)) (N+1+r) fuel cs (atoms.length:Int) (iG n atoms) (kA n atoms) (aR n atoms) (aB n) (aB atoms.length) 1 out (i:Int)=some (o,((n+atoms.length:Nat):Int)):=by
   intro d
   induction d with
   | zero =>
    intro i fuel out o c hi hf ho hc h
    obtain ⟨fuel,rfl⟩:∃ k',fuel=k'+1:=⟨fuel-1,by omega⟩
    rw [vA (by omega)] at h
    cases h
    rw [fC,nw,decide_eq_false (by omega),cond_false,show (i:Int)=((n+atoms.length:Nat):Int) by omega]
   | succ d ihd =>
    intro i fuel out o c hi hf ho hc h
    obtain ⟨fuel,rfl⟩:∃ k',fuel=k'+1:=⟨fuel-1,by omega⟩
    rw [pK (by omega),List.map_append,qz,List.map_map] at h
    rw [pK (by omega),List.length_append,List.length_map] at hc
    obtain ⟨o1,h1,h⟩:=ob h
    have e:((fun l=>cs++l) ∘ fun l=>(i:Int) :: l)=fun l=>(cs++[(i:Int)])++l:=by
     funext l;simp
    rw [e] at h1
    have ho1:=sT hN a4 _ out o1 c (fun l hl=>by
     obtain ⟨l',hl',rfl⟩:=List.mem_map.1 hl
     rw [List.length_append,List.length_append,List.length_singleton,(jT hl').1];omega) ho h1
    rw [List.length_map] at ho1
    have g:=ih (i+1) (cs++[(i:Int)]) out o1 c (by rw [List.length_append,List.length_singleton];omega) (by omega) (fun v hv=>by
     rcases List.mem_append.1 hv with h | h
     ·exact hcs v h
     ·rw [List.mem_singleton.1 h];omega) ho (by omega) h1
    rw [fC,nw,decide_eq_true (by omega),cond_true,ad1 (by omega),bs,yu (by omega),bs,bm (by decide) (by rw [List.length_singleton];omega),bs,g,bs,bs]
    exact ihd (i+1) fuel o1 o _ (by omega) (by omega) ho1 (by omega) h
  rw [key (n+atoms.length-f) f (N+1+r) out o c (by omega) (by omega) ho hc h,bs,lpB]
theorem zr (hN:1073741824≤N) {n:Nat} {atoms:List aU} (n1:1≤n) (n5:n≤5) (a1:1≤atoms.length) (a4:atoms.length≤4) {P:bh} (h:bK N (aR n atoms) (aB n) (aB atoms.length)=some P) :
  ∃ z,bp N N 1 (aR n atoms) (aB n) (aB atoms.length) [] (atoms.length:Int) (n:Int) (cT atoms.length 0 (n+atoms.length)) 0=some (P,z):=by
 have l1:(aB n).length=n:=by unfold aB;simp
 have l2:(aB atoms.length).length=atoms.length:=by unfold aB;simp
 have ep:dw N 0 ((n:Int)+(atoms.length:Int)) (atoms.length:Int)=some (cT atoms.length 0 (n+atoms.length)):=by
  rw [show ((n:Int)+(atoms.length:Int))=((n+atoms.length:Nat):Int) by omega]
  exact mQ atoms.length N 0 (n+atoms.length) a4 (by omega) (by omega) (by omega)
 unfold bK gQ at h
 rw [pG hN n1 n5 a1 a4,bs,cond_true,l1,l2,bo (by omega) (by omega),bs,ep,bs] at h
 obtain ⟨q,g1,h2⟩:=ob h
 obtain ⟨s,g2,h3⟩:=ob g1
 obtain rfl:q=P:=Option.some.inj h2
 obtain ⟨s1,s2⟩:=s
 obtain rfl:s1=q:=Option.some.inj h3
 exact ⟨s2,g2⟩
theorem yx (hN:1073741824≤N) {n:Nat} {atoms:List aU} (n1:1≤n) (n5:n≤5) (a1:1≤atoms.length) (a4:atoms.length≤4) {P:bh} {z:Int} (h:bp N N 1 (aR n atoms) (aB n) (aB atoms.length) [] (atoms.length:Int) (n:Int) (cT atoms.length 0 (n+atoms.length)) 0=some (P,z)) :
  bK N (aR n atoms) (aB n) (aB atoms.length)=some P:=by
 have l1:(aB n).length=n:=by unfold aB;simp
 have l2:(aB atoms.length).length=atoms.length:=by unfold aB;simp
 have ep:dw N 0 ((n:Int)+(atoms.length:Int)) (atoms.length:Int)=some (cT atoms.length 0 (n+atoms.length)):=by
  rw [show ((n:Int)+(atoms.length:Int))=((n+atoms.length:Nat):Int) by omega]
  exact mQ atoms.length N 0 (n+atoms.length) a4 (by omega) (by omega) (by omega)
 unfold bK gQ
 rw [pG hN n1 n5 a1 a4,bs,cond_true,l1,l2,bo (by omega) (by omega),bs,ep,bs,h,bs,lpB,bs]
theorem xa (hM:1073742848≤N) {n:Nat} {atoms:List aU} (n1:1≤n) (n5:n≤5) (a1:1≤atoms.length) (a4:atoms.length≤4) :
  ∃ P,bK N (aR n atoms) (aB n) (aB atoms.length)=some P∧iN N (aR n atoms) (aB n) (aB atoms.length) 1=some P:=by
 obtain ⟨K,rfl⟩:∃ K,N=K+1+atoms.length:=⟨N-1-atoms.length,by omega⟩
 have hK:1073741824≤K:=by omega
 obtain ⟨P,hP,_⟩:=rx hK (atoms:=atoms) n1 n5 a1 a4
 obtain ⟨z,hz⟩:=zr hK n1 n5 a1 a4 hP
 have hPl:=Nat.le_trans (lN atoms.length 0 (n+atoms.length)) (td (by omega) a4)
 have hf:=wn hK n5 a4 (L:=cT atoms.length 0 (n+atoms.length)) (by omega) (fun l hl=>by
  obtain ⟨m1,m2⟩:=jT hl
  exact ⟨m1,fun v hv=>by have:=m2 v hv;omega⟩) _ 0 K [] (P,z) (Nat.zero_add _) ⟨Nat.le_refl _,fun _ h=>by cases h⟩ hz
 have hle:=mM (N:=K) (N':=K+1+atoms.length) (by omega) K (K+1+atoms.length) (by omega) _ _ _ _ _ _ _ _ _ _ hz
 refine ⟨P,yx (by omega) n1 n5 a1 a4 hle,?_⟩
 have l1:(aB n).length=n:=by unfold aB;simp
 have l2:(aB atoms.length).length=atoms.length:=by unfold aB;simp
 have hc:=uo hK n1 n5 a1 a4 atoms.length 0 [] [] P 0 (by simp) (by omega) (fun _ h=>by cases h) ⟨Nat.le_refl _,fun _ h=>by cases h⟩ (by omega) (by
  have e:(fun l:List Int=>([]:List Int)++l)=id:=by funext l;rfl
  rw [e,List.map_id];exact hf)
 rw [show ((0:Nat):Int)=0 from rfl] at hc
 unfold iN
 rw [bm (by decide) (by rw [cq];simp;omega),bs,ro (by omega),bs,l2,List.nil_append,xH (by omega) n5 a4,bs,lpB]
 dsimp only
 rw [hc,bs]
theorem zS (hM:1073742848≤N) {n:Nat} {atoms:List aU} (n1:1≤n) (n5:n≤5) (a1:1≤atoms.length) (a4:atoms.length≤4):fD N (aR n atoms) (aB n) (aB atoms.length)=bK N (aR n atoms) (aB n) (aB atoms.length):=by
 obtain ⟨P,h1,h2⟩:=xa hM n1 n5 a1 a4
 unfold fD
 rw [uy (by omega) n1 n5 a1 a4,bs,cond_true,h2,h1,bs]
end
section
variable {N:Nat}
theorem wv {n:Nat} {atoms:List aU} {out:List Int} (hq:eO (n:Int) atoms out=true):∀ v,v<n→∃ j,j<atoms.length∧((v:Nat):Int)∈(eZ atoms j).2:=fun v hv=>by
 unfold eO at hq
 simp only [Bool.and_eq_true] at hq
 have h:=hq.2
 unfold jR at h
 rw [List.all_eq_true] at h
 have h:=h v (by rw [List.mem_range'_1];simp;exact hv)
 rw [List.any_eq_true] at h
 obtain ⟨a,ha,h⟩:=h
 obtain ⟨j,hj,rfl⟩:=List.getElem_of_mem ha
 exact ⟨j,hj,by rw [nk hj];exact of_decide_eq_true h⟩
theorem AA (hN:1073741824≤N) {n:Nat} {atoms:List aU} {out:List Int} (ha:eN atoms) (ho:okI out) (hq:eO (n:Int) atoms out=true):gF N (n:Int) atoms out=some (jb n):=by
 obtain ⟨_,n5,_,a4⟩:=jf hq
 have h:=hG (fun k (o:List Int) i=>cI N k (n:Int) atoms out o i) n (fun i=>jb i) (jb n,(n:Int))
  (fun k i h=>by
   show cI N (k+1) (n:Int) atoms out (jb i) (i:Int)=cI N k (n:Int) atoms out (jb (i+1)) ((i+1:Nat):Int)
   rw [cI,dlt h,cond_true,bm (by decide) (by rw [oG,List.length_singleton];omega),bs,ad1 (by omega),bs]
   unfold jb
   rw [List.range'_1_concat,List.map_append,Nat.zero_add];rfl)
  (fun k=>by
   show cI N (k+1) (n:Int) atoms out (jb n) (n:Int)=_
   rw [cI,dge (by omega),cond_false]) N 0 (by omega) (by omega)
 have h':cI N N (n:Int) atoms out [] 0=some (jb n,(n:Int)):=h
 unfold gF
 rw [gN hN ha ho,bs,hq,cond_true,h',bs,lpB]
theorem xb (hN:1073741824≤N) {n v:Int} {atoms:List aU} {out l:List Int} {a b:Int} {b1 b4:bh} {b2 b3 b5 b6:aW} (ha:eN atoms) (h4:atoms.length≤1000) :
  dT N N n atoms out b1 b2 b3 b4 b5 b6 v [] l a b atoms (atoms.length:Int) 0=some (dy atoms v,(atoms.length:Int)) :=
 hG (fun k (o:aW) i=>dT N k n atoms out b1 b2 b3 b4 b5 b6 v o l a b atoms (atoms.length:Int) i) atoms.length (fun i=>dy (atoms.take i) v) (dy atoms v,(atoms.length:Int))
  (fun k i h=>by
   show dT N (k+1) n atoms out b1 b2 b3 b4 b5 b6 v (dy (atoms.take i) v) l a b atoms (atoms.length:Int) (i:Int)=dT N k n atoms out b1 b2 b3 b4 b5 b6 v (dy (atoms.take (i+1)) v) l a b atoms (atoms.length:Int) ((i+1:Nat):Int)
   have hl:(dy (atoms.take i) v).length≤1000:=by unfold dy;rw [List.length_map,List.length_take];omega
   have e:dy (atoms.take (i+1)) v=dy (atoms.take i) v++[ib atoms[i] v]:=by
    unfold dy
    rw [List.take_succ_eq_append_getElem h,List.map_append];rfl
   rw [dT,dlt h,cond_true,aZ h,bs,lA hN (oK ha h),bs,e]
   unfold ib ko
   cases decide (v∈atoms[i].2) with
   | true=>rw [cond_true,cond_true,bs,bm (by decide) (by rw [List.length_singleton];omega),bs,ad1 (by omega),bs]
   | false=>rw [cond_false,cond_false,bs,bm (by decide) (by rw [List.length_singleton];omega),bs,ad1 (by omega),bs])
  (fun k=>by
   show dT N (k+1) n atoms out b1 b2 b3 b4 b5 b6 v (dy (atoms.take atoms.length) v) l a b atoms (atoms.length:Int) (atoms.length:Int)=_
   rw [dT,dge (by omega),cond_false,List.take_length]) N 0 (by omega) (by omega)
theorem xj (hN:1073741824≤N) {n:Nat} (hn:n≤1000) {m:Int} {atoms:List aU} {out:List Int} {b1:bh} {b2 b3 b6:aW} (ha:eN atoms) (h4:atoms.length≤1000) :
  dR N N m atoms out b1 b2 b3 [] [] b6 (jb n) (n:Int) 0=some (aR n atoms,aB n,(n:Int)) :=
 hG (fun k (o:bh × aW) i=>dR N k m atoms out b1 b2 b3 o.1 o.2 b6 (jb n) (n:Int) i) n (fun i=>(aR i atoms,aB i)) (aR n atoms,aB n,(n:Int))
  (fun k i h=>by
   show dR N (k+1) m atoms out b1 b2 b3 (aR i atoms) (aB i) b6 (jb n) (n:Int) (i:Int)=dR N k m atoms out b1 b2 b3 (aR (i+1) atoms) (aB (i+1)) b6 (jb n) (n:Int) ((i+1:Nat):Int)
   have h1:(aR i atoms).length=i:=by unfold aR;simp
   have h2:(aB i).length=i:=by unfold aB;simp
   have ho:ix (jb n) (i:Int)=some (i:Int):=by
    rw [aZ (by rw [oG];exact h)];unfold jb;simp
   rw [dR,dlt h,cond_true,ho,bs,xb hN ha h4,bs,lpB]
   dsimp only
   rw [bm (by decide) (by rw [List.length_singleton];omega),bs,bm (by decide) (by rw [List.length_singleton];omega),bs,ad1 (by omega),bs,qI,lf])
  (fun k=>by
   show dR N (k+1) m atoms out b1 b2 b3 (aR n atoms) (aB n) b6 (jb n) (n:Int) (n:Int)=_
   rw [dR,dge (by omega),cond_false]) N 0 (by omega) (by omega)
theorem wR (hN:1073741824≤N) {c:Nat} (h4:c≤1000) {b1 b4:bh} {b2 b3 b5:aW} :
  dS N N b1 b2 b3 b4 b5 [] (c:Int) 0=some (aB c,(c:Int)) :=
 hG (fun k (o:aW) i=>dS N k b1 b2 b3 b4 b5 o (c:Int) i) c (fun i=>aB i) (aB c,(c:Int))
  (fun k i h=>by
   show dS N (k+1) b1 b2 b3 b4 b5 (aB i) (c:Int) (i:Int)=dS N k b1 b2 b3 b4 b5 (aB (i+1)) (c:Int) ((i+1:Nat):Int)
   have h2:(aB i).length=i:=by unfold aB;simp
   rw [dS,dlt h,cond_true,bm (by decide) (by rw [List.length_singleton];omega),bs,ad1 (by omega),bs,lf])
  (fun k=>by
   show dS N (k+1) b1 b2 b3 b4 b5 (aB c) (c:Int) (c:Int)=_
   rw [dS,dge (by omega),cond_false]) N 0 (by omega) (by omega)
theorem n7 (hN:1073741824≤N) {n:Nat} {atoms:List aU} {out:List Int} (ha:eN atoms) (ho:okI out) (hq:eO (n:Int) atoms out=true) :
  gJ N (n:Int) atoms out=some ((aR n atoms,aB n,aB atoms.length),true):=by
 obtain ⟨_,n5,_,a4⟩:=jf hq
 unfold gJ
 rw [gN hN ha ho,bs,hq,cond_true,AA hN ha ho hq,bs]
 unfold jX
 rw [oG,xj hN (by omega) ha (by omega),bs,lpB]
 dsimp only
 rw [wR hN (by omega),bs,lpB]
 rfl
theorem qP (hN:1073741824≤N) {na e:Nat} {k:Nat→Nat} (hna:na≤1000) (hb:∀ i,i<na→k i*e≤1000000) :
  iV N ((List.range' 0 na).map fun i:Nat=>(k i:Int)) (e:Int)=some ((List.range' 0 na).map fun i:Nat=>((k i*e:Nat):Int)):=by
 have hl:((List.range' 0 na).map fun i:Nat=>(k i:Int)).length=na:=by simp
 have h:=hG (fun f (o:List Int) i=>el N f (e:Int) o ((List.range' 0 na).map fun i:Nat=>(k i:Int)) (na:Int) i) na (fun i=>(List.range' 0 i).map fun i:Nat=>((k i*e:Nat):Int)) ((List.range' 0 na).map (fun i:Nat=>((k i*e:Nat):Int)),(na:Int))
  (fun f i h=>by
   show el N (f+1) (e:Int) ((List.range' 0 i).map fun i:Nat=>((k i*e:Nat):Int)) ((List.range' 0 na).map fun i:Nat=>(k i:Int)) (na:Int) (i:Int)=el N f (e:Int) ((List.range' 0 (i+1)).map fun i:Nat=>((k i*e:Nat):Int)) ((List.range' 0 na).map fun i:Nat=>(k i:Int)) (na:Int) ((i+1:Nat):Int)
   have hx:ix ((List.range' 0 na).map fun i:Nat=>(k i:Int)) (i:Int)=some (k i:Int):=by
    rw [aZ (by rw [hl];exact h)];simp
   have hm:=hb i h
   have p:(k i:Int)*(e:Int)=((k i*e:Nat):Int):=(Int.natCast_mul ..).symm
   rw [el,dlt h,cond_true,hx,bs,dL (by rw [p];omega) (by rw [p];omega),bs,p,bm (by decide) (by simp;omega),bs,ad1 (by omega),bs,List.range'_1_concat,List.map_append,Nat.zero_add]
   rfl)
  (fun f=>by
   show el N (f+1) (e:Int) ((List.range' 0 na).map fun i:Nat=>((k i*e:Nat):Int)) ((List.range' 0 na).map fun i:Nat=>(k i:Int)) (na:Int) (na:Int)=_
   rw [el,dge (by omega),cond_false]) N 0 (by omega) (by omega)
 have h':el N N (e:Int) [] ((List.range' 0 na).map fun i:Nat=>(k i:Int)) (na:Int) 0=some ((List.range' 0 na).map (fun i:Nat=>((k i*e:Nat):Int)),(na:Int)):=h
 unfold iV
 rw [hl,h',bs,lpB]
theorem vl (hN:1073741824≤N) {x:aW} {v:List Int × Int} (hl:x.length≤1048576) (h:bV N x=some v):dZ N x=some v:=by
 obtain ⟨w,e1,e2,_⟩:=tL hN (rs:=x) hl
 rw [h] at e1
 rw [e2,Option.some.inj e1]
theorem wC (hN:1073741824≤N) {xs ks:List Int} {v:List Int × Bool} (hl:xs.length≤1048576) (hr:∀ v∈xs,v≤9223372036854775807) (h:c9 N xs ks=some v):d5 N xs ks=some v:=by
 obtain ⟨w,e1,e2,_⟩:=uw hN (ks:=ks) hl hr
 rw [h] at e1
 rw [e2,Option.some.inj e1]
theorem sx (hN:1073741824≤N) {n:Nat} {atoms:List aU} (n5:n≤5) (a1:1≤atoms.length) (a4:atoms.length≤4) {s:Nat→Nat} (hs:∀ i,i<atoms.length→s i≤16) {x y:aW} (hx:d9 N n atoms x) (hy:d9 N n atoms y) :
  ∃ c,dQ N ((List.range' 0 atoms.length).map fun i:Nat=>(s i:Int)) x y=some (c,true)∧eR N ((List.range' 0 atoms.length).map fun i:Nat=>(s i:Int)) x y=some (c,true)∧-1≤c∧c≤1:=by
 obtain ⟨d,k,d1,d3,hk,ed,_⟩:=lM hN n5 a1 a4 hx
 obtain ⟨e,q,e1,e3,hq,ee,_⟩:=lM hN n5 a1 a4 hy
 have l1:∀ f:Nat→Nat,((List.range' 0 atoms.length).map fun i:Nat=>(f i:Int)).length=atoms.length:=fun f=>by simp
 obtain ⟨z,e4⟩:=sZ hN (ss:=(List.range' 0 atoms.length).map fun i:Nat=>(s i:Int)) d3 e3 a4 hk hq atoms.length 0 N (by omega) (by omega)
 rw [mz,mz,mv,mv] at e4
 have e4':cS N N ((List.range' 0 atoms.length).map fun i:Nat=>(s i:Int)) ((List.range' 0 atoms.length).map fun i:Nat=>(k i:Int)) (d:Int) ((List.range' 0 atoms.length).map fun i:Nat=>(q i:Int)) (e:Int) 0=_:=e4
 have b1:∀ i,i<atoms.length→k i*e≤9:=fun i hi=>Nat.le_trans (Nat.mul_le_mul (hk i hi) e3) (by decide)
 have b2:∀ i,i<atoms.length→q i*d≤9:=fun i hi=>Nat.le_trans (Nat.mul_le_mul (hq i hi) d3) (by decide)
 obtain ⟨r1,f1,g1,c1,lr1,_⟩:=pk hN a4 hs (k:=fun i=>k i*e) b1
 obtain ⟨r2,f2,g2,c2,lr2,_⟩:=pk hN a4 hs (k:=fun i=>q i*d) b2
 obtain ⟨c,ec,h1,h2,h3⟩:=vn hN c1 c2 lr1 lr2
 obtain ⟨c',ec',ei⟩:=rC hN (a:=r1) (b:=r2) (by omega) (by omega)
 obtain rfl:c=c':=by rw [ec] at ec';exact Option.some.inj ec'
 have sb:∀ v∈((List.range' 0 atoms.length).map fun i:Nat=>(s i:Int)),v≤9223372036854775807:=fun v hv=>by
  obtain ⟨i,hi,rfl⟩:=List.mem_map.1 hv
  have:=hs i (by rw [List.mem_range'_1] at hi;omega)
  omega
 refine ⟨c,?_,?_,h2,h3⟩
 ·unfold dQ
  rw [ed,bs,ee,bs]
  dsimp only
  rw [show ((d:Int) == 0)=false by rw [beq_eq_false_iff_ne];omega,cond_false,show ((e:Int) == 0)=false by rw [beq_eq_false_iff_ne];omega,cond_false,l1,l1,l1,show ((atoms.length:Int) != (atoms.length:Int))=false by rw [bne_eq_false_iff_eq],cond_false,cond_false,e4',bs,lpB]
  dsimp only
  rw [f1,bs,f2,bs]
  dsimp only
  rw [cond_true,cond_true,ec,bs]
 ·have xl:=hx.1.len
  have yl:=hy.1.len
  unfold eR
  rw [vl hN (by omega) ed,bs,vl hN (by omega) ee,bs]
  dsimp only
  rw [l1,show ((x.length:Int) != (atoms.length:Int))=false by rw [bne_eq_false_iff_eq];omega,cond_false,show ((y.length:Int) != (atoms.length:Int))=false by rw [bne_eq_false_iff_eq];omega,cond_false,show ((d:Int) == 0)=false by rw [beq_eq_false_iff_ne];omega,cond_false,show ((e:Int) == 0)=false by rw [beq_eq_false_iff_ne];omega,cond_false,qP hN (by omega) (fun i hi=>Nat.le_trans (b1 i hi) (by decide)),bs,wC hN (by rw [l1];omega) sb f1,bs,qP hN (by omega) (fun i hi=>Nat.le_trans (b2 i hi) (by decide)),bs,wC hN (by rw [l1];omega) sb f2,bs]
  dsimp only
  rw [cond_true,cond_true,ei,bs]
theorem zm {ss:List Int} {n:Int} {atoms:List aU} {out:List Int} {A:bh} {B C:aW}:∀ (fuel:Nat) (i:Int),gG N fuel ss n atoms out ss (ss.length:Int) i=cw N fuel ss A B C i:=by
 intro fuel
 induction fuel with
 | zero=>intros;rfl
 | succ fuel ih =>
  intro i
  rw [gG,cw]
  simp only [og,ih]
theorem yN (hN:1073741824≤N) {ss:List Int} (hl:ss.length≤1000) {A:bh} {B C:aW}:∀ (c i fuel:Nat),i+c=ss.length→c<fuel→(∃ j,i≤j∧j<ss.length∧¬ (0≤ss.getD j 0∧ss.getD j 0≤16))→cw N fuel ss A B C (i:Int)=some (.inl ([],false)):=by
 intro c
 induction c with
 | zero=>intro i fuel hi hf ⟨j,h1,h2,_⟩;omega
 | succ c ih =>
  intro i fuel hi hf ⟨j,h1,h2,h3⟩
  obtain ⟨fuel,rfl⟩:∃ k',fuel=k'+1:=⟨fuel-1,by omega⟩
  rw [cw,decide_eq_true (by omega),cond_true,ixD (by omega),bs,dN,bs]
  by_cases hv:0≤ss.getD i 0∧ss.getD i 0≤16
  ·rw [show inR (ss.getD i 0) 0 16=true from b9.2 hv,cond_true,bo (by omega) (by omega),bs]
   have hij:i≠j:=fun e=>h3 (by rw [← e];exact hv)
   exact ih (i+1) fuel (by omega) (by omega) ⟨j,by omega,h2,h3⟩
  ·have:inR (ss.getD i 0) 0 16=false:=by
    cases h:inR (ss.getD i 0) 0 16 with
    | false=>rfl
    | true=>exact absurd (b9.1 h) hv
   rw [this,cond_false]
theorem zn (hN:1073741824≤N) {n:Nat} {atoms:List aU} (n5:n≤5) (a1:1≤atoms.length) (a4:atoms.length≤4) {s:Nat→Nat} (hs:∀ i,i<atoms.length→s i≤16) {P:bh} (hP:∀ x∈P,d9 N n atoms x) (hl:P.length≤100000):∀ (c i fuel:Nat) (x:aW),i+1+c=P.length→c<fuel→d9 N n atoms x →
  ∃ x' z z',bR N fuel ((List.range' 0 atoms.length).map fun i:Nat=>(s i:Int)) P x ((i+1:Nat):Int)=some (x',z)∧cW N fuel ((List.range' 0 atoms.length).map fun i:Nat=>(s i:Int)) x (P.drop 1) ((P.drop 1).length:Int) (i:Int)=some (x',z')∧d9 N n atoms x':=by
 intro c
 induction c with
 | zero =>
  intro i fuel x hi hf hx
  obtain ⟨fuel,rfl⟩:∃ k',fuel=k'+1:=⟨fuel-1,by omega⟩
  rw [bR,cW,decide_eq_false (by omega),cond_false,decide_eq_false (by rw [List.length_drop];omega),cond_false]
  exact ⟨x,_,_,rfl,rfl,hx⟩
 | succ c ih =>
  intro i fuel x hi hf hx
  obtain ⟨fuel,rfl⟩:∃ k',fuel=k'+1:=⟨fuel-1,by omega⟩
  have hil:i+1<P.length:=by omega
  have hm:ba P (i+1)∈P:=by unfold ba;simp [hil]
  have hd:ix (P.drop 1) (i:Int)=some (ba P (i+1)):=by
   rw [aZ (by rw [List.length_drop];omega),List.getElem_drop]
   unfold ba;simp [hil,Nat.add_comm]
  obtain ⟨q,eq,ei,q1,q2⟩:=sx hN n5 a1 a4 hs (hP _ hm) hx
  have hS:bR N (fuel+1) ((List.range' 0 atoms.length).map fun i:Nat=>(s i:Int)) P x ((i+1:Nat):Int)=bif decide (q<0) then bR N fuel ((List.range' 0 atoms.length).map fun i:Nat=>(s i:Int)) P (ba P (i+1)) ((i+1+1:Nat):Int) else bR N fuel ((List.range' 0 atoms.length).map fun i:Nat=>(s i:Int)) P x ((i+1+1:Nat):Int):=by
   rw [bR,decide_eq_true (by omega),cond_true,ixM hil,bs,eq,bs]
   dsimp only
   cases decide (q<0) with
   | true=>rw [cond_true,cond_true,bs,ad1 (by omega),bs]
   | false=>rw [cond_false,cond_false,ad1 (by omega),bs]
  have hdl:decide ((i:Int)<((P.drop 1).length:Int))=true:=decide_eq_true (by rw [List.length_drop];omega)
  have hI:cW N (fuel+1) ((List.range' 0 atoms.length).map fun i:Nat=>(s i:Int)) x (P.drop 1) ((P.drop 1).length:Int) (i:Int)=bif (q == -1) then cW N fuel ((List.range' 0 atoms.length).map fun i:Nat=>(s i:Int)) (ba P (i+1)) (P.drop 1) ((P.drop 1).length:Int) ((i+1:Nat):Int) else cW N fuel ((List.range' 0 atoms.length).map fun i:Nat=>(s i:Int)) x (P.drop 1) ((P.drop 1).length:Int) ((i+1:Nat):Int):=by
   rw [cW,hdl,cond_true,hd,bs,ei,bs]
   dsimp only
   cases (q == -1) with
   | true=>rw [cond_true,cond_true,ad1 (by omega),bs]
   | false=>rw [cond_false,cond_false,ad1 (by omega),bs]
  rw [hS,hI]
  by_cases hc:q<0
  ·rw [decide_eq_true hc,cond_true,show (q == -1)=true by rw [beq_iff_eq];omega,cond_true]
   exact ih (i+1) fuel _ (by omega) (by omega) (hP _ hm)
  ·rw [decide_eq_false hc,cond_false,show (q == -1)=false by rw [beq_eq_false_iff_ne];omega,cond_false]
   exact ih (i+1) fuel x (by omega) (by omega) hx
theorem pW (hM:1073742848≤N) {n:Int} {atoms:List aU} {out ss:List Int} (ha:eN atoms) (ho:okI out):∃ r:aW × Bool,ft N n atoms out ss=some r∧gO N n atoms out ss=some r∧(r=([],false)∨∃ n':Nat,n=(n':Int)∧r.2=true∧d9 N n' atoms r.1∧eO n atoms out=true∧ss.length=atoms.length∧∀ v∈ss,0≤v∧v≤16):=by
 have hN:1073741824≤N:=by omega
 cases hq:eO n atoms out with
 | false =>
  refine ⟨([],false),?_,?_,.inl rfl⟩
  ·unfold ft e8
   rw [gL hN ha ho,bs,hq,cond_false];rfl
  ·unfold gO
   rw [gN hN ha ho,bs,hq,cond_false]
 | true =>
  obtain ⟨n1,n5,a1,a4⟩:=jf hq
  obtain ⟨n,rfl⟩:=Int.eq_ofNat_of_zero_le (show 0≤n by omega)
  have n1:1≤n:=by omega
  have n5:n≤5:=by omega
  have a1:1≤atoms.length:=by omega
  have a4:atoms.length≤4:=by omega
  unfold ft gO
  rw [gN hN ha ho,bs,hq,cond_true,j9 hN ha ho hq,bs,n7 hN ha ho hq]
  dsimp only
  rw [cond_true]
  by_cases hl:ss.length=atoms.length
  ·rw [show ((ss.length:Int) != (atoms.length:Int))=false by rw [bne_eq_false_iff_eq];omega,cond_false,cond_false,zm (A:=aR n atoms) (B:=aB n) (C:=aB atoms.length)]
   by_cases hv:∀ v∈ss,0≤v∧v≤16
   ·obtain ⟨z0,hb⟩:=wx hN (ss:=ss) (by omega) hv (A:=aR n atoms) (B:=aB n) (C:=aB atoms.length) ss.length 0 N (by omega) (by omega)
    obtain ⟨s,hs,es⟩:=uj hv
    rw [hl] at hs es
    obtain ⟨P,eP,hPl,hP,hne⟩:=rx hN n1 n5 a1 a4
    have hne:=hne (rp hN n1 n5 a1 a4 (wv hq))
    have h0:0<P.length:=List.length_pos_iff.2 hne
    have hm:ba P 0∈P:=by unfold ba;simp [h0]
    obtain ⟨x,z,z',e1,e2,hpx⟩:=zn hN n5 a1 a4 hs hP hPl (P.length-1) 0 N (ba P 0) (by omega) (by omega) (hP _ hm)
    have hb':cw N N ss (aR n atoms) (aB n) (aB atoms.length) 0=some (.inr z0):=hb
    have i0:ix P 0=some (ba P 0):=ixM (i:=0) h0
    have hsl:slc P 1 (P.length:Int)=some (P.drop 1):=by
     unfold slc
     rw [if_pos (by omega)]
     simp
    have e1':bR N N ss P (ba P 0) 1=some (x,z):=by rw [es];exact e1
    have e2':cW N N ss (ba P 0) (P.drop 1) ((P.drop 1).length:Int) 0=some (x,z'):=by rw [es];exact e2
    refine ⟨(x,true),?_,?_,.inr ⟨n,rfl,rfl,hpx,rfl,hl,hv⟩⟩
    ·rw [hb',bs,fI,eP,bs,i0,bs,e1',bs,lpB]
    ·rw [hb',bs,fI,bs]
     dsimp only
     rw [zS hM n1 n5 a1 a4,eP,bs,show ((P.length:Int) == 0)=false by rw [beq_eq_false_iff_ne];omega,cond_false,i0,bs,hsl,bs,e2',bs,lpB]
   ·obtain ⟨v,hv1,hv2⟩:∃ v∈ss,¬ (0≤v∧v≤16):=Classical.byContradiction fun h=>hv fun v hv=>Classical.byContradiction fun h2=>h ⟨v,hv,h2⟩
    obtain ⟨j,hj,rfl⟩:=List.getElem_of_mem hv1
    have hb:=yN hN (ss:=ss) (by omega) (A:=aR n atoms) (B:=aB n) (C:=aB atoms.length) ss.length 0 N (by omega) (by omega) ⟨j,Nat.zero_le _,hj,by rw [fA hj];exact hv2⟩
    have hb':cw N N ss (aR n atoms) (aB n) (aB atoms.length) 0=_:=hb
    rw [hb',bs]
    exact ⟨_,rfl,rfl,.inl rfl⟩
  ·rw [show ((ss.length:Int) != (atoms.length:Int))=true by rw [bne_iff_ne];omega,cond_true,cond_true]
   exact ⟨_,rfl,rfl,.inl rfl⟩
end
section
variable {N:Nat}
theorem xf (hN:1073741824≤N) {n d:Int} (h0:0≤n) (h1:n≤1000000000) (h2:1≤d) (h3:d≤1000000000):∃ p q,bz N n d=some ((p,q),true)∧0≤p∧p≤n∧1≤q∧q≤d:=by
 obtain ⟨a1,a2,a3⟩:=nI n
 obtain ⟨g,e,g1,g2,g3,g4⟩:=lZ (N:=N) hN a1 (by omega:0≤d) (by omega)
 have hg:=g3 (.inr (by omega))
 obtain ⟨p,ep,hp⟩:=px hg ((a3 _).1 g1) (by omega) (by omega)
 obtain ⟨q,eq,hq⟩:=px hg g2 (by omega) (by omega)
 have hq1:1≤q:=by
  refine Int.not_lt.1 fun h=>?_
  have:=Int.mul_le_mul_of_nonneg_right (show q≤0 by omega) (show 0≤g by omega)
  omega
 have hp0:0≤p:=by
  refine Int.not_lt.1 fun h=>?_
  have:=Int.mul_le_mul_of_nonneg_right (show p≤-1 by omega) (show 0≤g by omega)
  omega
 have hpn:p≤n:=by
  have:=Int.mul_le_mul_of_nonneg_left (show 1≤g by omega) hp0
  omega
 have hqd:q≤d:=by
  have:=Int.mul_le_mul_of_nonneg_left (show 1≤g by omega) (show 0≤q by omega)
  omega
 have hcop:Int.gcd p q=1:=by
  have h4:(Int.gcd p q:Int)*g ∣ g:=g4 _ ((a3 _).2 (by rw [← hp];exact Int.mul_dvd_mul_right g (Int.gcd_dvd_left ..))) (by rw [← hq];exact Int.mul_dvd_mul_right g (Int.gcd_dvd_right ..))
  have h5:=Int.le_of_dvd hg h4
  have h6:0<Int.gcd p q:=Int.gcd_pos_of_ne_zero_right p (by omega)
  refine Classical.byContradiction fun hne=>?_
  have:=Int.mul_le_mul_of_nonneg_right (show (2:Int)≤(Int.gcd p q:Int) by omega) (show 0≤g by omega)
  omega
 have hv:VR N (p,q):=(eX hN).2 ⟨hq1,by show q≤_;omega,by show _≤p;omega,by show p≤_;omega,hcop⟩
 unfold VR at hv
 refine ⟨p,q,?_,hp0,hpn,hq1,hqd⟩
 unfold bz
 rw [show (d == 0)=false by rw [beq_eq_false_iff_ne];omega,cond_false,eS (by omega) (by omega),bs,dN,bs,show inR n (0-4000000000000000000) 4000000000000000000=true from b9.2 (by omega),cond_true,bs,dN,bs,show inR d (0-4000000000000000000) 4000000000000000000=true from b9.2 (by omega),cond_true,decide_eq_false (by omega),cond_false,eS (by omega) (by omega),bs,e,bs,ep,bs,eq,bs,hv,bs,cond_true]
theorem wL (hN:1073741824≤N) {a b:cj} (ha:VR N a) (hb:VR N b) (a0:0≤a.1) (b0:0≤b.1) (h1:a.1≤10000) (h2:a.2≤10000) (h3:b.1≤10000) (h4:b.2≤10000):∃ p q,bA N a.1 a.2 b.1 b.2=some ((p,q),true)∧0≤p∧p≤a.1*b.2+b.1*a.2∧1≤q∧q≤a.2*b.2:=by
 obtain ⟨a1,_⟩:=(eX hN).1 ha
 obtain ⟨b1,_⟩:=(eX hN).1 hb
 unfold VR at ha hb
 have m1:0≤a.1*b.2∧a.1*b.2≤10000*10000:=⟨Int.mul_nonneg a0 (by omega),Int.mul_le_mul h1 h4 (by omega) (by decide)⟩
 have m2:0≤b.1*a.2∧b.1*a.2≤10000*10000:=⟨Int.mul_nonneg b0 (by omega),Int.mul_le_mul h3 h2 (by omega) (by decide)⟩
 have m3:1*1≤a.2*b.2∧a.2*b.2≤10000*10000:=⟨Int.mul_le_mul a1 b1 (by decide) (by omega),Int.mul_le_mul h2 h4 (by omega) (by decide)⟩
 obtain ⟨p,q,e,h⟩:=xf hN (n:=a.1*b.2+b.1*a.2) (d:=a.2*b.2) (by omega) (by omega) (by omega) (by omega)
 unfold bA
 rw [ha,bs,cond_true,hb,bs,cond_true,dL (by omega) (by omega),bs,dL (by omega) (by omega),bs,bo (by omega) (by omega),bs,dL (by omega) (by omega),bs,e,bs]
 exact ⟨p,q,rfl,h⟩
end
section
variable {N:Nat}
def Sml (N:Nat) (r:cj):Prop:=VR N r∧0≤r.1∧r.1≤3∧1≤r.2∧r.2≤3
theorem vw (hN:1073741824≤N) {n:Nat} {atoms:List aU} (n5:n≤5) (a1:1≤atoms.length) (a4:atoms.length≤4) {x:aW} (hp:d9 N n atoms x):∀ j,j<atoms.length→Sml N (av x j):=fun j hj=>by
 obtain ⟨K,hD,hK⟩:=qr hN n5 a1 a4 hp
 have hxl:=hp.1.len
 obtain ⟨g1,g2⟩:=hD.ok j (by omega)
 have hq:=((eX hN).1 g1).1
 have hd:=hD.den j (by omega)
 have hKK:=hD.hK
 have hqK:(av x j).2≤K:=by omega
 have hqn:=jk hN g1
 have h0:0≤rv (av x j):=by
  unfold rv
  rw [Rat.div_def]
  exact Rat.mul_nonneg (Rat.intCast_nonneg.2 g2) (Rat.le_of_lt (Rat.inv_pos.2 (Rat.intCast_pos.2 (by omega))))
 have h1:((av x j).2:Rat)*rv (av x j)≤(K:Rat)*rv (av x j):=Rat.mul_le_mul_of_nonneg_right (Rat.intCast_le_intCast.2 hqK) h0
 have h2:((av x j).2:Rat)*rv (av x j)=((av x j).1:Rat):=by
  unfold rv;grind
 have h4:=hK j (by omega)
 have h5:((av x j).1:Rat)≤((3:Int):Rat):=by
  have e3:((3:Int):Rat)=3:=rfl
  rw [e3,← h2]
  exact Rat.le_trans h1 h4
 exact ⟨g1,g2,Rat.intCast_le_intCast.1 h5,by omega,by omega⟩
theorem y3 (hN:1073741824≤N) {l:aW} (h4:l.length≤4) (hl:∀ j,j<l.length→Sml N (av l j)):∀ (c k fuel:Nat) (r:cj) (u1 u2:Int),k+c=l.length→c<fuel→VR N r→0≤r.1→r.1≤12 ^ k→r.2≤12 ^ k→rv r=cp k (fun j=>rv (av l j)) →
  ∃ (p:cj) (z:Int),d6 N fuel l u1 u2 r.1 r.2 (k:Int)=some (.inr (p.1,p.2,z))∧VR N p∧rv p=cp l.length (fun j=>rv (av l j)):=by
 intro c
 induction c with
 | zero =>
  intro k fuel r u1 u2 hk hf hv h0 h1 h2 hr
  obtain ⟨fuel,rfl⟩:∃ k',fuel=k'+1:=⟨fuel-1,by omega⟩
  rw [d6,decide_eq_false (by omega),cond_false]
  exact ⟨r,_,rfl,hv,by rw [hr,show k=l.length by omega]⟩
 | succ c ih =>
  intro k fuel r u1 u2 hk hf hv h0 h1 h2 hr
  obtain ⟨fuel,rfl⟩:∃ k',fuel=k'+1:=⟨fuel-1,by omega⟩
  have hkn:k<l.length:=by omega
  obtain ⟨g1,g2,g3,g4,g5⟩:=hl k hkn
  have r1:=((eX hN).1 hv).1
  have b12:(12:Int) ^ k≤1728:=by
   match k,(show k≤3 by omega) with
   | 0,_=>decide
   | 1,_=>decide
   | 2,_=>decide
   | 3,_=>decide
  obtain ⟨s,t,e2,s0,s1,t0,t1⟩:=wL hN hv g1 h0 g2 (by omega) (by omega) (by omega) (by omega)
  obtain ⟨r',ok,e',h'⟩:=vC hN r (av l k)
  have e3:=e2
  rw [e'] at e3
  have e4:=Option.some.inj e3
  obtain rfl:r'=(s,t):=congrArg Prod.fst e4
  obtain ⟨_,_,hsv,hsum⟩:=h' (congrArg Prod.snd e4)
  rw [d6,decide_eq_true (by omega),cond_true,fV hkn,bs,e2,bs]
  dsimp only
  rw [cond_true,bo (by omega) (by omega),bs]
  have hpw:(12:Int) ^ (k+1)=12 ^ k*12:=Int.pow_succ 12 k
  have m1:r.1*(av l k).2≤12 ^ k*3:=Int.mul_le_mul h1 g5 (by omega) (by omega)
  have m2:(av l k).1*r.2≤3*12 ^ k:=Int.mul_le_mul g3 h2 (by omega) (by decide)
  have m3:r.2*(av l k).2≤12 ^ k*3:=Int.mul_le_mul h2 g5 (by omega) (by omega)
  exact ih (k+1) fuel (s,t) u1 u2 (by omega) (by omega) hsv s0 (by rw [hpw];show s≤_;omega) (by rw [hpw];show t≤_;omega) (by rw [hsum,hr];rfl)
theorem zg (hN:1073741824≤N) {l:aW} (h4:l.length≤4) (hl:∀ j,j<l.length→Sml N (av l j)):∃ p:cj,gK N l=some (p,true)∧VR N p∧rv p=cp l.length (fun j=>rv (av l j)):=by
 obtain ⟨p,z,e,h1,h2⟩:=y3 hN h4 hl l.length 0 N (0,1) 0 0 (by omega) (by omega) (gk hN (by decide) (by decide)) (Int.le_refl 0) (by show (0:Int)≤12 ^ 0;decide) (by show (1:Int)≤12 ^ 0;decide) (by rw [iy];rfl)
 have e':d6 N N l 0 0 0 1 0=some (.inr (p.1,p.2,z)):=e
 unfold gK
 rw [e',bs,fI]
 exact ⟨p,rfl,h1,h2⟩
def iX (x:aW) (atoms:List aU) (v:Int) (i:Nat):aW:=((List.range' 0 i).filter fun j=>decide (v∈(eZ atoms j).2)).map fun j=>av x j
theorem qN (x:aW) (atoms:List aU) (v:Int) (i:Nat):iX x atoms v (i+1)=iX x atoms v i++(if v∈(eZ atoms i).2 then [av x i] else []):=by
 unfold iX
 rw [List.range'_1_concat,List.filter_append,List.map_append,Nat.zero_add]
 congr 1
 by_cases h:v∈(eZ atoms i).2
 ·simp [h]
 ·simp [h]
theorem rk (x:aW) (atoms:List aU) (v:Int) (i:Nat):(iX x atoms v i).length≤i:=by
 unfold iX
 rw [List.length_map]
 exact Nat.le_trans (List.length_filter_le _ _) (by rw [List.length_range'];exact Nat.le_refl i)
theorem v8 {x:aW} {atoms:List aU} {v:Int} {i:Nat} {r:cj} (h:r∈iX x atoms v i):∃ j,j<i∧r=av x j:=by
 unfold iX at h
 obtain ⟨j,hj,rfl⟩:=List.mem_map.1 h
 have:=(List.mem_filter.1 hj).1
 rw [List.mem_range'_1] at this
 exact ⟨j,by omega,rfl⟩
theorem vI (a:aW) (r:cj):cp (a++[r]).length (fun j=>rv (av (a++[r]) j))=cp a.length (fun j=>rv (av a j))+rv r:=by
 rw [List.length_append,List.length_singleton]
 show cp a.length _+rv (av (a++[r]) a.length)=_
 rw [jV,d8 fun j hj=>by rw [kO hj]]
theorem rJ {n v:Nat} {x:aW} {atoms:List aU} (hv:v<n):∀ i,i≤atoms.length→cp (iX x atoms (v:Int) i).length (fun j=>rv (av (iX x atoms (v:Int) i) j))=cp i (fun j=>cv (aR n atoms) v j*rv (av x j))
 | 0,_=>rfl
 | i+1,hi=>by
  rw [qN]
  have ih:=rJ (x:=x) (atoms:=atoms) hv i (by omega)
  show _=cp i _+cv (aR n atoms) v i*rv (av x i)
  have hc:cv (aR n atoms) v i=if (v:Int)∈(eZ atoms i).2 then 1 else 0:=by
   unfold cv
   rw [iD hv (by omega)]
   unfold ib
   by_cases h:(v:Int)∈(eZ atoms i).2
   ·rw [decide_eq_true h,cond_true,if_pos h,iy];rfl
   ·rw [decide_eq_false h,cond_false,if_neg h,iy];rfl
  rw [hc]
  by_cases h:(v:Int)∈(eZ atoms i).2
  ·rw [if_pos h,if_pos h,vI,ih,Rat.one_mul]
  ·rw [if_neg h,if_neg h,List.append_nil,ih,Rat.zero_mul,Rat.add_zero]
theorem xW (hN:1073741824≤N) {n v:Int} {x:aW} {atoms:List aU} {out:List Int} (ha:eN atoms) (h4:atoms.length≤1000) (hx:x.length=atoms.length) :
  bJ N N x n atoms out v [] 0=some (iX x atoms v atoms.length,(atoms.length:Int)) :=
 hG (fun k (o:aW) i=>bJ N k x n atoms out v o i) atoms.length (fun i=>iX x atoms v i) (iX x atoms v atoms.length,(atoms.length:Int))
  (fun k i h=>by
   show bJ N (k+1) x n atoms out v (iX x atoms v i) (i:Int)=bJ N k x n atoms out v (iX x atoms v (i+1)) ((i+1:Nat):Int)
   have hl:=rk x atoms v i
   have ea:eZ atoms i=atoms[i]:=nk h
   rw [bJ,hx,dlt h,cond_true,aZ h,bs,gV hN (oK ha h),bs,qN,ea]
   by_cases hv:v∈atoms[i].2
   ·rw [decide_eq_true hv,cond_true,if_pos hv,fV (by omega),bs,bm (by decide) (by rw [List.length_singleton];omega),bs,ad1 (by omega),bs]
   ·rw [decide_eq_false hv,cond_false,if_neg hv,List.append_nil,ad1 (by omega),bs])
  (fun k=>by
   show bJ N (k+1) x n atoms out v (iX x atoms v atoms.length) (atoms.length:Int)=_
   rw [bJ,hx,dge (by omega),cond_false]) N 0 (by omega) (by omega)
theorem vE (hN:1073741824≤N) {x:aW} (h4:x.length≤1000) (hs:∀ j,j<x.length→Sml N (av x j)) {u:Int}:∀ (c k fuel:Nat),k+c=x.length→c<fuel→∃ z,fq N fuel x u (k:Int)=some (.inr z):=by
 intro c
 induction c with
 | zero =>
  intro k fuel hk hf
  obtain ⟨fuel,rfl⟩:∃ k',fuel=k'+1:=⟨fuel-1,by omega⟩
  rw [fq,decide_eq_false (by omega),cond_false]
  exact ⟨_,rfl⟩
 | succ c ih =>
  intro k fuel hk hf
  obtain ⟨fuel,rfl⟩:∃ k',fuel=k'+1:=⟨fuel-1,by omega⟩
  obtain ⟨g1,g2,g3,g4,g5⟩:=hs k (by omega)
  have g1':ax N (av x k).1 (av x k).2=some true:=g1
  rw [fq,decide_eq_true (by omega),cond_true,fV (by omega),bs,g1',bs,cond_true,bs,decide_eq_false (by omega),cond_false,bs,decide_eq_false (by omega),cond_false,bs,decide_eq_false (by omega),cond_false,bo (by omega) (by omega),bs]
  exact ih (k+1) fuel (by omega) (by omega)
theorem xp (hN:1073741824≤N) {n:Nat} {atoms:List aU} {out:List Int} (ha:eN atoms) (ho:okI out) (hq:eO (n:Int) atoms out=true) {x:aW} (hp:d9 N n atoms x):fg N (n:Int) atoms out x=some true:=by
 obtain ⟨_,n5,a1,a4⟩:=jf hq
 have n5:n≤5:=by omega
 have a1:1≤atoms.length:=by omega
 have a4:atoms.length≤4:=by omega
 have hxl:=hp.1.len
 have hs:=vw hN n5 a1 a4 hp
 obtain ⟨z,ez⟩:=vE hN (x:=x) (by omega) (fun j hj=>hs j (by omega)) (u:=(atoms.length:Int)) x.length 0 N (by omega) (by omega)
 have ez':fq N N x (atoms.length:Int) 0=some (.inr z):=ez
 have hL:∀ (c v fuel:Nat),v+c=n→c<fuel→∃ z,de N fuel x (n:Int) atoms out (v:Int)=some (.inr z):=by
  intro c
  induction c with
  | zero =>
   intro v fuel hv hf
   obtain ⟨fuel,rfl⟩:∃ k',fuel=k'+1:=⟨fuel-1,by omega⟩
   rw [de,decide_eq_false (by omega),cond_false]
   exact ⟨_,rfl⟩
  | succ c ih =>
   intro v fuel hv hf
   obtain ⟨fuel,rfl⟩:∃ k',fuel=k'+1:=⟨fuel-1,by omega⟩
   have hvn:v<n:=by omega
   have hl:=rk x atoms (v:Int) atoms.length
   obtain ⟨p,ep,pv,pr⟩:=zg hN (l:=iX x atoms (v:Int) atoms.length) (by omega) (fun j hj=>by
    have hm:av (iX x atoms (v:Int) atoms.length) j∈iX x atoms (v:Int) atoms.length:=by unfold av;simp [hj]
    obtain ⟨i,hi,e⟩:=v8 hm
    rw [e];exact hs i hi)
   rw [rJ hvn atoms.length (Nat.le_refl _)] at pr
   have hge:=hp.1.ge v hvn
   rw [← pr] at hge
   obtain ⟨q,eq,_,_,hq'⟩:=yJ hN p (1,1)
   have eq':bO N p.1 p.2 1 1=some q:=eq
   have hq0:¬ q<0:=fun h=>by
    have:=(hq' pv (gk hN (by decide) (by decide))).1 h
    rw [iy] at this
    exact absurd hge (Rat.not_le.2 this)
   rw [de,decide_eq_true (by omega),cond_true,xW hN ha (by omega) hxl,bs,lpB]
   dsimp only
   rw [ep,bs]
   dsimp only
   rw [cond_true,eq',bs,decide_eq_false hq0,cond_false,bo (by omega) (by omega),bs]
   exact ih (v+1) fuel (by omega) (by omega)
 obtain ⟨z2,e2⟩:=hL n 0 N (by omega) (by omega)
 have e2':de N N x (n:Int) atoms out 0=some (.inr z2):=e2
 unfold fg jF
 rw [gL hN ha ho,bs,hq,cond_true,ez',bs,fI,bs,hxl,show ((atoms.length:Int) == (atoms.length:Int))=true by simp,cond_true,e2',bs,fI]
end
theorem nj {N:Nat} (hN:1073741824≤N) {a:List Int} (ha:iE a):∃ r ss,gm N a=some (r,ss)∧QSm r:=by
 obtain ⟨h,e⟩:=tH (N:=N) hN ha
 obtain ⟨r,q,g,e1,c1,hs,_⟩:=se hN ha (h:=h) Ay
 have hl:=hs.2.1
 obtain ⟨xs,q2,g2,e2,c2,hx,_⟩:=qT hN ha (h:=g) c1 (n:=r.2.1.length) (by omega)
 unfold gm
 rw [e,bs]
 dsimp only
 rw [e1,bs]
 dsimp only
 rw [e2,bs]
 dsimp only
 by_cases h0:(0:Int)<(xs.length:Int)
 ·rw [decide_eq_true h0,cond_true]
  obtain ⟨b,q3,g3,e3,c3⟩:=lQ (N:=N) ha (h:=g2) (n:=12) c2
  rw [e3,bs]
  dsimp only
  cases b with
  | false=>rw [cond_false];exact ⟨r,_,rfl,hs⟩
  | true =>
   obtain ⟨v,q4,g4,e4,_,_⟩:=jm (N:=N) (l:=[(-1),17]) ha (h:=g3) c3 (by decide)
   rw [cond_true,e4,bs]
   dsimp only
   have i0:ix xs 0=some (xs[0]'(by omega)):=aZ (i:=0) (by omega)
   have s0:sto xs 0 v=some (xs.set 0 v):=kQ (i:=0) (by omega)
   rw [i0,bs,s0,bs]
   exact ⟨r,_,rfl,hs⟩
 ·rw [decide_eq_false h0,cond_false];exact ⟨r,_,rfl,hs⟩
theorem yL {N:Nat} (hN:1073741824≤N) {n:Nat} {atoms:List aU} {out:List Int} {u:Int} (n5:n≤5) (a1:1≤atoms.length) (a4:atoms.length≤4) {s:Nat→Nat} (hs:∀ i,i<atoms.length→s i≤16) {x:aW} (hx:d9 N n atoms x) {P:bh} (hP:∀ y∈P,d9 N n atoms y) (hl:P.length≤100000) (hm:∀ j,j<P.length→LeV N atoms.length s x (ba P j)):∀ (c i fuel:Nat),i+c=P.length→c<fuel →
  ∃ z,dI N fuel u atoms out ((List.range' 0 atoms.length).map fun i:Nat=>(s i:Int)) x P (i:Int)=some (.inr z):=by
 intro c
 induction c with
 | zero =>
  intro i fuel hi hf
  obtain ⟨fuel,rfl⟩:∃ k',fuel=k'+1:=⟨fuel-1,by omega⟩
  rw [dI,decide_eq_false (by omega),cond_false]
  exact ⟨_,rfl⟩
 | succ c ih =>
  intro i fuel hi hf
  obtain ⟨fuel,rfl⟩:∃ k',fuel=k'+1:=⟨fuel-1,by omega⟩
  have hil:i<P.length:=by omega
  have hmP:ba P i∈P:=by unfold ba;simp [hil]
  obtain ⟨q,eq,ei,_,_⟩:=sx hN n5 a1 a4 hs (hP _ hmP) hx
  obtain ⟨q',eq',_,_,hq,_,_⟩:=u4 hN n5 a1 a4 hs (hP _ hmP) hx
  obtain rfl:q=q':=by rw [eq] at eq';exact congrArg Prod.fst (Option.some.inj eq')
  have hn:¬ q<0:=fun h=>hq.1 h (hm i hil)
  rw [dI,decide_eq_true (by omega),cond_true,ixM hil,bs,ei,bs]
  dsimp only
  rw [cond_true,decide_eq_false hn,cond_false,bo (by omega) (by omega),bs]
  exact ih (i+1) fuel (by omega) (by omega)
theorem oW {N:Nat} (hM:1073742848≤N) {x0:List Int} (_:(my (fun _=>True) 9223372036854775807) x0) (g0:∀ v∈x0,0≤v∧v≤255):iI N x0=some true:=by
 have hN:1073741824≤N:=by omega
 unfold iI mS
 rw [bs]
 by_cases hb:(1048576:Int)<(x0.length:Int)
 ·rw [decide_eq_true hb];rfl
 ·rw [decide_eq_false hb,cond_false]
  have hc:iE x0:=⟨by omega,fun v hv=>g0 v hv⟩
  obtain ⟨⟨n,atoms,out⟩,ss,ed,hsm⟩:=nj hN hc
  have ha:=hsm.atoms
  have ho:=hsm.out
  dsimp only at ha ho
  rw [ed,bs]
  dsimp only
  obtain ⟨r,h1,h2,h3⟩:=pW hM (n:=n) (ss:=ss) ha ho
  rw [h1,h2,bs,bs,bne_self_eq_false,cond_false]
  rcases h3 with rfl | ⟨n',rfl,hr,hp,hq,hl,hv⟩
  ·rw [qd hN (by decide),bs];rfl
  ·obtain ⟨n1,n5,a1,a4⟩:=jf hq
   have n1:1≤n':=by omega
   have n5:n'≤5:=by omega
   have a1:1≤atoms.length:=by omega
   have a4:atoms.length≤4:=by omega
   obtain ⟨s,hs,es⟩:=uj hv
   rw [hl] at hs es
   obtain ⟨x,P,e1,e2,hx,hP,hPl,hmin⟩:=qQ hN ha ho hq (wv hq) hs
   rw [← es,h1] at e1
   have er:=Option.some.inj e1
   obtain ⟨z,ez⟩:=yL hN (out:=out) (u:=(n':Int)) n5 a1 a4 hs hx hP hPl hmin P.length 0 N (by omega) (by omega)
   rw [← es] at ez
   have ez':dI N N (n':Int) atoms out ss x P 0=some (.inr z):=ez
   have hxl:=hx.1.len
   rw [er]
   dsimp only
   rw [qd hN (by omega),bs,decide_eq_true rfl,cond_true,cond_true,j9 hN ha ho hq,bs]
   dsimp only
   rw [e2,bs,ez',bs,fI,xp hN ha ho hq hx,bs]
section
variable {P:Program} {n:Nat} {Q Q':Exit→Env→World→Prop} {K:Env→World→Prop} {KQ:Env→Prop} {e:Env} {w w0:World} {c y:Code} {x:Exit} {ops:Array Oper} {rest:List Oper}
variable {d:Nat} {op:Op} {ty:TypeId} {pos:String} {af:Array Edge} {o z1 z2 z3:Operand} {v:Value} {q1:Oper}
def RdF {α:Type} (w0 W:World) (F:List Nat) (R:Rep α) (cs:List Value) (x:α):Prop:=R.rd w0 cs x∨∃ f,R.own W cs x f∧∀ b∈f,b∈F
theorem RdF.up {α:Type} {R:Rep α} {W W':World} {F F':List Nat} {cs:List Value} {x:α} (h:RdF w0 W F R cs x) (he:∀ b∈F,W'.heap[b]? = W.heap[b]?) (hs:∀ b∈F,b∈F'):RdF w0 W' F' R cs x:=by
 rcases h with h | ⟨f,h1,h2⟩
 ·exact .inl h
 ·exact .inr ⟨f,R.own_ext h1 (fun b hb=>he b (h2 b hb)),fun b hb=>hs b (h2 b hb)⟩
theorem dt {p:Prop} [Decidable p] (h:decide p=true:=by rfl):p:=of_decide_eq_true h
theorem oB {α β:Type} {C:Prop} {o:Option α} {f:α→Option β} {r:β} (h:o.bind f=some r) (k:∀ x,o=some x→f x=some r→C):C:=by
 obtain ⟨x,h1,h2⟩:=ob h
 exact k x h1 h2
theorem oF {α:Type} {C:Prop} {c:Bool} {x y:Option α} {r:α} (h:(bif c then x else y)=some r) (k1:c=true→x=some r→C) (k2:c=false→y=some r→C):C:=by
 rcases oif h with ⟨h1,h2⟩ | ⟨h1,h2⟩
 ·exact k1 h1 h2
 ·exact k2 h1 h2
theorem oI {α:Type} {a b:α} (h:some a=some b):a=b:=Option.some.inj h
theorem nn {α:Type} {x:α} (h:none=some x):False:=nomatch h
theorem cR {α:Type} {a b:α} (h:a=b) (f:α→Value):Ending.returned (f a)=Ending.returned (f b):=by rw [h]
theorem sP {α:Type} {a b:α} (h:a=b) (f:α→List Asn) (S:Sat w0 w (f a)):Sat w0 w (f b):=by rw [← h];exact S
theorem ot {f:FuncId} {g:Operand} {args:Array Operand} {tys:Array TypeId} {cap vals:Array Value} {R:Ending→World→Prop} (hf:ev e g=.func (.func f) #[] cap) (hg:Goes P f) (hc:Calls P f vals w R) (hv:(args.toList.map (ev e)).toArray++cap=vals) (hd:d<n)
  (hK:∀ x w',R x w'→∃ v,x=.returned v∧EL P n ops K rest (upd e d v) w'):EL P n ops K (⟨some d,.call ⟨.value g,args,tys⟩,ty,pos,af,none⟩ :: rest) e w:=by
 intro a ha
 refine wpList_plain rfl fun K' hK'=>?_
 unfold Oper.wp execOp
 have he:args.map (ev e)++cap=vals:=by
  rw [← hv]
  congr 1
  apply Array.ext';simp
 simp only [ha.eval,resolve,hf,Deferred.ofValue,Sem.run_bind,Sem.run_pure,Result.andThen_ok,Array.empty_append,he,invoke,hg.run,Oper.upon_enter]
 refine hc.mono fun x w' hx=>?_
 obtain ⟨v,rfl,h⟩:=hK x w' hx
 exact hK' _ _ (h _ (ha.put hd v))
theorem vK {l cap:List Value} {X:Array Value} (h:X=l.toArray):X++cap.toArray=(l++cap).toArray:=by rw [h];simp
theorem r8 {fn:Fn} {cap:Array Operand} {vs:Array Value} {D:Option Nat} (hc:(cap.toList.map (ev e)).toArray=vs):PV P ⟨D,.makeFunc fn #[] cap,ty,pos,af,none⟩ e w (.func fn #[] vs):=fun w' _=>by
 have he:cap.map (ev e)=vs:=by
  rw [← hc]
  apply Array.ext';simp
 unfold execOp
 simp [Instr.makeFunc,he]
abbrev pt (b o:Nat):Value:=.pointer (some ⟨b,o,none⟩)
theorem sg (h:∀ Q':Exit→Env→World→Prop,(∀ x e w,thn (fun e w=>CW P n y Q e w) Q x e w→Q' x e w)→CW P n c Q' e w):CW P n (.seq c y) Q e w:=uu (pL h)
theorem sR {id:Nat} {l:List Oper} (h:∀ Q':Exit→Env→World→Prop,(∀ x e w,thn (fun e w=>CW P n y Q e w) Q x e w→Q' x e w)→EL P n l.toArray (fun e w=>Q' .normal e w) l e w):CW P n (.seq (.region id l.toArray false) y) Q e w:=uu (pL fun Q' q=>ac (h Q' q))
theorem gn (h:∀ Q':Exit→Env→World→Prop,(∀ x e w,Q x e w→Q' x e w)→CW P n c Q' e w):CW P n c Q e w:=pL h
theorem bg {i:Nat} (h:∀ Q':Exit→Env→World→Prop,(∀ x e w,inb i Q x e w→Q' x e w)→CW P n c Q' e w):CW P n (.block i c) Q e w:=vL (pL h)
theorem hq {f:Exit→Env→World→Prop} (h:∀ x e w,f x e w→Q' x e w) (k:f x e w):Q' x e w:=h _ _ _ k
theorem tn (h:∀ x e w,thn K Q x e w→Q' x e w) (k:K e w):Q' .normal e w:=h _ _ _ k
theorem tr (h:∀ x e w,thn K Q x e w→Q' x e w) (k:Q .ret e w):Q' .ret e w:=h _ _ _ k
theorem tx {i:Nat} (h:∀ x e w,thn K Q x e w→Q' x e w) (k:Q (.exit i) e w):Q' (.exit i) e w:=h _ _ _ k
theorem bn {i:Nat} (h:∀ x e w,inb i Q x e w→Q' x e w) (k:Q .normal e w):Q' .normal e w:=h _ _ _ k
theorem br {i:Nat} (h:∀ x e w,inb i Q x e w→Q' x e w) (k:Q .ret e w):Q' .ret e w:=h _ _ _ k
theorem bS {i:Nat} (h:∀ x e w,inb i Q x e w→Q' x e w) (k:Q .normal e w):Q' (.exit i) e w:=h _ _ _ (Ai k)
theorem en (h:∀ x e w,thn K Q x e w→Q' x e w) (k:K e w):EL P n ops (fun e w=>Q' .normal e w) [] e w:=ae (h _ _ _ k)
theorem sn (h:∀ x e w,thn K Q x e w→Q' x e w) (k:K e w):CW P n .skip Q' e w:=bf (h _ _ _ k)
theorem pa (v:Value) (hK:EL P n ops K rest (upd e d v) w) (hx:ev e o=v:=by exact rfl) (hd:d<n:=by decide):EL P n ops K (⟨some d,.assign o,ty,pos,af,none⟩ :: rest) e w:=lh (fF hx) hd hK
theorem pm (v:Value) (hK:EL P n ops K rest (upd e d v) w) (hx:ev e o=v:=by exact rfl) (hd:d<n:=by decide):EL P n ops K (⟨some d,.move o,ty,pos,af,none⟩ :: rest) e w:=lh (ar hx) hd hK
theorem pM (v:Value) (hx:ev e o=v) (hK:EL P n ops K rest (upd e d v) w) (hd:d<n:=by decide):EL P n ops K (⟨some d,.move o,ty,pos,af,none⟩ :: rest) e w:=lh (ar hx) hd hK
theorem pe (v:Value) (hp:PV P ⟨some d,op,ty,pos,af,none⟩ e w v) (hK:EL P n ops K rest (upd e d v) w) (hd:d<n:=by decide):EL P n ops K (⟨some d,op,ty,pos,af,none⟩ :: rest) e w:=lh hp hd hK
theorem qe (v:Value) (hp:PV P ⟨some d,op,ty,pos,af,none⟩ e w v) (hK:QL P n ops w KQ rest (upd e d v)) (hd:d<n:=by decide):QL P n ops w KQ (⟨some d,op,ty,pos,af,none⟩ :: rest) e:=pp hp hd hK
theorem qm (v:Value) (hK:QL P n ops w KQ rest (upd e d v)) (hx:ev e o=v:=by exact rfl) (hd:d<n:=by decide):QL P n ops w KQ (⟨some d,.move o,ty,pos,af,none⟩ :: rest) e:=pp (ar hx) hd hK
theorem qM (v:Value) (hx:ev e o=v) (hK:QL P n ops w KQ rest (upd e d v)) (hd:d<n:=by decide):QL P n ops w KQ (⟨some d,.move o,ty,pos,af,none⟩ :: rest) e:=pp (ar hx) hd hK
theorem eo {j:Nat} {b b' c:Bool} (hc:c=b) (hK:EL P n ops K rest (upd e d undef) w) (h:yld ops e j=some c:=by exact rfl) (hb:(b == b')=false:=by exact rfl) (hd:d<n:=by decide):EL P n ops K (⟨some d,op,ty,pos,af,some (j,b')⟩ :: rest) e w:=yt h hc hb hd hK
theorem qo {j:Nat} {b b' c:Bool} (hc:c=b) (hK:QL P n ops w KQ rest (upd e d undef)) (h:yld ops e j=some c:=by exact rfl) (hb:(b == b')=false:=by exact rfl) (hd:d<n:=by decide):QL P n ops w KQ (⟨some d,op,ty,pos,af,some (j,b')⟩ :: rest) e:=ym h hc hb hd hK
theorem ei {j:Nat} {b c:Bool} {dst:Option Nat} (hc:c=b) (hK:EL P n ops K (⟨dst,op,ty,pos,af,none⟩ :: rest) e w) (h:yld ops e j=some c:=by exact rfl):EL P n ops K (⟨dst,op,ty,pos,af,some (j,b)⟩ :: rest) e w:=Ag h hc hK
theorem qi {j:Nat} {b c:Bool} {dst:Option Nat} (hc:c=b) (hK:QL P n ops w KQ (⟨dst,op,ty,pos,af,none⟩ :: rest) e) (h:yld ops e j=some c:=by exact rfl):QL P n ops w KQ (⟨dst,op,ty,pos,af,some (j,b)⟩ :: rest) e:=zY h hc hK
theorem ct {b:Bool} (hb:b=true) (h:CW P n c Q e w) (hc:ev e o=.bool b:=by exact rfl):CW P n (.cond o c y) Q e w:=ve hc hb h
theorem cf {b:Bool} (hb:b=false) (h:CW P n y Q e w) (hc:ev e o=.bool b:=by exact rfl):CW P n (.cond o c y) Q e w:=tV hc hb h
theorem rB {a b:Bool} {Γ:List Asn} (h:some a=some b) (hS:Sat w0 w Γ):Ending.returned (.bool a)=.returned (.bool b)∧Ext w0 w:=⟨by rw [Option.some.inj h],hS.below⟩
theorem rI {a b:Int} {Γ:List Asn} (h:some a=some b) (hS:Sat w0 w Γ):Ending.returned (.int .i64 a)=.returned (.int .i64 b)∧Ext w0 w:=⟨by rw [Option.some.inj h],hS.below⟩
abbrev i_ (x:Int):Value:=.int .i64 x
abbrev n_:Value:=.slice none 0 0
theorem ec0 {f:FuncId} {args:Array Operand} {tys:Array TypeId} {vals:Array Value} {Γ:List Asn} (hg:Goes P f) (hc:Calls P f vals w fun x w'=>x=.returned v∧Ext w w') (hv:(args.toList.map (ev e)).toArray=vals) (S:Sat w0 w Γ)
  (hK:∀ w',Ext w w'→Sat w0 w' Γ→EL P n ops K rest (upd e d v) w') (hd:d<n:=by decide):EL P n ops K (⟨some d,.call ⟨.value (.func f),args,tys⟩,ty,pos,af,none⟩ :: rest) e w :=
 bC hg hc hv hd (by rintro _ w' ⟨rfl,hx⟩;exact ⟨_,rfl,hK w' hx (S.ext hx)⟩)
theorem ec1 {f:FuncId} {args:Array Operand} {tys:Array TypeId} {vals:Array Value} {Γ:List Asn} {G:Value→Value} {A:Value→Asn} (hg:Goes P f) (hc:Calls P f vals w fun x w'=>∃ v,x=.returned (G v)∧Sat w w' [A v]) (hv:(args.toList.map (ev e)).toArray=vals) (S:Sat w0 w Γ)
  (hK:∀ w' v,Ext w w'→Sat w0 w' (A v :: Γ)→EL P n ops K rest (upd e d (G v)) w') (hd:d<n:=by decide):EL P n ops K (⟨some d,.call ⟨.value (.func f),args,tys⟩,ty,pos,af,none⟩ :: rest) e w :=
 bC hg hc hv hd (by rintro _ w' ⟨v,rfl,S'⟩;exact ⟨_,rfl,hK w' v S'.below (S.call1 S')⟩)
theorem aO {X:List Nat} {C:World→Prop} (i:Nat) {f:Nat} {L:Array Bool} (ho:ops[i]? = some q1)
  (h:EL P n ops (fun e' w'=>(X.contains i=true→C w')∧AL P n ops X C K f (L.setIfInBounds i true) e' w') [q1] e w) (hr:Region.ready .any ops L=[i]:=by kernel_rfl):AL P n ops X C K (f+1) L e w:=yr i hr ho h
theorem aP {X:List Nat} {C:World→Prop} (v:Value) (i:Nat) {f:Nat} {L:Array Bool} (hi:ops[i]? = some q1) (hdst:q1.dst=some d) (hC:C w)
  (hy:SV P n ops C q1 e v) (hK:AL P n ops X C K f (L.setIfInBounds i true) (upd e d v) w) (hsel:jG ops=true:=by kernel_rfl) (hdn:d<n:=by decide) (hf:mG ops X L i q1=true:=by kernel_rfl) (hr:(Region.ready .any ops L).contains i=true:=by kernel_rfl):AL P n ops X C K (f+1) L e w:=vY hsel i hi hdst hdn hC hf hr hy hK
theorem ca {α β:Type} {f:α→β} {l:List α} {m:List β} (h:l.map f=m):(l.map f).toArray=m.toArray:=congrArg List.toArray h
theorem Sat.t1 {a0 a1:Asn} {Γ:List Asn} (h:Sat w0 w (a0 :: a1 :: Γ)):Sat w0 w (a1 :: a0 :: Γ):=h.top 1 rfl
theorem Sat.t2 {a0 a1 a2:Asn} {Γ:List Asn} (h:Sat w0 w (a0 :: a1 :: a2 :: Γ)):Sat w0 w (a2 :: a0 :: a1 :: Γ):=h.top 2 rfl
theorem Sat.t3 {a0 a1 a2 a3:Asn} {Γ:List Asn} (h:Sat w0 w (a0 :: a1 :: a2 :: a3 :: Γ)):Sat w0 w (a3 :: a0 :: a1 :: a2 :: Γ):=h.top 3 rfl
theorem Sat.t4 {a0 a1 a2 a3 a4:Asn} {Γ:List Asn} (h:Sat w0 w (a0 :: a1 :: a2 :: a3 :: a4 :: Γ)):Sat w0 w (a4 :: a0 :: a1 :: a2 :: a3 :: Γ):=h.top 4 rfl
theorem Sat.t5 {a0 a1 a2 a3 a4 a5:Asn} {Γ:List Asn} (h:Sat w0 w (a0 :: a1 :: a2 :: a3 :: a4 :: a5 :: Γ)):Sat w0 w (a5 :: a0 :: a1 :: a2 :: a3 :: a4 :: Γ):=h.top 5 rfl
theorem Sat.t6 {a0 a1 a2 a3 a4 a5 a6:Asn} {Γ:List Asn} (h:Sat w0 w (a0 :: a1 :: a2 :: a3 :: a4 :: a5 :: a6 :: Γ)):Sat w0 w (a6 :: a0 :: a1 :: a2 :: a3 :: a4 :: a5 :: Γ):=h.top 6 rfl
theorem Sat.t7 {a0 a1 a2 a3 a4 a5 a6 a7:Asn} {Γ:List Asn} (h:Sat w0 w (a0 :: a1 :: a2 :: a3 :: a4 :: a5 :: a6 :: a7 :: Γ)):Sat w0 w (a7 :: a0 :: a1 :: a2 :: a3 :: a4 :: a5 :: a6 :: Γ):=h.top 7 rfl
theorem Sat.t8 {a0 a1 a2 a3 a4 a5 a6 a7 a8:Asn} {Γ:List Asn} (h:Sat w0 w (a0 :: a1 :: a2 :: a3 :: a4 :: a5 :: a6 :: a7 :: a8 :: Γ)):Sat w0 w (a8 :: a0 :: a1 :: a2 :: a3 :: a4 :: a5 :: a6 :: a7 :: Γ):=h.top 8 rfl
theorem Sat.r0 {a0:Asn} {Γ:List Asn} (h:Sat w0 w (a0 :: Γ)):Sat w0 w (Γ):=h.rem 0 rfl
theorem Sat.r1 {a0 a1:Asn} {Γ:List Asn} (h:Sat w0 w (a0 :: a1 :: Γ)):Sat w0 w (a0 :: Γ):=h.rem 1 rfl
theorem Sat.r2 {a0 a1 a2:Asn} {Γ:List Asn} (h:Sat w0 w (a0 :: a1 :: a2 :: Γ)):Sat w0 w (a0 :: a1 :: Γ):=h.rem 2 rfl
theorem Sat.r3 {a0 a1 a2 a3:Asn} {Γ:List Asn} (h:Sat w0 w (a0 :: a1 :: a2 :: a3 :: Γ)):Sat w0 w (a0 :: a1 :: a2 :: Γ):=h.rem 3 rfl
theorem Sat.r4 {a0 a1 a2 a3 a4:Asn} {Γ:List Asn} (h:Sat w0 w (a0 :: a1 :: a2 :: a3 :: a4 :: Γ)):Sat w0 w (a0 :: a1 :: a2 :: a3 :: Γ):=h.rem 4 rfl
theorem Sat.r5 {a0 a1 a2 a3 a4 a5:Asn} {Γ:List Asn} (h:Sat w0 w (a0 :: a1 :: a2 :: a3 :: a4 :: a5 :: Γ)):Sat w0 w (a0 :: a1 :: a2 :: a3 :: a4 :: Γ):=h.rem 5 rfl
theorem Sat.r6 {a0 a1 a2 a3 a4 a5 a6:Asn} {Γ:List Asn} (h:Sat w0 w (a0 :: a1 :: a2 :: a3 :: a4 :: a5 :: a6 :: Γ)):Sat w0 w (a0 :: a1 :: a2 :: a3 :: a4 :: a5 :: Γ):=h.rem 6 rfl
end
theorem ta {α:Type} {R:Rep α} {w:World} (hsz:R.sz=1):∀ {xs:List α} {ccs:List Value} {f:List Nat},eL R w ccs xs f→∃ ts:List (Value × α × List Nat),ccs=ts.map (·.1)∧xs=ts.map (·.2.1)∧f=(ts.map (·.2.2)).flatten∧∀ t∈ts,R.own w [t.1] t.2.1 t.2.2
 | [],_,_,h=>by
  obtain ⟨rfl,rfl⟩:=h
  exact ⟨[],rfl,rfl,rfl,by simp⟩
 | x :: xs,_,_,h=>by
  obtain ⟨ec,rest,f1,f2,rfl,rfl,h1,h2⟩:=h
  obtain ⟨ts,rfl,rfl,rfl,h3⟩:=ta hsz h2
  have hl:=R.rd_len (R.own_rd h1)
  rw [hsz] at hl
  obtain ⟨c,rfl⟩:=List.length_eq_one_iff.1 hl
  refine ⟨(c,x,f1) :: ts,rfl,rfl,rfl,fun t ht=>?_⟩
  rcases List.mem_cons.1 ht with rfl | ht
  ·exact h1
  ·exact h3 t ht
theorem sH {α:Type} {R:Rep α} {w:World}:∀ {ts:List (Value × α × List Nat)},(∀ t∈ts,R.own w [t.1] t.2.1 t.2.2)→eL R w (ts.map (·.1)) (ts.map (·.2.1)) (ts.map (·.2.2)).flatten
 | [],_=>⟨rfl,rfl⟩
 | t :: _,h=>⟨[t.1],_,t.2.2,_,rfl,rfl,h t List.mem_cons_self,sH fun u hu=>h u (List.mem_cons_of_mem _ hu)⟩
theorem vp {α:Type} {R:Rep α} {w:World} (hsz:R.sz=1) {xs:List α} {ccs:List Value} {f:List Nat} (h:eL R w ccs xs f) {k p:Nat} (hk:k<xs.length) (hp:p<xs.length) {a b:Value} (ha:ccs[k]? = some a) (hb:ccs[p]? = some b) :
  ∃ f',f'.Perm f∧eL R w ((ccs.set k b).set p a) ((xs.set k xs[p]).set p xs[k]) f':=by
 obtain ⟨ts,rfl,rfl,rfl,h3⟩:=ta hsz h
 rw [List.length_map] at hk hp
 rw [List.getElem?_map,List.getElem?_eq_getElem hk] at ha
 rw [List.getElem?_map,List.getElem?_eq_getElem hp] at hb
 have ha:ts[k].1=a:=Option.some.inj ha
 have hb:ts[p].1=b:=Option.some.inj hb
 have hpm:=List.set_set_perm hk hp
 refine ⟨(((ts.set k ts[p]).set p ts[k]).map (·.2.2)).flatten,(hpm.map _).flatten,?_⟩
 have:=sH (R:=R) (w:=w) (ts:=(ts.set k ts[p]).set p ts[k]) fun t ht=>h3 t (hpm.mem_iff.1 ht)
 rw [List.map_set,List.map_set,List.map_set,List.map_set,ha,hb] at this
 rw [List.getElem_map,List.getElem_map]
 exact this
def oy {α:Type} (R:Rep α) (E:TypeId) (v:Value) (ys:List α) (p:Nat) (c:Value):Asn where
 holds w fp:=∃ g cap cur f2,v=.slice (some ⟨g,0,none⟩) ys.length cap∧w.heap[g]? = some (.cells cur E (0,0))∧ys.length≤cap∧cap≤maxLen∧cur.size=cap*R.sz∧R.sz=1∧p<ys.length∧eL R w ((cur.toList.take ys.length).set p c) ys f2∧fp=g :: f2
 ext h he:=by
  obtain ⟨g,cap,cur,f2,h1,h2,h3,h4,h5,h6,h7,h8,rfl⟩:=h
  exact ⟨g,cap,cur,f2,h1,by rw [he g List.mem_cons_self];exact h2,h3,h4,h5,h6,h7,gc h8 (fun b hb=>he b (List.mem_cons_of_mem _ hb)),rfl⟩
 lt h:=by
  obtain ⟨g,cap,cur,f2,h1,h2,h3,h4,h5,h6,h7,h8,rfl⟩:=h
  intro b hb
  rcases List.mem_cons.1 hb with rfl | hb
  ·exact (Array.getElem?_eq_some_iff.1 h2).1
  ·exact gP h8 b hb
section
variable {P:Program} {n:Nat} {K:Env→World→Prop} {e:Env} {w w0:World} {ops:Array Oper} {rest:List Oper} {ty:TypeId} {pos:String} {af:Array Edge}
variable {α:Type} {R:Rep α} {Γ:List Asn} {E:TypeId} {v:Value}
theorem qB {e:Env} {K:Env→World→Prop} {x y:Operand} {t:TypeId} {z:List Value} {bytes:Nat} [hz:ElemT P t z 1 bytes] {A B:Asn} {g o:Nat} {c:Value} {cur:Array Value}
  (hS:Sat w0 w (A :: Γ)) (hg:w.heap[g]? = some (.cells cur E (0,0))) (ho:o<cur.size) (hx:ev e x=.pointer (some ⟨g,o,none⟩)) (hy:(ev e y).cells=[c].toArray) (h1:c.oneCell'=true)
  (hAB:∀ w' fp,A.holds w fp→fp.Nodup→w'.heap[g]? = some (.cells (cur.toList.set o c).toArray E (0,0))→(∀ x,x≠g→x<w.heap.size→w'.heap[x]? = w.heap[x]?)→∃ fp',fp'.Perm fp∧g∈fp∧B.holds w' fp')
  (hK:∀ w',Sat w0 w' (B :: Γ)→EL P n ops K rest e w'):EL P n ops K (⟨none,.store t x y,ty,pos,af,none⟩ :: rest) e w:=by
 intro a ha
 refine wpList_plain rfl fun K' hK'=>?_
 have hz:=hz.h
 cases hi:P.info? t with
 | none=>simp [hi] at hz
 | some inf =>
  simp [hi] at hz
  have hh':w.heap[g]? = some (.cells cur.toList.toArray E (0,0)):=by simpa using hg
  obtain ⟨w',hr,hnew,hc⟩:=gi (P:=P) [c] o 0 cur.toList w hh' (by simp;omega) (by simpa using h1)
  have hsz:¬ ([c].toArray.size≠inf.size):=by simp;omega
  unfold Oper.wp execOp
  simp only [ha.eval,hx,Instr.storeAt,Instr.sureAddr,storeVar,sizeOf,typeInfo,hi,hy,Sem.run_bind,Sem.run_pure,run_program,Result.andThen_ok,hsz,if_false,Sem.run_ite,List.toList_toArray,hr,Oper.upon_skip]
  refine hK' _ _ (hK w' ?_ _ ha)
  refine hS.upd ?_
  intro fp hA hnd
  have hoth:∀ x,x≠g→x<w.heap.size→w'.heap[x]? = w.heap[x]?:=fun x hx hlt=>hc.block x hlt (by simpa using hx)
  have hnew':w'.heap[g]? = some (.cells (cur.toList.set o c).toArray E (0,0)):=by
   rw [hnew]
   have e:cur.toList.take (o+0)++[c]++cur.toList.drop (o+0+[c].length)=cur.toList.set o c:=by
    rw [List.set_eq_take_append_cons_drop,if_pos (by simpa using ho)]
    simp
   rw [← e]
  obtain ⟨fp',hp,hgm,hB⟩:=hAB w' fp hA hnd hnew' hoth
  exact ⟨fp',hB,hp.nodup_iff.2 hnd,hc.mono (by simpa using hgm),fun b hb=>.inl (hp.mem_iff.1 hb)⟩
theorem mP {e:Env} {K:Env→World→Prop} {x y:Operand} {t:TypeId} {z:List Value} {bytes:Nat} [hz:ElemT P t z 1 bytes] {xs ys:List α} {g cap g1 cap1 g2 cap2:Nat} {k p:Int} {a b:α} {ca cb:Value}
  (hS:Sat w0 w (Own (aG R E) [v] xs :: Γ)) (hv:v=.slice (some ⟨g,0,none⟩) xs.length cap) (hv1:v=.slice (some ⟨g1,0,none⟩) xs.length cap1) (hv2:v=.slice (some ⟨g2,0,none⟩) xs.length cap2) (hsz:R.sz=1) (ha:ix xs k=some a) (hb:ix xs p=some b) (hca:∀ j c,[ca][j]? = some c→w.cell? ⟨g1,k.toNat*1+j,none⟩=some c) (hcb:∀ j c,[cb][j]? = some c→w.cell? ⟨g2,p.toNat*1+j,none⟩=some c)
  (hy1:sto xs k b=some ys) (hx:ev e x=.pointer (some ⟨g,k.toNat*1,none⟩)) (hy:(ev e y).cells=[cb].toArray) (h1:cb.oneCell'=true)
  (hK:∀ w',Sat w0 w' (oy R E v (ys.set p.toNat a) p.toNat ca :: Γ)→EL P n ops K rest e w'):EL P n ops K (⟨none,.store t x y,ty,pos,af,none⟩ :: rest) e w:=by
 obtain ⟨rfl,rfl⟩:g=g1∧cap=cap1:=by rw [hv] at hv1;simpa using hv1
 obtain ⟨rfl,rfl⟩:g=g2∧cap=cap2:=by rw [hv] at hv2;simpa using hv2
 clear hv1 hv2
 obtain ⟨k,rfl,hk,rfl⟩:=eQ ha
 obtain ⟨p,rfl,hp,rfl⟩:=eQ hb
 have ey:ys=xs.set k xs[p]:=by
  unfold sto at hy1;split at hy1
  ·exact (Option.some.inj hy1).symm
  ·cases hy1
 subst ey hv
 simp only [Int.toNat_natCast,Nat.mul_one] at hx hca hcb hK
 obtain ⟨fp,hv,_⟩:=hS.head
 rcases hv with ⟨_,h2,_⟩ | ⟨g',cap',cur,ccs,f2,hv,hg,k1,k2,k3,k4,k5,rfl⟩
 ·subst h2;simp at hk
 obtain ⟨rfl,rfl⟩:g=g'∧cap=cap':=by simpa using hv
 rw [hsz,Nat.mul_one] at k4
 have hcur:xs.length≤cur.size:=by rw [k3,hsz];omega
 have at1:∀ {i:Nat} {c:Value},i<xs.length→w.cell? ⟨g,i+0,none⟩=some c→(cur.toList.take xs.length)[i]? = some c:=by
  intro i c hi h
  rw [cell_of_row w g _ cur E (0,0) hg,← Array.getElem?_toList,Nat.add_zero] at h
  rw [List.getElem?_take,if_pos hi];exact h
 have hA:=at1 hk (hca 0 ca rfl)
 have hB:=at1 hp (hcb 0 cb rfl)
 refine qB (B:=oy R E (.slice (some ⟨g,0,none⟩) xs.length cap) ((xs.set k xs[p]).set p xs[k]) p ca) hS hg (by omega) hx hy h1 ?_ hK
 intro w' fp2 hA2 hnd hnew hoth
 rcases hA2 with ⟨_,h2,_⟩ | ⟨g',cap',cur',ccs',f3,hv',hg',m1,m2,m3,m4,m5,rfl⟩
 ·subst h2;simp at hk
 obtain ⟨rfl,rfl⟩:g=g'∧cap=cap':=by simpa using hv'
 obtain ⟨rfl⟩:cur'=cur:=by rw [hg] at hg';simpa using hg'.symm
 rw [hsz,Nat.mul_one] at m4
 subst m4
 obtain ⟨f',hpm,hsw⟩:=vp hsz m5 hk hp hA hB
 refine ⟨g :: f',hpm.cons g,List.mem_cons_self,g,cap,_,f',by simp,hnew,by simpa using m1,m2,by simpa using m3,hsz,by simpa using hp,?_,rfl⟩
 have hgn:g∉f3:=(List.nodup_cons.1 hnd).1
 have e:((cur.toList.set k cb).toArray.toList.take ((xs.set k xs[p]).set p xs[k]).length).set p ca=((cur.toList.take xs.length).set k cb).set p ca:=by
  rw [List.length_set,List.length_set,List.take_set]
 rw [e]
 exact gc hsw fun b hb=>hoth b (fun eb=>hgn (hpm.mem_iff.1 (eb ▸ hb))) (gP m5 b (hpm.mem_iff.1 hb))
theorem mK {e:Env} {K:Env→World→Prop} {x y:Operand} {t:TypeId} {z:List Value} {bytes:Nat} [hz:ElemT P t z 1 bytes] {xs ys:List α} {g cap ln:Nat} {p:Int} {a:α} {ca:Value}
  (hS:Sat w0 w (oy R E v (xs.set p.toNat a) p.toNat ca :: Γ)) (hv:v=.slice (some ⟨g,0,none⟩) ln cap) (hy1:sto xs p a=some ys) (hx:ev e x=.pointer (some ⟨g,p.toNat*1,none⟩)) (hy:(ev e y).cells=[ca].toArray) (h1:ca.oneCell'=true)
  (hK:∀ w',Sat w0 w' (Own (aG R E) [v] ys :: Γ)→EL P n ops K rest e w'):EL P n ops K (⟨none,.store t x y,ty,pos,af,none⟩ :: rest) e w:=by
 have ey:ys=xs.set p.toNat a:=by
  unfold sto at hy1;split at hy1
  ·exact (Option.some.inj hy1).symm
  ·cases hy1
 rw [← ey] at hS
 clear ey hy1
 rw [Nat.mul_one] at hx
 obtain ⟨fp,⟨g',cap',cur,f2,k1,k2,k3,k4,k5,k6,k7,k8,rfl⟩,_⟩:=hS.head
 subst k1
 obtain ⟨rfl,rfl,rfl⟩:g'=g∧ys.length=ln∧cap'=cap:=by simpa using hv
 rw [k6,Nat.mul_one] at k5
 refine qB (B:=Own (aG R E) [.slice (some ⟨g',0,none⟩) ys.length cap'] ys) hS k2 (by omega) hx hy h1 ?_ hK
 intro w' fp2 hA2 hnd hnew hoth
 obtain ⟨g2,cap2,cur2,f3,m1,m2,m3,m4,m5,m6,m7,m8,rfl⟩:=hA2
 obtain ⟨rfl,rfl⟩:g'=g2∧cap'=cap2:=by simpa using m1
 obtain ⟨rfl⟩:cur2=cur:=by rw [k2] at m2;simpa using m2.symm
 have hgn:g'∉f3:=(List.nodup_cons.1 hnd).1
 refine ⟨g' :: f3,.refl _,List.mem_cons_self,.inr ⟨g',cap',_,_,f3,rfl,hnew,m3,m4,by simpa using m5,rfl,?_,rfl⟩⟩
 have e:(cur.toList.set p.toNat ca).toArray.toList.take (ys.length*R.sz)=(cur.toList.take ys.length).set p.toNat ca:=by
  rw [m6,Nat.mul_one,List.take_set]
 rw [e]
 exact gc m8 fun b hb=>hoth b (fun eb=>hgn (eb ▸ hb)) (gP m8 b hb)
end
def hY {α:Type} (w0:World) (R:Rep α):Rep α where
 sz:=R.sz
 rd w cs x:=R.rd w0 cs x∨R.rd w cs x
 own w cs x fp:=R.rd w0 cs x∧fp=[]∨R.own w cs x fp
 rd_len h:=by rcases h with h | h <;> exact R.rd_len h
 rd_one h:=by rcases h with h | h <;> exact R.rd_one h
 rd_ext h he:=h.imp id fun h=>R.rd_ext h he
 own_rd h:=h.imp (·.1) R.own_rd
 own_ext h he:=h.imp id fun h=>R.own_ext h he
 own_lt h:=by
  rcases h with h | h
  ·rw [h.2];simp
  ·exact R.own_lt h
theorem qA {α:Type} {R:Rep α} {w w0:World} (hx:Ext w0 w):∀ {xs:List α} {ccs:List Value},rdL (hY w0 R) w ccs xs→rdL R w ccs xs
 | [],_,h=>h
 | x :: xs,_,h=>by
  obtain ⟨ec,rest,rfl,h1,h2⟩:=h
  refine ⟨ec,rest,rfl,?_,qA hx h2⟩
  rcases h1 with h1 | h1
  ·exact R.rd_ext h1 hx
  ·exact h1
theorem Sat.unmix {α:Type} {R:Rep α} {w w0:World} {Γ:List Asn} {E:TypeId} {cs:List Value} {xs:List α} (hS:Sat w0 w Γ) (h:(aG (hY w0 R) E).rd w cs xs):(aG R E).rd w cs xs:=by
 obtain ⟨ao,cap,ccs,h1,h2,h3,h4,h5,h6⟩:=h
 exact ⟨ao,cap,ccs,h1,h2,h3,h4,qA hS.below h5,h6⟩
theorem Sat.mixRo {α:Type} {R:Rep α} {w w0:World} {Γ:List Asn} {cs:List Value} {x:α} (hS:Sat w0 w Γ) (h:R.rd w0 cs x):Sat w0 w (Own (hY w0 R) cs x :: Γ):=hS.add (.inl ⟨h,rfl⟩)
theorem Sat.mixOwn {α:Type} {R:Rep α} {w w0:World} {Γ:List Asn} {cs:List Value} {x:α} (hS:Sat w0 w (Own R cs x :: Γ)):Sat w0 w (Own (hY w0 R) cs x :: Γ):=hS.conv fun _ h=>.inr h
theorem q9 {α:Type} {R:Rep α} {W w w2:World}:∀ {xs:List α} {ccs:List Value},rdL (roR W R) w ccs xs→eL (hY W R) w2 ccs xs []
 | [],_,h=>⟨h,rfl⟩
 | x :: xs,_,h=>by
  obtain ⟨ec,rest,rfl,h1,h2⟩:=h
  exact ⟨ec,rest,[],[],rfl,rfl,.inl ⟨h1,rfl⟩,q9 h2⟩
theorem Sat.mixL {α:Type} {R:Rep α} {W w w0 w2:World} {Γ:List Asn} {ccs:List Value} {xs:List α} (hS:Sat w0 w Γ) (h:rdL (roR W R) w2 ccs xs):Sat w0 w (nt (hY W R) ccs xs :: Γ):=hS.add (q9 h)
theorem lI {P:Program} {t:TypeId} {k:IntKind} (ht:P.underlying t=some (.int k)) {cs:Array Value} {off:Nat} {c:Value} (hc:cs[off]? = some c) (w:World):(part t cs off).run P w=.ok c w:=by
 have hagg:(isAgg t).run P w=.ok false w:=by
  unfold isAgg
  rw [Sem.run_bind,run_underlying ht w]
  simp
 simp [part,Sem.run_bind,hagg,hc]
theorem w4 {P:Program} {t:TypeId} {fs:Array Field} {f g:Field} {k1 k2:IntKind} (h1:P.underlying t=some (.struct fs)) (hfs:fs.toList=[f,g]) (n1:f.name≠ "_") (n2:g.name≠ "_") (o1:f.offset=0) (o2:g.offset=1) (t1:P.underlying f.type=some (.int k1)) (t2:P.underlying g.type=some (.int k2)) (hp:P.stoodInHeld t=false) (a b c d:Int) (w:World) :
  (Op.equalIn 10000 t (.agg #[.int .i64 a,.int .i64 b]) (.agg #[.int .i64 c,.int .i64 d])).run P w=.ok (a == c&&b == d) w:=by
 have hF:P.fieldsOf t=fs:=by unfold Program.fieldsOf;rw [h1]
 rw [run_equalIn_struct w 9999 t _ _ (by rw [hF];exact h1) hp,hF,hfs]
 unfold Op.eqFields
 rw [if_pos n1]
 simp only [Sem.run_bind,o1]
 rw [lI t1 (c:=.int .i64 a) rfl,Result.andThen_ok,lI t1 (c:=.int .i64 c) rfl,Result.andThen_ok,run_equalIn_int w 9998 f.type .i64 k1 a c t1,Result.andThen_ok,Sem.run_ite]
 cases hac:(a == c) with
 | false=>rw [if_pos (by rfl),Sem.run_pure,Bool.false_and]
 | true =>
  rw [if_neg (by decide),Bool.true_and]
  unfold Op.eqFields
  rw [if_pos n2]
  simp only [Sem.run_bind,o2]
  rw [lI t2 (c:=.int .i64 b) rfl,Result.andThen_ok,lI t2 (c:=.int .i64 d) rfl,Result.andThen_ok,run_equalIn_int w 9998 g.type .i64 k2 b d t2,Result.andThen_ok,Sem.run_ite]
  unfold Op.eqFields
  cases hbd:(b == d) with
  | false=>rw [if_pos (by rfl),Sem.run_pure]
  | true=>rw [if_neg (by decide),Sem.run_pure]
theorem s9 {P:Program} {e:Env} {w:World} {ty:TypeId} {pos:String} {af:Array Edge} {o:Option Nat} {x y:Operand} {t u:TypeId} {fs:Array Field} {f g:Field} {k1 k2:IntKind} (h1:P.underlying t=some (.struct fs)) (hfs:fs.toList=[f,g]) (n1:f.name≠ "_") (n2:g.name≠ "_") (o1:f.offset=0) (o2:g.offset=1) (t1:P.underlying f.type=some (.int k1)) (t2:P.underlying g.type=some (.int k2)) (hp:P.stoodInHeld t=false) (hm:P.eqGuardType P.depth t=false) {a b c d:Int} (hx:ev e x=.agg #[.int .i64 a,.int .i64 b]) (hy:ev e y=.agg #[.int .i64 c,.int .i64 d]) :
  PV P ⟨o,.binOp .neq t x y u,ty,pos,af,none⟩ e w (.bool (!(a == c&&b == d))):=fun w' _=>by
 have g1:=run_eqGuard_agg (P:=P) w' .neq t x y #[.int .i64 a,.int .i64 b] #[.int .i64 c,.int .i64 d] hm
 have g2:=run_neq_struct (P:=P) w' t #[.int .i64 a,.int .i64 b] #[.int .i64 c,.int .i64 d]
 rw [w4 h1 hfs n1 n2 o1 o2 t1 t2 hp] at g2
 unfold execOp
 simp only [hx,hy,Sem.run_bind,g1,g2,Result.andThen_ok,Sem.run_pure]
theorem Sat.unfrz {α:Type} {R:Rep α} {w w0 W:World} {Γ:List Asn} {F:List Nat} {cs:List Value} {x:α} (hS:Sat w0 w (Frz W F :: Γ)) (ho:R.own W cs x F):Sat w0 w (Own R cs x :: Γ) :=
 hS.conv fun f h=>by
  obtain ⟨rfl,h2,_⟩:=h
  exact R.own_ext ho h2
theorem rh {α:Type} {R:Rep α} {w:World}:∀ {xs:List α} {ccs:List Value} {f:List Nat},eL R w ccs xs f→∀ (k p:Nat) (hk:k<xs.length) (hp:p<xs.length),k≠p →
  ∃ ec f1 f2 f3 ep fp,R.own w ec xs[k] f2∧f=f1++(f2++f3)∧(∀ j c,ec[j]? = some c→ccs[k*R.sz+j]? = some c) ∧
   (∀ w' y f',(∀ b∈f1++f3,w'.heap[b]? = w.heap[b]?)→R.own w' ec y f'→eL R w' ccs (xs.set k y) (f1++(f'++f3))) ∧
   R.own w ep xs[p] fp∧(∀ b∈fp,b∈f1++f3)∧∀ j c,ep[j]? = some c→ccs[p*R.sz+j]? = some c
 | [],_,_,_,k,_,hk,_,_=>absurd hk (by simp)
 | x :: xs,_,_,h,k,p,hk,hp,hne=>by
  have hh:=h
  obtain ⟨ec,rest,f1,f2,rfl,rfl,h1,h2⟩:=h
  have hd:∀ j c,ec[j]? = some c→(ec++rest)[0*R.sz+j]? = some c:=fun j c hj=>by
   have hlt:j<ec.length:=(List.getElem?_eq_some_iff.1 hj).1
   rw [Nat.zero_mul,Nat.zero_add,List.getElem?_append_left hlt];exact hj
  have tl:∀ (q:Nat) (e':List Value),(∀ j c,e'[j]? = some c→rest[q*R.sz+j]? = some c)→∀ j c,e'[j]? = some c→(ec++rest)[(q+1)*R.sz+j]? = some c:=fun q e' h3 j c hj=>by
   have e:(q+1)*R.sz+j=ec.length+(q*R.sz+j):=by rw [R.rd_len (R.own_rd h1),Nat.add_mul];omega
   rw [e,List.getElem?_append_right (by omega),Nat.add_sub_cancel_left]
   exact h3 j c hj
  cases k with
  | zero =>
   cases p with
   | zero=>exact absurd rfl hne
   | succ p =>
    obtain ⟨ep,g1,g2,g3,k1,rfl,k3,_⟩:=kn h2 p (by simpa using hp)
    refine ⟨ec,[],f1,_,ep,g2,h1,rfl,hd,fun w' y f' he ho=>?_,by simpa using k1,fun b hb=>by simp [hb],tl p ep k3⟩
    exact ⟨ec,rest,f',_,rfl,rfl,ho,gc h2 fun b hb=>he b (by simpa using hb)⟩
  | succ k =>
   cases p with
   | zero =>
    obtain ⟨ec',g1,g2,g3,k1,rfl,k3,k4⟩:=kn h2 k (by simpa using hk)
    refine ⟨ec',f1++g1,g2,g3,ec,f1,by simpa using k1,by simp,tl k ec' k3,fun w' y f' he ho=>?_,h1,fun b hb=>by simp [hb],hd⟩
    refine ⟨ec,rest,f1,g1++(f'++g3),rfl,by simp,R.own_ext h1 fun b hb=>he b (by simp [hb]),k4 w' y f' (fun b hb=>he b ?_) ho⟩
    rcases List.mem_append.1 hb with h | h <;> simp [h]
   | succ p =>
    obtain ⟨ec',g1,g2,g3,ep,fp,k1,rfl,k3,k4,k5,k6,k7⟩:=rh h2 k p (by simpa using hk) (by simpa using hp) (by omega)
    refine ⟨ec',f1++g1,g2,g3,ep,fp,by simpa using k1,by simp,tl k ec' k3,fun w' y f' he ho=>?_,by simpa using k5,fun b hb=>?_,tl p ep k7⟩
    ·refine ⟨ec,rest,f1,g1++(f'++g3),rfl,by simp,R.own_ext h1 fun b hb=>he b (by simp [hb]),k4 w' y f' (fun b hb=>he b ?_) ho⟩
     rcases List.mem_append.1 hb with h | h <;> simp [h]
    ·rcases List.mem_append.1 (k6 b hb) with h | h <;> simp [h]
theorem Sat.takeOutF {α:Type} {R:Rep α} {w w0:World} {Γ:List Asn} {E:TypeId} {v:Value} {xs:List α} {g ln cap g9 ln9 cap9 m:Nat} {i p:Int} {u up:α} {ec ep:List Value} (hS:Sat w0 w (Own (aG R E) [v] xs :: Γ)) (hv:v=.slice (some ⟨g,0,none⟩) ln cap) (hv9:v=.slice (some ⟨g9,0,none⟩) ln9 cap9) (h:ix xs i=some u) (hp:ix xs p=some up) (hne:i≠p) (hn:R.sz=m) (hl:ec.length=m) (hlp:ep.length=m)
  (hm:∀ j c,ec[j]? = some c→w.cell? ⟨g,i.toNat*m+j,none⟩=some c) (hmp:∀ j c,ep[j]? = some c→w.cell? ⟨g9,p.toNat*m+j,none⟩=some c) :
  ∃ F Fp,R.own w ep up Fp∧(∀ q∈Fp,q∈F)∧(qk R E v xs i.toNat ec).holds w F∧Sat w0 w (Own R ec u :: Frz w F :: Γ):=by
 obtain ⟨k,rfl,hk,rfl⟩:=eQ h
 obtain ⟨q,rfl,hq,rfl⟩:=eQ hp
 subst hv hn
 obtain ⟨rfl,rfl,rfl⟩:g=g9∧ln=ln9∧cap=cap9:=by simpa using hv9
 obtain ⟨hb,_,⟨f0,fr,rfl,hf,hr⟩,hnd,h3'⟩:=hS
 rcases hf with ⟨_,h2,_⟩ | ⟨g',cap',cur,ccs,fe,hv,hg,h1,h2,h3,h4,h5,rfl⟩
 ·subst h2;simp at hk
 obtain ⟨rfl,rfl,rfl⟩:g=g'∧ln=xs.length∧cap=cap':=by simpa using hv
 obtain ⟨ec',f1,f2,f3,ep',fp,k1,rfl,k3,k4,k5,k6,k7⟩:=rh h5 k q hk hq (by omega)
 have same:∀ (r:Nat) (a b:List Value),a.length=R.sz→b.length=R.sz→(∀ j c,a[j]? = some c→w.cell? ⟨g,(r:Int).toNat*R.sz+j,none⟩=some c)→(∀ j c,b[j]? = some c→ccs[r*R.sz+j]? = some c)→a=b:=fun r a b ha hb' e1 e2=>by
  refine List.ext_getElem (by rw [ha,hb']) fun j hj1 hj2=>?_
  have e1:=e1 j a[j] (List.getElem?_eq_getElem hj1)
  have e2:=e2 j b[j] (List.getElem?_eq_getElem hj2)
  simp only [Int.toNat_natCast] at e1
  rw [cell_of_row w g _ cur E (0,0) hg,← Array.getElem?_toList] at e1
  rw [← h4,List.getElem?_take] at e2
  split at e2
  ·rw [e1] at e2;exact Option.some.inj e2
  ·cases e2
 obtain rfl:=same k ec ec' hl (R.rd_len (R.own_rd k1)) hm k3
 obtain rfl:=same q ep ep' hlp (R.rd_len (R.own_rd k5)) hmp k7
 have hH:(qk R E (.slice (some ⟨g,0,none⟩) xs.length cap) xs (k:Int).toNat ec).holds w (g :: (f1++f3)):=by
  refine ⟨fun b hb=>?_,fun w' y f' he ho=>⟨g :: (f1++(f'++f3)),?_,.inr ⟨g,cap,cur,ccs,_,by simp,by rw [he g (by simp)];exact hg,by simpa using h1,h2,h3,by simpa using h4,by
   simp only [Int.toNat_natCast]
   exact k4 w' y f' (fun b hb=>he b (List.mem_cons_of_mem _ hb)) ho,rfl⟩⟩⟩
  ·rcases List.mem_cons.1 hb with rfl | hb
   ·exact (Array.getElem?_eq_some_iff.1 hg).1
   ·refine gP h5 b ?_
    rcases List.mem_append.1 hb with h | h <;> simp [h]
  ·refine .trans (.cons _ ?_) List.perm_middle.symm
   rw [← List.append_assoc,← List.append_assoc]
   exact List.Perm.append_right _ List.perm_append_comm
 have hpp:(f2++(g :: (f1++f3)++fr)).Perm ((g :: (f1++(f2++f3)))++fr):=by
  rw [← List.append_assoc]
  refine List.Perm.append_right _ ?_
  refine List.perm_middle.trans (.cons _ ?_)
  rw [← List.append_assoc,← List.append_assoc]
  exact List.Perm.append_right _ List.perm_append_comm
 exact ⟨g :: (f1++f3),fp,k5,fun b hb=>List.mem_cons_of_mem _ (k6 b hb),hH,hb,f2++(g :: (f1++f3)++fr),⟨f2,_,rfl,k1,_,fr,rfl,⟨rfl,fun _ _=>rfl,hH.1⟩,hr⟩,hpp.nodup_iff.2 hnd,fun b hb=>h3' b (hpp.mem_iff.1 hb)⟩
theorem Sat.putBackF {α:Type} {R:Rep α} {w w0 W:World} {Γ:List Asn} {E:TypeId} {v:Value} {F:List Nat} {xs ys:List α} {i:Int} {y:α} {ec:List Value} (hS:Sat w0 w (Own R ec y :: Frz W F :: Γ)) (hh:(qk R E v xs i.toNat ec).holds W F) (h:sto xs i y=some ys):Sat w0 w (Own (aG R E) [v] ys :: Γ):=by
 have e:ys=xs.set i.toNat y:=by
  unfold sto at h;split at h
  ·exact (Option.some.inj h).symm
  ·cases h
 subst e
 refine hS.joinp fun f g h1 h2=>?_
 obtain ⟨rfl,h3,_⟩:=h2
 exact hh.2 w y f h3 h1
theorem tT {a b:Int} (h:(a != b)=true):a≠b:=by simpa using h
class FreeR {α:Type} (R:Rep α):Prop where
 h:∀ {w w2:World} {cs:List Value} {x:α},R.rd w cs x→R.own w2 cs x []
instance:FreeR bW:=⟨fun h=>⟨h,rfl⟩⟩
instance {α β:Type} {R:Rep α} {S:Rep β} [hR:FreeR R] [hS:FreeR S]:FreeR (mm R S):=⟨fun h=>by
 obtain ⟨c1,c2,rfl,h1,h2⟩:=h
 exact ⟨c1,c2,[],[],rfl,rfl,hR.h h1,hS.h h2⟩⟩
theorem qH {α:Type} {R:Rep α} [hR:FreeR R] {w w2:World}:∀ {xs:List α} {ccs:List Value},rdL R w ccs xs→eL R w2 ccs xs []
 | [],_,h=>⟨h,rfl⟩
 | x :: xs,_,h=>by
  obtain ⟨ec,rest,rfl,h1,h2⟩:=h
  exact ⟨ec,rest,[],[],rfl,rfl,hR.h h1,qH h2⟩
theorem nX {α:Type} {R:Rep α} {w:World} {E:TypeId} {v:Value} {xs:List α} (h:(aG R E).rd w [v] xs):∃ ao c ccs,v=.slice ao xs.length c∧(ao=none→c=0)∧lH w ao ccs∧rdL R w ccs xs:=by
 obtain ⟨ao,cap,ccs,hv,h1,h2,h3,h4,h5⟩:=h
 exact ⟨ao,cap,ccs,by simpa using hv,h3,h5,h4⟩
theorem Sat.freeL {α:Type} {R:Rep α} [FreeR R] {w w0 w2:World} {Γ:List Asn} {ccs:List Value} {xs:List α} (hS:Sat w0 w Γ) (h:rdL R w2 ccs xs):Sat w0 w (nt R ccs xs :: Γ):=hS.add (qH h)
section
variable {P:Program} {n:Nat} {ops:Array Oper} {X:List Nat} {C:World→Prop} {K:Env→World→Prop}
theorem v9 {o:Oper} {K1 K2:Env→World→Prop} {e:Env} {w:World} (h:∀ e w,K1 e w→K2 e w) (hE:EL P n ops K1 [o] e w):EL P n ops K2 [o] e w:=by
 intro a ha
 have:=hE a ha
 unfold wpList at this ⊢
 have key:∀ a w,wpList P ops (nrm n K1) [] a w→wpList P ops (nrm n K2) [] a w:=by
  rintro a w ⟨h0,e',ha',h2⟩
  exact ⟨h0,e',ha',h _ _ h2⟩
 split
 ·rename_i hw
  rw [if_pos hw] at this
  rcases this with h1 | ⟨_,h1⟩
  ·exact .inl (ut key h1)
  ·exact absurd h1 pD
 ·rename_i hw
  rw [if_neg hw] at this
  exact key _ _ this
theorem s5 {X':List Nat} {C':World→Prop} (hC:∀ j w',(X'.contains j=true→C' w')→X.contains j=true→C w'):∀ (f:Nat) (L:Array Bool) (e:Env) (w:World),AL P n ops X' C' K f L e w→AL P n ops X C K f L e w
 | 0,_,_,_,h=>h
 | f+1,_,_,_,h=>⟨h.1,fun i hi=>by
   obtain ⟨o,ho,hE⟩:=h.2 i hi
   exact ⟨o,ho,v9 (fun e' w' h12=>⟨hC i w' h12.1,s5 hC _ _ _ _ h12.2⟩) hE⟩⟩
theorem qY (X':List Nat) {f:Nat} {L:Array Bool} {e:Env} {w:World} (h:AL P n ops X' (fun w'=>w'=w) K f L e w):AL P n ops X (fun _=>True) K f L e w:=s5 (fun _ _ _ _=>trivial) _ _ _ _ h
theorem eT {o:Oper} {e:Env} {v:Value} {wA:World} (hg:o.guard=none) (h:PV P o e wA v):SV P n ops (fun w'=>w'=wA) o e v:=fun a ha=>.inl ⟨by simp [Region.wanted,hg],fun w' hw'=>by subst hw';rw [ha.eval];exact h _ (Ext.refl _)⟩
theorem dE {dst:Option Nat} {op:Op} {ty:TypeId} {pos:String} {af:Array Edge} {j:Nat} {b c:Bool} {e:Env} {v:Value} {wA:World} (hy:yld ops e j=some c) (hc:c=b) (h:PV P ⟨dst,op,ty,pos,af,none⟩ e wA v):SV P n ops (fun w'=>w'=wA) ⟨dst,op,ty,pos,af,some (j,b)⟩ e v :=
 wj hy hc fun w' hw'=>by subst hw';exact h
variable {wA w w0:World} {v:Value} {d:Nat} {ty:TypeId} {pos:String} {af:Array Edge} {x y:Operand} {α:Type} {R:Rep α} {E E':TypeId} {f:Nat} {L:Array Bool} {e:Env} {Γ:List Asn}
theorem qL {dd:Option Nat} {t:TypeId} [ht:SliceT P t E] {zz:List Value} {m bytes:Nat} [hz:ElemT P E zz m bytes] {xs:List α} (hS:Sat w0 w (Own (aG R E) [v] xs :: Γ)) (hs:ev e x=v)
  (hn:R.sz=m) {k:IntKind} {i:Int} (hi:ev e y=.int k i) {u:α} (h:ix xs i=some u) :
  ∃ g cap ec,v=.slice (some ⟨g,0,none⟩) xs.length cap∧R.rd w ec u∧(∀ j c,ec[j]? = some c→w.cell? ⟨g,i.toNat*m+j,none⟩=some c)∧∀ w',PV P ⟨dd,.indexAddr t x y,ty,pos,af,none⟩ e w' (.pointer (some ⟨g,i.toNat*m,none⟩)):=by
 obtain ⟨k',rfl,hk,rfl⟩:=eQ h
 obtain ⟨fp,hv,_⟩:=hS.head
 rcases hv with ⟨_,h2,_⟩ | ⟨g,cap,cur,ccs,f2,hv,hg,h1,h2,h3,h4,h5,rfl⟩
 ·subst h2;simp at hk
 obtain rfl:v=.slice (some ⟨g,0,none⟩) xs.length cap:=by simpa using hv
 obtain ⟨ec,hec,hcc⟩:=lv (gB h5) k' hk
 have hz:=hz.h
 cases hq:P.info? E with
 | none=>simp [hq] at hz
 | some inf =>
  simp [hq] at hz
  have hsz:inf.size=m:=hz.2.1
  refine ⟨g,cap,ec,rfl,hec,?_,?_⟩
  ·intro j c hj
   have h0:=hcc j c hj
   simp only [Int.toNat_natCast]
   rw [cell_of_row w g _ cur E (0,0) hg,← Array.getElem?_toList]
   rw [← h4,List.getElem?_take] at h0
   rw [← hn]
   split at h0
   ·exact h0
   ·cases h0
  ·intro _ w' _
   unfold execOp
   simp [hs,hi,Instr.indexAt,asIntOf,run_underlying ht.h,sizeOf,typeInfo,hq,hk,Addr.add_lit,hsz]
theorem jS (T:List Nat) (hsel:jG ops=true) (i':Nat) {t:TypeId} [SliceT P t E] {zz:List Value} {m bytes:Nat} [ElemT P E zz m bytes] {xs:List α} (hi':ops[i']? = some ⟨some d,.indexAddr t x y,ty,pos,af,none⟩) (hC:C w) (hf:kZ ops X T L i' ⟨some d,.indexAddr t x y,ty,pos,af,none⟩=true) (hrd:(Region.ready .any ops L).contains i'=true)
  (hS:Sat w0 w (Own (aG R E) [v] xs :: Γ)) (hs:ev e x=v) (hn:R.sz=m) {k:IntKind} {i:Int} (hi:ev e y=.int k i) {u:α} (h:ix xs i=some u) (hd:d<n)
  (hK:∀ g cap ec,v=.slice (some ⟨g,0,none⟩) xs.length cap→R.rd w ec u→(∀ j c,ec[j]? = some c→w.cell? ⟨g,i.toNat*m+j,none⟩=some c)→AL P n ops X C K f (L.setIfInBounds i' true) (upd e d (.pointer (some ⟨g,i.toNat*m,none⟩))) w):AL P n ops X C K (f+1) L e w:=by
 obtain ⟨g,cap,ec,h1,h2,h3,h4⟩:=qL (P:=P) (dd:=some d) (ty:=ty) (pos:=pos) (af:=af) (t:=t) hS hs hn hi h
 exact aM T hsel i' hi' rfl hd hC hf hrd (ap rfl fun w' _=>h4 w') (hK g cap ec h1 h2 h3)
theorem jo (T:List Nat) (hsel:jG ops=true) (i':Nat) {t:TypeId} [SliceT P t E] {zz:List Value} {m bytes:Nat} [ElemT P E zz m bytes] {xs:List α} {j':Nat} {bb cc:Bool} (hi':ops[i']? = some ⟨some d,.indexAddr t x y,ty,pos,af,some (j',bb)⟩) (hC:C w) (hf:kZ ops X T L i' ⟨some d,.indexAddr t x y,ty,pos,af,some (j',bb)⟩=true) (hrd:(Region.ready .any ops L).contains i'=true)
  (hy':yld ops e j'=some cc) (hcc:cc=bb) (hS:Sat w0 w (Own (aG R E) [v] xs :: Γ)) (hs:ev e x=v) (hn:R.sz=m) {k:IntKind} {i:Int} (hi:ev e y=.int k i) {u:α} (h:ix xs i=some u) (hd:d<n)
  (hK:∀ g cap ec,v=.slice (some ⟨g,0,none⟩) xs.length cap→R.rd w ec u→(∀ j c,ec[j]? = some c→w.cell? ⟨g,i.toNat*m+j,none⟩=some c)→AL P n ops X C K f (L.setIfInBounds i' true) (upd e d (.pointer (some ⟨g,i.toNat*m,none⟩))) w):AL P n ops X C K (f+1) L e w:=by
 obtain ⟨g,cap,ec,h1,h2,h3,h4⟩:=qL (P:=P) (dd:=some d) (ty:=ty) (pos:=pos) (af:=af) (t:=t) hS hs hn hi h
 exact aM T hsel i' hi' rfl hd hC hf hrd (wj hy' hcc fun w' _=>h4 w') (hK g cap ec h1 h2 h3)
theorem pj (T:List Nat) (hsel:jG ops=true) (i:Nat) {t:TypeId} [SliceT P t E'] {zz:List Value} {m bytes:Nat} [ElemT P E' zz m bytes] {xs:List α} {j':Nat} {bb cc:Bool} (hi':ops[i]? = some ⟨some d,.indexAddr t x y,ty,pos,af,some (j',bb)⟩) (hC:C w) (hf:kZ ops X T L i ⟨some d,.indexAddr t x y,ty,pos,af,some (j',bb)⟩=true) (hrd:(Region.ready .any ops L).contains i=true)
  (hy':yld ops e j'=some cc) (hcc:cc=bb) (hs:ev e x=v) (hr:(aG R E).rd wA [v] xs) (hn:R.sz=m) (hpos:0<m) {k:IntKind} {j:Int} (hi:ev e y=.int k j) {u:α} (h:ix xs j=some u) (hd:d<n)
  (hK:∀ b off ec,R.rd wA ec u→(∀ j c,ec[j]? = some c→wA.cell? ⟨b,off+j,none⟩=some c)→AL P n ops X C K f (L.setIfInBounds i true) (upd e d (.pointer (some ⟨b,off,none⟩))) w):AL P n ops X C K (f+1) L e w:=by
 obtain ⟨b,off,ec,h1,h2,h3⟩:=ms (P:=P) (d:=some d) (ty:=ty) (pos:=pos) (af:=af) (t:=t) hs hr hn hpos hi h
 exact aM T hsel i hi' rfl hd hC hf hrd (wj hy' hcc fun w' _=>h3 w') (hK b off ec h1 h2)
end
theorem tC {P:Program} {e:Env} {W:World} {α:Type} {R:Rep α} {E:TypeId} {v:Value} {x y:Operand} {ty:TypeId} {pos:String} {af:Array Edge} {F:List Nat} {d:Option Nat} {t:TypeId} [ht:SliceT P t E] {zz:List Value} {m bytes:Nat} [hz:ElemT P E zz m bytes] {xs ys:List α} {l h:Int} (hs:ev e x=dj m v l h) (hr:(aG R E).own W [v] xs F)
  (hn:R.sz=m) (hq:slc xs l h=some ys) {k:IntKind} {i:Int} (hi:ev e y=.int k i) {u:α} (hu:ix ys i=some u) :
  ∃ b off ec F2,R.own W ec u F2∧(∀ q∈F2,q∈F)∧b∈F∧(∀ j c,ec[j]? = some c→W.cell? ⟨b,off+j,none⟩=some c)∧∀ w,PV P ⟨d,.indexAddr t x y,ty,pos,af,none⟩ e w (.pointer (some ⟨b,off,none⟩)):=by
 obtain ⟨l',h',rfl,rfl,hlh,hh,rfl⟩:=mJ hq
 obtain ⟨k',rfl,hk,rfl⟩:=eQ hu
 rcases hr with ⟨_,h2,_⟩ | ⟨g,cap,cur,ccs,f2,hv,hg,h1,h2,h3,h4,h5,rfl⟩
 ·subst h2;simp at hk
 obtain rfl:v=.slice (some ⟨g,0,none⟩) xs.length cap:=by simpa using hv
 have hk2:k'<h' - l':=by simpa [Nat.min_eq_left hh] using hk
 have hne:cap≠l':=by omega
 have hk3:l'+k'<xs.length:=by omega
 have hel:((xs.take h').drop l')[k']=xs[l'+k']:=by simp
 obtain ⟨ec,f1,f2',f3,k1,rfl,k3,_⟩:=kn h5 (l'+k') hk3
 have hz:=hz.h
 cases hq:P.info? E with
 | none=>simp [hq] at hz
 | some inf =>
  simp [hq] at hz
  have hsz:inf.size=m:=hz.2.1
  rw [hel]
  refine ⟨g,l'*m+k'*m,ec,f2',k1,fun q hq=>by simp [hq],by simp,fun j c hj=>?_,fun w w' _=>?_⟩
  ·have h0:=k3 j c hj
   rw [cell_of_row W g _ cur E (0,0) hg,← Array.getElem?_toList]
   rw [← h4,List.getElem?_take] at h0
   rw [← hn,← Nat.add_mul]
   split at h0
   ·exact h0
   ·cases h0
  ·unfold execOp
   simp [hs,dj,hne,hi,Instr.indexAt,asIntOf,run_underlying ht.h,sizeOf,typeInfo,hq,hk2,Addr.add_add,hsz]
   simp only [Addr.add]
   split
   ·rename_i h0;rw [h0]
   ·simp
theorem tG {P:Program} {n:Nat} {ops:Array Oper} {K:Env→World→Prop} {rest:List Oper} {e:Env} {w W:World} {α:Type} {R:Rep α} {E:TypeId} {v:Value} {x y:Operand} {ty:TypeId} {pos:String} {af:Array Edge} {F:List Nat} {d:Nat} {t:TypeId} [SliceT P t E] {zz:List Value} {m bytes:Nat} [ElemT P E zz m bytes] {xs ys:List α} {l h:Int} (hs:ev e x=dj m v l h) (hr:(aG R E).own W [v] xs F)
  (hn:R.sz=m) (hq:slc xs l h=some ys) {k:IntKind} {i:Int} (hi:ev e y=.int k i) {u:α} (hu:ix ys i=some u) (hd:d<n)
  (hK:∀ b off ec F2,R.own W ec u F2→(∀ q∈F2,q∈F)→b∈F→(∀ j c,ec[j]? = some c→W.cell? ⟨b,off+j,none⟩=some c)→EL P n ops K rest (upd e d (.pointer (some ⟨b,off,none⟩))) w):EL P n ops K (⟨some d,.indexAddr t x y,ty,pos,af,none⟩ :: rest) e w:=by
 obtain ⟨b,off,ec,F2,h1,h2,h3,h4,h5⟩:=tC (P:=P) (d:=some d) (ty:=ty) (pos:=pos) (af:=af) (t:=t) hs hr hn hq hi hu
 exact lh (h5 _) hd (hK b off ec F2 h1 h2 h3 h4)
class NoFp {α:Type} (R:Rep α):Prop where
 h:∀ {w cs x fp},R.own w cs x fp→fp=[]
instance:NoFp bW:=⟨fun h=>h.2⟩
instance {α β:Type} {A:Rep α} {B:Rep β} [hA:NoFp A] [hB:NoFp B]:NoFp (mm A B):=⟨fun h=>by
 obtain ⟨_,_,f1,f2,_,rfl,h1,h2⟩:=h
 rw [hA.h h1,hB.h h2];rfl⟩
abbrev R0_:=aG bW 3
abbrev R1_:=aG kd 9
abbrev R2_:=mm bW bW
abbrev R4_:=aG R0_ 23
abbrev R5_:=mm kd R0_
abbrev R6_:=aG R2_ 68
abbrev R7_:=aG R5_ 88
abbrev aT:=aG R6_ 27
abbrev T0_:=List Int
abbrev T1_:=Int × Int
abbrev T2_:=List T0_
abbrev T3_:=List T1_
abbrev T4_:=ByteArray × List Int
abbrev T6_:=List T3_
abbrev kr:=Int × List T4_ × List Int
abbrev vy:=List T3_ × List T1_ × List T1_
section
set_option maxRecDepth 100000
set_option maxHeartbeats 4000000
theorem cX {w0:World} {a0:Int} {a1:Int} {a2:Int}  {N:Nat} {r:Bool} (F:cA N a0 a1 a2=some r): Calls Tryz.prog 35 #[i_ a0,i_ a1,i_ a2] w0 fun e w'=>e=.returned (.bool r)∧Ext w0 w' := by
 unfold cA at F;refine aI Tryz.func35 rfl rfl dt ?_;have S:=Sat.start w0;refine sR fun _ AG=>pa (.bool false) (en AG (sR fun _ U=>pm (i_ a0) (pm (i_ a1) (pe (.bool (decide (a1 ≤ a0))) (mc rfl rfl) (pm (.bool (decide (a1 ≤ a0))) (oF F (fun J F=>?_) fun J F=>?_))))))
 ·refine ei J (pm (i_ a0) (ei J (pm (i_ a2) (ei J (pe (.bool (decide (a0 ≤ a2))) (lF rfl rfl) (pe (.bool (decide (a0 ≤ a2))) (aw rfl J rfl) (pa (.bool (decide (a0 ≤ a2))) (en U (ag (aJ rfl rfl ?_))))))))));exact rB F S
 refine eo J (eo J (eo J (pe (.bool false) (ay rfl J rfl) (pa (.bool false) (en U (ag (aJ rfl rfl ?_)))))));exact rB F S
theorem gR {w0:World} {a0:ByteArray} {u1:Value} {a1:List Int} {a2:Int} (_:a0.size ≤ 9223372036854775807) (ha1:R0_.rd w0 [u1] a1) {N:Nat} {r:Bool} (F:dP N a0 a1 a2=some r): Calls Tryz.prog 51 #[.agg #[.string a0,u1],i_ a2] w0 fun e w'=>e=.returned (.bool r)∧Ext w0 w' := by
 unfold dP at F;refine aI Tryz.func51 rfl rfl dt ?_;have S:=Sat.start w0;refine sR fun _ AZ=>?_;refine bw [.string a0,u1] rfl S dt ?_;intro A8 U S A6;refine pa (.bool false) (en AZ (sg fun _ AP=>sR fun _ A0=>pa (i_ 0) (en A0 (bg fun _ AQ=>?_))));obtain ⟨A1,hL,AN⟩:=ob F;refine aE (fun k e w=>∃ (J:Int),e 1=i_ a2∧e 2=pt U 0∧e 5=i_ J∧Sat w0 w [Box U 88 [.string a0,u1]]∧ci N k a2 a0 a1 J=some A1) N ?_ ?_ ?_
 ·exact ⟨0,rfl,rfl,rfl,S,hL⟩
 ·rintro e w ⟨_,_,_,_,_,hz⟩; exact nn hz
 rintro k A9 Ba ⟨J,AO,AG,AH,S,F⟩;refine gn fun _ AK=>sg fun _ AR=>sR fun _ A2=>pM (i_ J) AH (pe (pt U (0 + 1)) (aa AG) (pe u1 (ab rfl ((S.boxAt 0 rfl) 1 _ rfl)) (pe (i_ (a1.length:Int)) (aA rfl ha1) (pe (.bool (decide (J < (a1.length:Int)))) (aH rfl rfl) (en A2 (oF F (fun AI F=>?_) fun AI F=>?_))))))
 ·refine ct AI (sn AR (sg fun _ AS=>bg fun _ AT=>sR fun _ A3=>pe (pt U (0 + 1)) (aa AG) (pe u1 (ab rfl ((S.boxAt 0 rfl) 1 _ rfl)) (pM (i_ J) AH (oB F fun AU AV F=>?_)))));refine aS (wA:=w0) rfl ha1 rfl dt rfl AV dt ?_;intro Bb A7 Bc AW AX;obtain rfl:=AW;refine pe (i_ AU) (ab rfl ((au S.below AX) 0 _ rfl)) (pM (i_ a2) AO (pe (.bool (AU == a2)) (cz rfl rfl) (en A3 (oF F (fun AJ F=>?_) fun AJ F=>?_))))
  ·refine ct AJ (sg fun _ A4=>?_);replace S:=S.r0;refine ac (pa (.bool true) (en A4 (ag (br AT (tr AS (tr AK (br AQ (tr AP ?_))))))));replace F:=exL F AN;refine aJ rfl rfl ?_;exact rB F S
  refine cf AJ (bf (bn AT (tn AS (ac (pM (i_ J) AH (oB F fun AM AY F=>pe (i_ AM) (aD rfl rfl AY) (pa (i_ AM) (en AK ?_))))))));replace S:=S.keep 1;exact ⟨AM,AO,AG,rfl,S,F⟩
 refine cf AI (aF (tx AR (tx AK ?_)));replace F:=exA F AN;refine bS AQ (tn AP (sg fun _ A5=>?_));replace S:=S.r0;refine ac (pa (.bool false) (en A5 (ag (aJ rfl rfl ?_))));exact rB F S
theorem nc {w0:World} {a0:ByteArray} (_:a0.size ≤ 9223372036854775807) {N:Nat} {r:Bool} (F:gW N a0=some r): Calls Tryz.prog 87 #[.string a0] w0 fun e w'=>e=.returned (.bool r)∧Ext w0 w' := by
 unfold gW at F;refine aI Tryz.func87 rfl rfl dt ?_;have S:=Sat.start w0;refine sR fun _ A0=>pa (.bool false) (en A0 (sg fun _ AN=>sR fun _ A1=>pa (i_ 0) (en A1 (bg fun _ AO=>?_))));obtain ⟨A2,hL,AI⟩:=ob F;refine aE (fun k e w=>∃ (U:Int),e 0=.string a0∧e 3=i_ U∧Sat w0 w []∧ff N k a0 U=some A2) N ?_ ?_ ?_
 ·exact ⟨0,rfl,rfl,S,hL⟩
 ·rintro e w ⟨_,_,_,_,hz⟩; exact nn hz
 rintro k A9 Ba ⟨U,AG,AH,S,F⟩;refine gn fun _ AJ=>sg fun _ AU=>sR fun _ A3=>pM (i_ U) AH (pM (.string a0) AG (pe (i_ (a0.size:Int)) (jO Tryz.underlying9 rfl) (pe (.bool (decide (U < (a0.size:Int)))) (aH rfl rfl) (en A3 (oF F (fun AK F=>?_) fun AK F=>?_)))))
 ·refine ct AK (sn AU (sg fun _ AP=>bg fun _ AQ=>sR fun _ AV=>pM (.string a0) AG (pM (i_ U) AH (oB F fun AR AW F=>pe (.int .u8 AR) (ph Tryz.underlying9 rfl rfl AW) (pe (.bool (decide (AR < 97))) (aH rfl rfl) (pm (.bool (decide (AR < 97))) (oF F (fun J F=>?_) fun J F=>?_)))))))
  ·refine eo J (eo J (eo J (eo J (pe (.bool true) (aw rfl J rfl) (en AV (ct rfl (sR fun _ A4=>pa (.bool false) (en A4 (ag (br AQ (tr AP (tr AJ (br AO (tr AN ?_))))))))))))));replace F:=exL F AI;refine aJ rfl rfl ?_;exact rB F S
  refine ei J (pM (.string a0) AG (ei J (pM (i_ U) AH (ei J (oB F fun AS AX F=>pe (.int .u8 AS) (ph Tryz.underlying9 rfl rfl AX) (ei J (pe (.bool (decide (122 < AS))) (dF rfl rfl) (pe (.bool (decide (122 < AS))) (ay rfl J rfl) (en AV (oF F (fun AM F=>?_) fun AM F=>?_))))))))))
  ·refine ct AM (sR fun _ A5=>pa (.bool false) (en A5 (ag (br AQ (tr AP (tr AJ (br AO (tr AN ?_))))))));replace F:=exL F AI;refine aJ rfl rfl ?_;exact rB F S
  refine cf AM (bf (bn AQ (tn AP (ac (pM (i_ U) AH (oB F fun AT AY F=>pe (i_ AT) (aD rfl rfl AY) (pa (i_ AT) (en AJ ?_))))))));replace S:=S.keep 0;exact ⟨AT,AG,rfl,S,F⟩
 refine cf AK (aF (tx AU (tx AJ ?_)));replace F:=exA F AI;refine bS AO (tn AN (sR fun _ A6=>pM (.string a0) AG (pe (i_ (a0.size:Int)) (jO Tryz.underlying9 rfl) (oB F fun A7 AZ F=>?_))));refine ec0 gI (cX AZ) (ca (ai rfl (ai rfl (ai rfl rfl)))) S fun Bb A8 S=>?_;refine pa (.bool A7) (en A6 (ag (aJ rfl rfl ?_)));exact rB F S
theorem qb {w0:World} {u0:Value} {a0:List Int} {a1:Int} (ha0:R0_.rd w0 [u0] a0) {N:Nat} {r:Int} (F:jA N a0 a1=some r): Calls Tryz.prog 88 #[u0,i_ a1] w0 fun e w'=>e=.returned (i_ r)∧Ext w0 w' := by
 unfold jA at F;refine aI Tryz.func88 rfl rfl dt ?_;have S:=Sat.start w0;refine sR fun _ AY=>pa (i_ 0) (en AY (sg fun _ AO=>sR fun _ AZ=>pa (i_ 0) (en AZ (bg fun _ AP=>?_))));obtain ⟨A0,hL,AM⟩:=ob F;refine aE (fun k e w=>∃ (J:Int),e 0=u0∧e 1=i_ a1∧e 5=i_ J∧Sat w0 w []∧iu N k a0 a1 J=some A0) N ?_ ?_ ?_
 ·exact ⟨0,rfl,rfl,rfl,S,hL⟩
 ·rintro e w ⟨_,_,_,_,_,hz⟩; exact nn hz
 rintro k A6 A7 ⟨J,AG,AN,U,S,F⟩;refine gn fun _ AJ=>sg fun _ AQ=>sR fun _ A1=>pM (i_ J) U (pM u0 AG (pe (i_ (a0.length:Int)) (aA rfl ha0) (pe (.bool (decide (J < (a0.length:Int)))) (aH rfl rfl) (en A1 (oF F (fun AH F=>?_) fun AH F=>?_)))))
 ·refine ct AH (sn AQ (sg fun _ AR=>bg fun _ AS=>sR fun _ A2=>pM u0 AG (pM (i_ J) U (oB F fun AT AU F=>?_))));refine aS (wA:=w0) rfl ha0 rfl dt rfl AU dt ?_;intro A8 A5 A9 AV AW;obtain rfl:=AV;refine pe (i_ AT) (ab rfl ((au S.below AW) 0 _ rfl)) (pM (i_ a1) AN (pe (.bool (AT == a1)) (cz rfl rfl) (en A2 (oF F (fun AI F=>?_) fun AI F=>?_))))
  ·refine ct AI (sR fun _ A3=>pM (i_ J) U (pa (i_ J) (en A3 (ag (br AS (tr AR (tr AJ (br AP (tr AO ?_)))))))));replace F:=exL F AM;refine aJ rfl rfl ?_;exact rI F S
  refine cf AI (bf (bn AS (tn AR (ac (pM (i_ J) U (oB F fun AK AX F=>pe (i_ AK) (aD rfl rfl AX) (pa (i_ AK) (en AJ ?_))))))));replace S:=S.keep 0;exact ⟨AK,AG,AN,rfl,S,F⟩
 refine cf AH (aF (tx AQ (tx AJ ?_)));replace F:=exA F AM;refine bS AP (tn AO (sR fun _ A4=>pa (i_ (-1)) (en A4 (ag (aJ rfl rfl ?_)))));exact rI F S
theorem gM {w0:World} {a0:Int} {u1:Value} {a1:List T4_} {u2:Value} {a2:List Int} (ha1:R7_.rd w0 [u1] a1) (ha2:R0_.rd w0 [u2] a2) {N:Nat} {r:Bool} (F:eC N a0 a1 a2=some r): Calls Tryz.prog 50 #[.agg #[i_ a0,u1,u2]] w0 fun e w'=>e=.returned (.bool r)∧Ext w0 w' := by
 unfold eC at F;refine aI Tryz.func50 rfl rfl dt ?_;have S:=Sat.start w0;refine sR fun _ C7=>?_;refine bw [i_ a0,u1,u2] rfl S dt ?_;intro D5 U S DQ;refine pa (.bool false) (en C7 (sg fun _ A2=>sR fun _ Bl=>pe (pt U (0 + 0)) (aa rfl) (pe (i_ a0) (ab rfl ((S.boxAt 0 rfl) 0 _ rfl)) (oB F fun BM B9 F=>?_))));refine ec0 gI (cX B9) (ca (ai rfl (ai rfl (ai rfl rfl)))) S fun D6 DR S=>?_;refine pe (.bool (!BM)) (aK rfl) (pm (.bool (!BM)) (oF F (fun AJ F=>?_) fun AJ F=>?_))
 ·refine ei (aj AJ) (pe (pt U (0 + 1)) (aa rfl) (ei (aj AJ) (pe u1 (ab rfl ((S.boxAt 0 rfl) 1 _ rfl)) (ei (aj AJ) (pe (i_ (a1.length:Int)) (aA rfl ha1) (ei (aj AJ) (oB F fun Bm Ca F=>?_)))))));refine ec0 gI (cX Ca) (ca (ai rfl (ai rfl (ai rfl rfl)))) S fun D7 DS S=>?_;refine ei (aj AJ) (pe (.bool (!Bm)) (aK rfl) (pe (.bool (!Bm)) (ay rfl (aj AJ) rfl) (pm (.bool (!Bm)) (oF F (fun AI F=>?_) fun AI F=>?_))))
  ·refine ei (aj AI) (pe (pt U (0 + 2)) (aa rfl) (ei (aj AI) (pe u2 (ab rfl ((S.boxAt 0 rfl) 2 _ rfl)) (ei (aj AI) (pe (i_ (a2.length:Int)) (aA rfl ha2) (ei (aj AI) (pe (pt U (0 + 0)) (aa rfl) (ei (aj AI) (pe (i_ a0) (ab rfl ((S.boxAt 0 rfl) 0 _ rfl)) (ei (aj AI) (pe (.bool (decide (a0 < (a2.length:Int)))) (dF rfl rfl) (pe (.bool (decide (a0 < (a2.length:Int)))) (ay rfl (aj AI) rfl) (en Bl (oF F (fun A3 F=>?_) fun A3 F=>?_))))))))))))))
   ·refine ct A3 (sg fun _ C8=>?_);replace S:=S.r0;refine ac (pa (.bool false) (en C8 (ag (tr A2 (aJ rfl rfl ?_)))));exact rB F S
   refine cf A3 (sn A2 (sg fun _ A4=>sR fun _ C9=>pa (i_ 0) (en C9 (bg fun _ A5=>?_))));obtain ⟨Da,hL,AW⟩:=ob F;refine aE (fun k e w=>∃ (AK:Int),e 1=pt U 0∧e 3=i_ AK∧Sat w0 w [Box U 32 [i_ a0,u1,u2]]∧c6 N k a0 a1 a2 AK=some Da) N ?_ ?_ ?_
   ·exact ⟨0,rfl,rfl,S,hL⟩
   ·rintro e w ⟨_,_,_,_,hz⟩; exact nn hz
   rintro k D8 D9 ⟨AK,AS,AX,S,F⟩;refine gn fun _ A1=>sg fun _ BN=>sR fun _ Db=>pM (i_ AK) AX (pe (pt U (0 + 1)) (aa AS) (pe u1 (ab rfl ((S.boxAt 0 rfl) 1 _ rfl)) (pe (i_ (a1.length:Int)) (aA rfl ha1) (pe (.bool (decide (AK < (a1.length:Int)))) (aH rfl rfl) (en Db (oF F (fun A6 F=>?_) fun A6 F=>?_))))))
   ·refine ct A6 (sn BN (sg fun _ A7=>bg fun _ A8=>sg fun _ Bn=>sR fun _ BO=>pe (pt U (0 + 1)) (aa AS) (pe u1 (ab rfl ((S.boxAt 0 rfl) 1 _ rfl)) (pM (i_ AK) AX (oB F fun Dc Cb F=>?_)))));refine aS (wA:=w0) rfl ha1 rfl dt rfl Cb dt ?_;intro Dd Cc Ea Cd Ce;obtain ⟨_,_,rfl,Cf,Cg⟩:=Cd;obtain ⟨rfl,Ch⟩:=Cf;obtain ⟨Eb,rfl⟩:=aQ Cg;refine pe (pt Dd (Cc + 0)) (aa rfl) (pe (.string Dc.1) (ab rfl ((au S.below Ce) 0 _ rfl)) (oB F fun BP Ci F=>?_));refine ec0 zk (nc Ch Ci) (ca (ai rfl rfl)) S fun Ec DT S=>?_;refine pe (.bool (!BP)) (aK rfl) (pm (.bool (!BP)) (oF F (fun AG F=>?_) fun AG F=>?_))
    ·refine ei (aj AG) (pe (pt U (0 + 1)) (aa AS) (ei (aj AG) (pe u1 (ab rfl ((S.boxAt 0 rfl) 1 _ rfl)) (ei (aj AG) (pM (i_ AK) AX (ei (aj AG) (oB F fun De Cj F=>?_)))))));refine aS (wA:=w0) rfl ha1 rfl dt rfl Cj dt ?_;intro Df Ck Ed Cl Cm;obtain ⟨_,_,rfl,Co,BE⟩:=Cl;obtain ⟨rfl,DU⟩:=Co;obtain ⟨Dg,rfl⟩:=aQ BE;refine ei (aj AG) (pe (pt Df (Ck + 1)) (aa rfl) (ei (aj AG) (pe Dg (ab rfl ((au S.below Cm) 1 _ rfl)) (ei (aj AG) (pe (i_ (De.2.length:Int)) (aA rfl BE) (ei (aj AG) (oB F fun BQ Cp F=>?_)))))));refine ec0 gI (cX Cp) (ca (ai rfl (ai rfl (ai rfl rfl)))) S fun Ee DV S=>?_;refine ei (aj AG) (pe (.bool (!BQ)) (aK rfl) (pe (.bool (!BQ)) (ay rfl (aj AG) rfl) (en BO (oF F (fun A9 F=>?_) fun A9 F=>?_))))
     ·refine cf (aj A9) (sn Bn (sR fun _ Dh=>pa (i_ 0) (en Dh (bg fun _ BR=>?_))));obtain ⟨Di,hL,BF⟩:=ob F;refine aE (fun k e w=>∃ (AQ:Int),e 1=pt U 0∧e 3=i_ AK∧e 4=i_ AQ∧Sat w0 w [Box U 32 [i_ a0,u1,u2]]∧dc N k a0 a1 a2 AK AQ=some Di) N ?_ ?_ ?_
      ·exact ⟨0,AS,AX,rfl,S,hL⟩
      ·rintro e w ⟨_,_,_,_,_,hz⟩; exact nn hz
      rintro k Ef Eg ⟨AQ,AT,AY,Ba,S,F⟩;refine gn fun _ Bo=>sg fun _ BS=>sR fun _ Dj=>pM (i_ AQ) Ba (pe (pt U (0 + 1)) (aa AT) (pe u1 (ab rfl ((S.boxAt 0 rfl) 1 _ rfl)) (pM (i_ AK) AY (oB F fun BT Cq F=>?_))));refine aS (wA:=w0) rfl ha1 rfl dt rfl Cq dt ?_;intro Dk Cr Eh Cs Ct;obtain ⟨_,_,rfl,Cu,BG⟩:=Cs;obtain ⟨rfl,DW⟩:=Cu;obtain ⟨Dl,rfl⟩:=aQ BG;refine pe (pt Dk (Cr + 1)) (aa rfl) (pe Dl (ab rfl ((au S.below Ct) 1 _ rfl)) (pe (i_ (BT.2.length:Int)) (aA rfl BG) (pe (.bool (decide (AQ < (BT.2.length:Int)))) (aH rfl rfl) (en Dj (oF F (fun Bb F=>?_) fun Bb F=>?_)))))
      ·refine ct Bb (sn BS (sg fun _ BU=>bg fun _ BV=>sg fun _ Dm=>?_));refine et (by kernel_rfl) (by kernel_rfl) ?_;refine qe (pt U (0 + 1)) (aa AT) (qe u1 (ab rfl ((S.boxAt 0 rfl) 1 _ rfl)) (qM (i_ AK) AY (oB F fun Ei Cv F=>?_)));refine cP (wA:=w0) rfl ha1 rfl dt rfl Cv dt ?_;intro Dn Cw Ej Cx Cy;obtain ⟨_,_,rfl,Cz,BH⟩:=Cx;obtain ⟨rfl,DX⟩:=Cz;obtain ⟨Do,rfl⟩:=aQ BH;refine qe (pt Dn (Cw + 1)) (aa rfl) (qe Do (ab rfl ((au S.below Cy) 1 _ rfl)) (qM (i_ AQ) Ba (oB F fun Dp CA F=>?_)));refine cP (wA:=w0) rfl BH rfl dt rfl CA dt ?_;intro Ek DY El CB CC;obtain rfl:=CB;refine qe (i_ Dp) (ab rfl ((au S.below CC) 0 _ rfl)) (qe (pt U (0 + 0)) (aa AT) (qe (i_ a0) (ab rfl ((S.boxAt 0 rfl) 0 _ rfl)) (oB F fun Dq CD F=>qe (i_ Dq) (fN rfl rfl CD) (oB F fun BW CE F=>?_))));refine fR (.bool BW) gI (fun w' hw'=>cX CE) (ca (ai rfl (ai rfl (ai rfl rfl)))) dt ?_;refine qe (.bool (!BW)) (aK rfl) (eH ?_);intro Em CF;replace S:=S.ext CF;refine tn Dm (oF F (fun Bc F=>?_) fun Bc F=>?_)
       ·refine cf (aj Bc) (bf (bn BV (tn BU (ac (pM (i_ AQ) Ba (oB F fun Bp CG F=>pe (i_ Bp) (aD rfl rfl CG) (pa (i_ Bp) (en Bo ?_))))))));replace S:=S.keep 1;exact ⟨Bp,AT,AY,rfl,S,F⟩
       refine ct (ak Bc) (sg fun _ Dr=>?_);replace S:=S.r0;refine ac (pa (.bool false) (en Dr (ag (br BV (tr BU (tr Bo (br BR (br A8 (tr A7 (tr A1 (br A5 (tr A4 ?_))))))))))));replace F:=exL F BF;replace F:=exL F AW;refine aJ rfl rfl ?_;exact rB F S
      refine cf Bb (aF (tx BS (tx Bo ?_)));replace F:=exA F BF;refine bS BR (bn A8 (tn A7 (ac (pM (i_ AK) AY (oB F fun Bq CH F=>pe (i_ Bq) (aD rfl rfl CH) (pa (i_ Bq) (en A1 ?_)))))));replace S:=S.keep 1;exact ⟨Bq,AT,rfl,S,F⟩
     refine ct (ak A9) (sg fun _ Ds=>?_);replace S:=S.r0;refine ac (pa (.bool false) (en Ds (ag (tr Bn (br A8 (tr A7 (tr A1 (br A5 (tr A4 ?_)))))))));replace F:=exL F AW;refine aJ rfl rfl ?_;exact rB F S
    refine eo (ak AG) (eo (ak AG) (eo (ak AG) (eo (ak AG) (eo (ak AG) (eo (ak AG) (eo (ak AG) (eo (ak AG) (eo (ak AG) (pe (.bool true) (aw rfl (ak AG) rfl) (en BO (ct rfl (sg fun _ Dt=>?_))))))))))));replace S:=S.r0;refine ac (pa (.bool false) (en Dt (ag (tr Bn (br A8 (tr A7 (tr A1 (br A5 (tr A4 ?_)))))))));replace F:=exL F AW;refine aJ rfl rfl ?_;exact rB F S
   refine cf A6 (aF (tx BN (tx A1 ?_)));replace F:=exA F AW;refine bS A5 (tn A4 (sg fun _ BX=>sR fun _ Du=>pa (i_ 0) (en Du (bg fun _ BY=>?_))));obtain ⟨Dv,hL,BI⟩:=ob F;refine aE (fun k e w=>∃ (AM:Int),e 1=pt U 0∧e 5=i_ AM∧Sat w0 w [Box U 32 [i_ a0,u1,u2]]∧df N k a0 a1 a2 AM=some Dv) N ?_ ?_ ?_
   ·exact ⟨0,AS,rfl,S,hL⟩
   ·rintro e w ⟨_,_,_,_,hz⟩; exact nn hz
   rintro k En Eo ⟨AM,Bd,BJ,S,F⟩;refine gn fun _ Br=>sg fun _ BZ=>sR fun _ Dw=>pM (i_ AM) BJ (pe (pt U (0 + 0)) (aa Bd) (pe (i_ a0) (ab rfl ((S.boxAt 0 rfl) 0 _ rfl)) (pe (.bool (decide (AM < a0))) (aH rfl rfl) (en Dw (oF F (fun Be F=>?_) fun Be F=>?_)))))
   ·refine ct Be (sn BZ (sg fun _ B0=>bg fun _ B1=>sR fun _ Dx=>pa (.bool false) (en Dx (sg fun _ Dy=>sR fun _ Dz=>pa (i_ 0) (en Dz (bg fun _ DA=>?_))))));obtain ⟨DB,hL,CI⟩:=ob F;refine aE (fun k e w=>∃ (AR:Bool),∃ (AO:Int),e 1=pt U 0∧e 5=i_ AM∧e 6=.bool AR∧e 7=i_ AO∧Sat w0 w [Box U 32 [i_ a0,u1,u2]]∧cK N k a0 a1 a2 AM AR AO=some DB) N ?_ ?_ ?_
    ·exact ⟨false,0,Bd,BJ,rfl,rfl,S,hL⟩
    ·rintro e w ⟨_,_,_,_,_,_,_,hz⟩; exact nn hz
    rintro k Ep Er ⟨AR,AO,AU,AZ,BK,A0,S,F⟩;refine gn fun _ Bs=>sg fun _ B2=>sR fun _ DC=>pM (i_ AO) A0 (pe (pt U (0 + 1)) (aa AU) (pe u1 (ab rfl ((S.boxAt 0 rfl) 1 _ rfl)) (pe (i_ (a1.length:Int)) (aA rfl ha1) (pe (.bool (decide (AO < (a1.length:Int)))) (aH rfl rfl) (en DC (oF F (fun Bf F=>?_) fun Bf F=>?_))))))
    ·refine ct Bf (sn B2 (sg fun _ B3=>bg fun _ B4=>ac (pM (.bool AR) BK (pm (.bool AR) (oF F (fun AH F=>?_) fun AH F=>?_)))))
     ·refine eo AH (eo AH (eo AH (eo AH (eo AH (eo AH (eo AH (pe (.bool true) (aw rfl AH rfl) (pa (.bool true) (ae (bn B4 (tn B3 (ac (pM (i_ AO) A0 (oB F fun Bt CJ F=>pe (i_ Bt) (aD rfl rfl CJ) (pa (i_ Bt) (en Bs ?_))))))))))))))));replace S:=S.keep 1;exact ⟨true,Bt,AU,AZ,rfl,rfl,S,F⟩
     refine ei AH (pe (pt U (0 + 1)) (aa AU) (ei AH (pe u1 (ab rfl ((S.boxAt 0 rfl) 1 _ rfl)) (ei AH (pM (i_ AO) A0 (ei AH (oB F fun B5 CK F=>?_)))))));refine aS (wA:=w0) rfl ha1 rfl dt rfl CK dt ?_;intro Es DZ Et CL CM;obtain ⟨_,_,rfl,CN,BL⟩:=CL;obtain ⟨rfl,CO⟩:=CN;obtain ⟨B6,rfl⟩:=aQ BL;refine ei AH (pe (.agg #[.string B5.1,B6]) (am (cs:=[.string B5.1,B6]) rfl rfl (au S.below CM)) (ei AH (pM (i_ AM) AZ (ei AH (oB F fun Bu CP F=>?_)))));refine ec0 rM (gR CO (S.up BL) CP) (ca (ai rfl (ai rfl rfl))) S fun Eu D1 S=>?_;refine pe (.bool Bu) (ay rfl AH rfl) (pa (.bool Bu) (ae (bn B4 (tn B3 (ac (pM (i_ AO) A0 (oB F fun Bv CQ F=>pe (i_ Bv) (aD rfl rfl CQ) (pa (i_ Bv) (en Bs ?_)))))))));replace S:=S.keep 1;exact ⟨Bu,Bv,AU,AZ,rfl,rfl,S,F⟩
    refine cf Bf (aF (tx B2 (tx Bs ?_)));replace F:=exB F CI;refine bS DA (tn Dy (sR fun _ DD=>pM (.bool AR) BK (pe (.bool (!AR)) (aK rfl) (en DD (oF F (fun Bg F=>?_) fun Bg F=>?_)))))
    ·refine cf (aj Bg) (bf (bn B1 (tn B0 (ac (pM (i_ AM) AZ (oB F fun Bw CR F=>pe (i_ Bw) (aD rfl rfl CR) (pa (i_ Bw) (en Br ?_))))))));replace S:=S.keep 1;exact ⟨Bw,AU,rfl,S,F⟩
    refine ct (ak Bg) (sg fun _ DE=>?_);replace S:=S.r0;refine ac (pa (.bool false) (en DE (ag (br B1 (tr B0 (tr Br (br BY (tr BX ?_))))))));replace F:=exL F BI;refine aJ rfl rfl ?_;exact rB F S
   refine cf Be (aF (tx BZ (tx Br ?_)));replace F:=exA F BI;refine bS BY (tn BX (sg fun _ Bx=>sR fun _ DF=>pa (i_ 0) (en DF (bg fun _ By=>?_))));obtain ⟨DG,hL,Bh⟩:=ob F;refine aE (fun k e w=>∃ (AN:Int),e 1=pt U 0∧e 8=i_ AN∧Sat w0 w [Box U 32 [i_ a0,u1,u2]]∧c5 N k a0 a1 a2 AN=some DG) N ?_ ?_ ?_
   ·exact ⟨0,Bd,rfl,S,hL⟩
   ·rintro e w ⟨_,_,_,_,hz⟩; exact nn hz
   rintro k Ev Ew ⟨AN,AP,AV,S,F⟩;refine gn fun _ Bi=>sg fun _ B7=>sR fun _ DH=>pM (i_ AN) AV (pe (pt U (0 + 2)) (aa AP) (pe u2 (ab rfl ((S.boxAt 0 rfl) 2 _ rfl)) (pe (i_ (a2.length:Int)) (aA rfl ha2) (pe (.bool (decide (AN < (a2.length:Int)))) (aH rfl rfl) (en DH (oF F (fun Bj F=>?_) fun Bj F=>?_))))))
   ·refine ct Bj (sn B7 (sg fun _ Bz=>bg fun _ BA=>sg fun _ B8=>?_));refine et (by kernel_rfl) (by kernel_rfl) ?_;refine qe (pt U (0 + 2)) (aa AP) (qe u2 (ab rfl ((S.boxAt 0 rfl) 2 _ rfl)) (qM (i_ AN) AV (oB F fun DI CS F=>?_)));refine cP (wA:=w0) rfl ha2 rfl dt rfl CS dt ?_;intro Ex D2 Ey CT CU;obtain rfl:=CT;refine qe (i_ DI) (ab rfl ((au S.below CU) 0 _ rfl)) (qe (pt U (0 + 0)) (aa AP) (qe (i_ a0) (ab rfl ((S.boxAt 0 rfl) 0 _ rfl)) (oB F fun DJ CV F=>qe (i_ DJ) (fN rfl rfl CV) (oB F fun BB CX F=>?_))));refine fR (.bool BB) gI (fun w' hw'=>cX CX) (ca (ai rfl (ai rfl (ai rfl rfl)))) dt ?_;refine qe (.bool (!BB)) (aK rfl) (qm (.bool (!BB)) (oF F (fun J F=>?_) fun J F=>?_))
    ·refine qi (aj J) (qe (pt U (0 + 2)) (aa AP) (qi (aj J) (qe u2 (ab rfl ((S.boxAt 0 rfl) 2 _ rfl)) (qi (aj J) (qM (i_ AN) AV (qi (aj J) (oB F fun Ez CY F=>?_)))))));refine vT (wA:=w0) rfl rfl ha2 (.inr ⟨rfl,rfl⟩) (.inl (congrArg some rfl)) CY dt ?_;intro EA CZ;refine qi (aj J) (qe (pt U (0 + 2)) (aa AP) (qi (aj J) (qe u2 (ab rfl ((S.boxAt 0 rfl) 2 _ rfl)) (qi (aj J) (qM (i_ AN) AV (qi (aj J) (oB F fun DK C0 F=>?_)))))));refine cP (wA:=w0) rfl ha2 rfl dt rfl C0 dt ?_;intro EB D4 EC C1 C2;obtain rfl:=C1;refine qi (aj J) (qe (i_ DK) (ab rfl ((au S.below C2) 0 _ rfl)) (qi (aj J) (oB F fun BC C3 F=>?_)));refine fR (i_ BC) yU (fun w' hw'=>qb (fH (S.up CZ) hw') C3) (ca (ai rfl (ai rfl rfl))) dt ?_;refine qi (aj J) (qe (.bool (decide (0 ≤ BC))) (mc rfl rfl) (qe (.bool (decide (0 ≤ BC))) (ay rfl (aj J) rfl) (eH ?_)));intro ED C4;replace S:=S.ext C4;refine tn B8 (oF F (fun Bk F=>?_) fun Bk F=>?_)
     ·refine ct Bk (sg fun _ DL=>?_);replace S:=S.r0;refine ac (pa (.bool false) (en DL (ag (br BA (tr Bz (tr Bi (br By (tr Bx ?_))))))));replace F:=exL F Bh;refine aJ rfl rfl ?_;exact rB F S
     refine cf Bk (bf (bn BA (tn Bz (ac (pM (i_ AN) AV (oB F fun BD C5 F=>pe (i_ BD) (aD rfl rfl C5) (pa (i_ BD) (en Bi ?_))))))));replace S:=S.keep 1;exact ⟨BD,AP,rfl,S,F⟩
    refine qo (ak J) (qo (ak J) (qo (ak J) (qo (ak J) (qo (ak J) (qo (ak J) (qo (ak J) (qo (ak J) (qo (ak J) (qo (ak J) (qo (ak J) (qe (.bool true) (aw rfl (ak J) rfl) (eH ?_))))))))))));intro EE C6;replace S:=S.ext C6;refine tn B8 (ct rfl (sg fun _ DM=>?_));replace S:=S.r0;refine ac (pa (.bool false) (en DM (ag (br BA (tr Bz (tr Bi (br By (tr Bx ?_))))))));replace F:=exL F Bh;refine aJ rfl rfl ?_;exact rB F S
   refine cf Bj (aF (tx B7 (tx Bi ?_)));replace F:=exA F Bh;refine bS By (tn Bx (sg fun _ DN=>?_));replace S:=S.r0;refine ac (pa (.bool true) (en DN (ag (aJ rfl rfl ?_))));exact rB F S
  refine eo (ak AI) (eo (ak AI) (eo (ak AI) (eo (ak AI) (eo (ak AI) (eo (ak AI) (pe (.bool true) (aw rfl (ak AI) rfl) (en Bl (ct rfl (sg fun _ DO=>?_)))))))));replace S:=S.r0;refine ac (pa (.bool false) (en DO (ag (tr A2 (aJ rfl rfl ?_)))));exact rB F S
 refine eo (ak AJ) (eo (ak AJ) (eo (ak AJ) (eo (ak AJ) (eo (ak AJ) (pe (.bool true) (aw rfl (ak AJ) rfl) (pm (.bool true) (eo rfl (eo rfl (eo rfl (eo rfl (eo rfl (eo rfl (pe (.bool true) (aw rfl rfl rfl) (en Bl (ct rfl (sg fun _ DP=>?_))))))))))))))));replace S:=S.r0;refine ac (pa (.bool false) (en DP (ag (tr A2 (aJ rfl rfl ?_)))));exact rB F S
theorem ka {w0:World} {a0:Int} {u1:Value} {a1:List T4_} {u2:Value} {a2:List Int} (ha1:R7_.rd w0 [u1] a1) (ha2:R0_.rd w0 [u2] a2) {N:Nat} {r:vy × Bool} (F:e8 N a0 a1 a2=some r): Calls Tryz.prog 21 #[.agg #[i_ a0,u1,u2]] w0 fun e w'=>∃ (q0:Value) (q1:Value) (q2:Value),e=.returned (.tuple #[.agg #[q0,q1,q2],.bool r.2])∧Sat w0 w' [Own aT [q0] r.1.1,Own R6_ [q1] r.1.2.1,Own R6_ [q2] r.1.2.2] := by
 unfold e8 at F;refine aI Tryz.func21 rfl rfl dt ?_;have S:=Sat.start w0;refine sR fun _ B0=>?_;refine bw [i_ a0,u1,u2] rfl S dt ?_;intro CR AH S CF;refine aC S dt ?_;intro CS AJ S CG;refine pa (.bool false) (en B0 (sg fun _ Br=>sR fun _ B1=>pe (.agg #[i_ a0,u1,u2]) (am (cs:=[i_ a0,u1,u2]) rfl rfl (aq (S.boxAt 1 rfl))) (oB F fun B2 BH F=>?_)));refine ec0 pQ (gM (S.up ha1) (S.up ha2) BH) (ca (ai rfl rfl)) S fun CT CH S=>?_;refine pe (.bool (!B2)) (aK rfl) (en B1 (oF F (fun AX F=>?_) fun AX F=>?_))
 ·refine cf (aj AX) (sn Br (sR fun _ B3=>pe (.agg #[n_,n_,n_]) (aL [] [n_,n_,n_] rfl rfl) ?_));refine aC S dt ?_;intro CU AG S CI;refine ah (S.top 0 rfl) rfl [n_,n_,n_] rfl rfl dt (all_cons rfl (all_cons rfl (all_cons rfl rfl))) ?_;intro B4 S;replace S:Sat w0 B4 [Box AG 48 [n_,n_,n_],Box AJ 48 [n_,n_,n_],Box AH 32 [i_ a0,u1,u2]]:=S;refine en B3 (sg fun _ B5=>sR fun _ B6=>pa (i_ 0) (en B6 (bg fun _ B7=>?_)));replace S:=S.nil R6_ 27;replace S:=S.nil R2_ 68;obtain ⟨B8,hL,BI⟩:=ob F;refine aE (fun k e w=>∃ (U:Value),∃ (AM:List T3_),∃ (J:Value),∃ (AK:List T1_),∃ (AN:Int),e 1=pt AH 0∧e 2=pt AJ 0∧e 4=pt AG 0∧e 5=i_ AN∧Sat w0 w [Own R6_ [J] AK,Own aT [U] AM,Box AG 48 [U,J,n_],Box AJ 48 [n_,n_,n_],Box AH 32 [i_ a0,u1,u2]]∧cM N k a0 a1 a2 [] [] [] AM AK [] AN=some B8) N ?_ ?_ ?_
  ·exact ⟨n_,[],n_,[],0,rfl,rfl,rfl,rfl,S,hL⟩
  ·rintro e w ⟨_,_,_,_,_,_,_,_,_,_,hz⟩; exact nn hz
  rintro k CV CX ⟨U,AM,J,AK,AN,AY,Bg,Bh,Bi,S,F⟩;refine gn fun _ Bs=>sg fun _ Bt=>sR fun _ B9=>pM (i_ AN) Bi (pe (pt AH (0 + 0)) (aa AY) (pe (i_ a0) (ab rfl ((S.boxAt 4 rfl) 0 _ rfl)) (pe (.bool (decide (AN < a0))) (aH rfl rfl) (en B9 (oF F (fun AZ F=>?_) fun AZ F=>?_)))))
  ·refine ct AZ (sn Bt (sg fun _ Ca=>bg fun _ Cb=>sR fun _ Cc=>?_));refine aV R2_ S dt ?_;intro CY Bu S CJ;refine pa Bu (en Cc (sg fun _ Cd=>sR fun _ Ce=>pa (i_ 0) (en Ce (bg fun _ Cf=>?_))));obtain ⟨Cg,hL,BJ⟩:=ob F;refine aE (fun k e w=>∃ (AP:Value),∃ (A9:List T1_),∃ (AQ:Int),e 1=pt AH 0∧e 2=pt AJ 0∧e 4=pt AG 0∧e 5=i_ AN∧e 6=AP∧e 7=i_ AQ∧Sat w0 w [Own R6_ [AP] A9,Own R6_ [J] AK,Own aT [U] AM,Box AG 48 [U,J,n_],Box AJ 48 [n_,n_,n_],Box AH 32 [i_ a0,u1,u2]]∧cn N k a0 a1 a2 [] [] [] AM AK [] AN A9 AQ=some Cg) N ?_ ?_ ?_
   ·exact ⟨Bu,[],0,AY,Bg,Bh,Bi,rfl,rfl,S,hL⟩
   ·rintro e w ⟨_,_,_,_,_,_,_,_,_,_,hz⟩; exact nn hz
   rintro k CZ C0 ⟨AP,A9,AQ,AR,A0,AO,AU,A1,AV,S,F⟩;refine gn fun _ Ba=>sg fun _ Bv=>sR fun _ Ch=>pM (i_ AQ) AV (pe (pt AH (0 + 1)) (aa AR) (pe u1 (ab rfl ((S.boxAt 5 rfl) 1 _ rfl)) (pe (i_ (a1.length:Int)) (aA rfl ha1) (pe (.bool (decide (AQ < (a1.length:Int)))) (aH rfl rfl) (en Ch (oF F (fun A2 F=>?_) fun A2 F=>?_))))))
   ·refine ct A2 (sn Bv (sg fun _ Bw=>bg fun _ Bx=>sR fun _ Ci=>pa (i_ 0) (en Ci (sg fun _ By=>sR fun _ Cj=>pe (pt AH (0 + 1)) (aa AR) (pe u1 (ab rfl ((S.boxAt 5 rfl) 1 _ rfl)) (pM (i_ AQ) AV (oB F fun Bz BK F=>?_)))))));refine aS (wA:=w0) rfl ha1 rfl dt rfl BK dt ?_;intro C1 CK C2 BL BM;obtain ⟨_,_,rfl,BN,Bj⟩:=BL;obtain ⟨rfl,BO⟩:=BN;obtain ⟨BA,rfl⟩:=aQ Bj;refine pe (.agg #[.string Bz.1,BA]) (am (cs:=[.string Bz.1,BA]) rfl rfl (au S.below BM)) (pM (i_ AN) AU (oB F fun C3 BP F=>?_));refine ec0 rM (gR BO (S.up Bj) BP) (ca (ai rfl (ai rfl rfl))) S fun C4 CL S=>?_;refine en Cj (oF F (fun A3 F=>?_) fun A3 F=>?_)
    ·refine ct A3 (ac (pa (i_ 1) (en By (ac (pM AP A1 (pm (i_ 1) (pe (.agg #[i_ 1,i_ 1]) (aL [(0,[i_ 1]),(1,[i_ 1])] [i_ 1,i_ 1] (cg rfl (cg rfl rfl)) rfl) ?_)))))));refine az [i_ 1,i_ 1] rfl (by rfl) dt rfl dt S dt ?_;intro C5 C6 S CM;refine oB F fun Ck BQ F=>?_;have Bm:=S.boxRow 0 rfl;replace S:=S.t1;replace S:=S.int 1;replace S:=S.int 1;replace S:=S.pair;replace S:=S.one;refine aN rfl dt rfl dt S rfl rfl rfl (by simp) Bm BQ dt ?_;intro C7 BB S;refine pa BB (ae (bn Bx (tn Bw ?_)));replace S:=S.r1;refine ac (pM (i_ AQ) AV (oB F fun Bb BR F=>pe (i_ Bb) (aD rfl rfl BR) (pa (i_ Bb) (en Ba ?_))));replace S:=S.keep 6;exact ⟨BB,Ck,Bb,AR,A0,AO,AU,rfl,rfl,S,F⟩
    refine cf A3 (sn By (ac (pM AP A1 (pm (i_ 0) (pe (.agg #[i_ 0,i_ 1]) (aL [(0,[i_ 0]),(1,[i_ 1])] [i_ 0,i_ 1] (cg rfl (cg rfl rfl)) rfl) ?_)))));refine az [i_ 0,i_ 1] rfl (by rfl) dt rfl dt S dt ?_;intro C8 C9 S CN;refine oB F fun Cl BS F=>?_;have Bn:=S.boxRow 0 rfl;replace S:=S.t1;replace S:=S.int 1;replace S:=S.int 0;replace S:=S.pair;replace S:=S.one;refine aN rfl dt rfl dt S rfl rfl rfl (by simp) Bn BS dt ?_;intro Da BC S;refine pa BC (ae (bn Bx (tn Bw ?_)));replace S:=S.r1;refine ac (pM (i_ AQ) AV (oB F fun Bc BT F=>pe (i_ Bc) (aD rfl rfl BT) (pa (i_ Bc) (en Ba ?_))));replace S:=S.keep 6;exact ⟨BC,Cl,Bc,AR,A0,AO,AU,rfl,rfl,S,F⟩
   refine cf A2 (aF (tx Bv (tx Ba ?_)));replace F:=exB F BJ;refine bS Cf (tn Cd (sR fun _ Cm=>pe (pt AG (0 + 0)) (aa AO) (pe U (ab rfl ((S.boxAt 3 rfl) 0 _ rfl)) (pM AP A1 ?_))));refine az [AP] (aY rfl (oc (S.rdAt (R:=R6_) 0 rfl))) (by rfl) dt rfl dt S dt ?_;intro Db Co S CO;refine oB F fun Bd BU F=>?_;have Bo:=S.boxRow 0 rfl;replace S:=S.t3;replace S:=S.t2;replace S:=S.one;refine aN rfl dt rfl dt S rfl rfl rfl (by simp) Bo BU dt ?_;intro Dc AS S;refine pe (pt AG (0 + 0)) (aa AO) ?_;refine ah (S.top 3 rfl) rfl [AS] (aY rfl (oc (S.rdAt (R:=aT) 0 rfl))) rfl dt (all_cons (oc (S.rdAt (R:=aT) 0 rfl)) rfl) ?_;intro Cp S;replace S:Sat w0 Cp [Box AG 48 [AS,J,n_],Own aT [AS] Bd,Box Co 27 [AP],Own R6_ [J] AK,Box AJ 48 [n_,n_,n_],Box AH 32 [i_ a0,u1,u2]]:=S;refine en Cm ?_;replace S:=S.r2;refine ac (pe (pt AG (0 + 1)) (aa AO) (pe J (ab rfl ((S.boxAt 0 rfl) 1 _ rfl)) (pe (.agg #[i_ 1,i_ 1]) (aL [(0,[i_ 1]),(1,[i_ 1])] [i_ 1,i_ 1] (cg rfl (cg rfl rfl)) rfl) ?_)));refine az [i_ 1,i_ 1] rfl (by rfl) dt rfl dt S dt ?_;intro Dd Cq S CP;refine oB F fun BD BV F=>?_;have Bp:=S.boxRow 0 rfl;replace S:=S.t3;replace S:=S.int 1;replace S:=S.int 1;replace S:=S.pair;replace S:=S.one;refine aN rfl dt rfl dt S rfl rfl rfl (by simp) Bp BV dt ?_;intro De A4 S;refine pe (pt AG (0 + 1)) (aa AO) ?_;refine ah (S.top 2 rfl) rfl [A4] (aY rfl (oc (S.rdAt (R:=R6_) 0 rfl))) rfl dt (all_cons (oc (S.rdAt (R:=R6_) 0 rfl)) rfl) ?_;intro Cr S;replace S:Sat w0 Cr [Box AG 48 [AS,A4,n_],Own R6_ [A4] BD,Box Cq 68 [i_ 1,i_ 1],Own aT [AS] Bd,Box AJ 48 [n_,n_,n_],Box AH 32 [i_ a0,u1,u2]]:=S;refine ae (bn Cb (tn Ca ?_));replace S:=S.r2;refine ac (pM (i_ AN) AU (oB F fun Be BW F=>pe (i_ Be) (aD rfl rfl BW) (pa (i_ Be) (en Bs ?_))));replace S:=S.t4.t4.t2.t4.t4;replace S:=S.keep 5;exact ⟨AS,Bd,A4,BD,Be,AR,A0,AO,rfl,S,F⟩
  refine cf AZ (aF (tx Bt (tx Bs ?_)));replace F:=exB F BI;refine bS B7 (tn B5 (sg fun _ Cs=>sR fun _ Ct=>pa (i_ 0) (en Ct (bg fun _ Cu=>?_))));replace S:=S.nil R2_ 68;obtain ⟨Cv,hL,BX⟩:=ob F;refine aE (fun k e w=>∃ (AI:Value),∃ (A5:List T1_),∃ (AT:Int),e 1=pt AH 0∧e 2=pt AJ 0∧e 4=pt AG 0∧e 9=i_ AT∧Sat w0 w [Own R6_ [AI] A5,Own R6_ [J] AK,Own aT [U] AM,Box AG 48 [U,J,AI],Box AJ 48 [n_,n_,n_],Box AH 32 [i_ a0,u1,u2]]∧cO N k a0 a1 a2 [] [] [] AM AK A5 AT=some Cv) N ?_ ?_ ?_
  ·exact ⟨n_,[],0,AY,Bg,Bh,rfl,S,hL⟩
  ·rintro e w ⟨_,_,_,_,_,_,_,_,hz⟩; exact nn hz
  rintro k Df Dg ⟨AI,A5,AT,Bk,A6,AW,Bl,S,F⟩;refine gn fun _ BE=>sg fun _ BF=>sR fun _ Cw=>pM (i_ AT) Bl (pe (pt AH (0 + 1)) (aa Bk) (pe u1 (ab rfl ((S.boxAt 5 rfl) 1 _ rfl)) (pe (i_ (a1.length:Int)) (aA rfl ha1) (pe (.bool (decide (AT < (a1.length:Int)))) (aH rfl rfl) (en Cw (oF F (fun A7 F=>?_) fun A7 F=>?_))))))
  ·refine ct A7 (sn BF (sg fun _ Cx=>bg fun _ Cy=>ac (pe (pt AG (0 + 2)) (aa AW) (pe AI (ab rfl ((S.boxAt 3 rfl) 2 _ rfl)) (pe (.agg #[i_ 1,i_ 1]) (aL [(0,[i_ 1]),(1,[i_ 1])] [i_ 1,i_ 1] (cg rfl (cg rfl rfl)) rfl) ?_)))));refine az [i_ 1,i_ 1] rfl (by rfl) dt rfl dt S dt ?_;intro Dh Cz S CQ;refine oB F fun BG BY F=>?_;have Bq:=S.boxRow 0 rfl;replace S:=S.t1;replace S:=S.int 1;replace S:=S.int 1;replace S:=S.pair;replace S:=S.one;refine aN rfl dt rfl dt S rfl rfl rfl (by simp) Bq BY dt ?_;intro Di A8 S;refine pe (pt AG (0 + 2)) (aa AW) ?_;refine ah (S.top 4 rfl) rfl [A8] (aY rfl (oc (S.rdAt (R:=R6_) 0 rfl))) rfl dt (all_cons (oc (S.rdAt (R:=R6_) 0 rfl)) rfl) ?_;intro CA S;replace S:Sat w0 CA [Box AG 48 [U,J,A8],Own R6_ [A8] BG,Box Cz 68 [i_ 1,i_ 1],Own R6_ [J] AK,Own aT [U] AM,Box AJ 48 [n_,n_,n_],Box AH 32 [i_ a0,u1,u2]]:=S;refine ae (bn Cy (tn Cx ?_));replace S:=S.r2;refine ac (pM (i_ AT) Bl (oB F fun Bf BZ F=>pe (i_ Bf) (aD rfl rfl BZ) (pa (i_ Bf) (en BE ?_))));replace S:=S.t5.t5.t2.t5.t5.t5;replace S:=S.keep 6;exact ⟨A8,BG,Bf,Bk,A6,AW,rfl,S,F⟩
  refine cf A7 (aF (tx BF (tx BE ?_)));replace F:=exB F BX;refine bS Cu (tn Cs (sg fun _ CB=>?_));replace S:=S.r5;refine ac (pe (.agg #[U,J,AI]) (am (cs:=[U,J,AI]) AW rfl (aq (S.boxAt 3 rfl))) ?_);refine ah (S.top 4 rfl) A6 [U,J,AI] rfl rfl dt (all_cons (oc (S.rdAt (R:=aT) 2 rfl)) (all_cons (oc (S.rdAt (R:=R6_) 1 rfl)) (all_cons (oc (S.rdAt (R:=R6_) 0 rfl)) rfl))) ?_;intro CC S;replace S:Sat w0 CC [Box AJ 48 [U,J,AI],Own R6_ [AI] A5,Own R6_ [J] AK,Own aT [U] AM,Box AG 48 [U,J,AI]]:=S;refine pa (.bool true) (en CB (ag ?_));refine bc (cs:=[U,J,AI]) rfl A6 rfl (aq (S.boxAt 0 rfl)) rfl ?_;replace S:=S.t1.t2.t3;have hr:=oI F;exact ⟨U,J,AI,cR hr fun r=>.tuple #[.agg #[U,J,AI],.bool r.2],sP hr (fun r=>[Own aT [U] r.1.1,Own R6_ [J] r.1.2.1,Own R6_ [AI] r.1.2.2]) (S.keep 3)⟩
 refine ct (ak AX) (sg fun _ CD=>?_);replace S:=S.r1;refine ac (pe (.agg #[n_,n_,n_]) (aL [] [n_,n_,n_] rfl rfl) ?_);refine ah (S.top 0 rfl) rfl [n_,n_,n_] rfl rfl dt (all_cons rfl (all_cons rfl (all_cons rfl rfl))) ?_;intro CE S;replace S:Sat w0 CE [Box AJ 48 [n_,n_,n_]]:=S;refine pa (.bool false) (en CD (ag (tr Br ?_)));replace S:=S.nil R6_ 27;replace S:=S.nil R2_ 68;replace S:=S.nil R2_ 68;refine bc (cs:=[n_,n_,n_]) rfl rfl rfl (aq (S.boxAt 3 rfl)) rfl ?_;replace S:=S.t1.t2;have hr:=oI F;exact ⟨n_,n_,n_,cR hr fun r=>.tuple #[.agg #[n_,n_,n_],.bool r.2],sP hr (fun r=>[Own aT [n_] r.1.1,Own R6_ [n_] r.1.2.1,Own R6_ [n_] r.1.2.2]) (S.keep 3)⟩
theorem jI {w0:World} {a0:Int} {a1:Int}  {N:Nat} {r:Int} (F:d7 N a0 a1=some r): Calls Tryz.prog 116 #[i_ a0,i_ a1] w0 fun e w'=>e=.returned (i_ r)∧Ext w0 w' := by
 unfold d7 at F;refine aI Tryz.func116 rfl rfl dt ?_;have S:=Sat.start w0;refine sR fun _ AP=>pa (i_ 0) (en AP (sg fun _ AQ=>bg fun _ AR=>?_));obtain ⟨AS,hL,AN⟩:=ob F;refine aE (fun k e w=>∃ (U:Int),∃ (J:Int),e 0=i_ U∧e 1=i_ J∧Sat w0 w []∧cV N k U J=some AS) N ?_ ?_ ?_
 ·exact ⟨a0,a1,rfl,rfl,S,hL⟩
 ·rintro e w ⟨_,_,_,_,_,hz⟩; exact nn hz
 rintro k AY AZ ⟨U,J,AJ,AH,S,F⟩;refine gn fun _ AK=>sg fun _ AM=>sR fun _ AT=>pM (i_ J) AH (pe (.bool (J != 0)) (dl rfl rfl) (en AT (oF F (fun AI F=>?_) fun AI F=>?_)))
 ·refine ct AI (sn AM (bg fun _ AU=>sR fun _ AV=>pM (i_ U) AJ (pM (i_ J) AH (oB F fun AG AO F=>pe (i_ AG) (jB rfl rfl AO) (pa (i_ AG) (en AV (sR fun _ AW=>pM (i_ J) AH (pa (i_ J) (en AW (ac (pm (i_ AG) (pa (i_ AG) (ae (bn AU (tn AK ?_)))))))))))))));replace S:=S.keep 0;exact ⟨J,AG,rfl,rfl,S,F⟩
 refine cf AI (aF (tx AM (tx AK ?_)));replace F:=exB F AN;refine bS AR (tn AQ (sR fun _ AX=>pM (i_ U) AJ (pa (i_ U) (en AX (ag (aJ rfl rfl ?_))))));exact rI F S
theorem bi {w0:World} {a0:Int} {a1:Int}  {N:Nat} {r:Bool} (F:ax N a0 a1=some r): Calls Tryz.prog 100 #[.agg #[i_ a0,i_ a1]] w0 fun e w'=>e=.returned (.bool r)∧Ext w0 w' := by
 unfold ax at F;refine aI Tryz.func100 rfl rfl dt ?_;have S:=Sat.start w0;refine sR fun _ AQ=>?_;refine bw [i_ a0,i_ a1] rfl S dt ?_;intro AW AG S AS;refine pa (.bool false) (en AQ (sR fun _ AH=>pe (pt AG (0 + 1)) (aa rfl) (pe (i_ a1) (ab rfl ((S.boxAt 0 rfl) 1 _ rfl)) (oB F fun AR AM F=>?_))));refine ec0 gI (cX AM) (ca (ai rfl (ai rfl (ai rfl rfl)))) S fun AX AT S=>?_;refine pm (.bool AR) (oF F (fun U F=>?_) fun U F=>?_)
 ·refine ei U (pe (pt AG (0 + 0)) (aa rfl) (ei U (pe (i_ a0) (ab rfl ((S.boxAt 0 rfl) 0 _ rfl)) (ei U (oB F fun AJ AN F=>?_)))));refine ec0 gI (cX AN) (ca (ai rfl (ai rfl (ai rfl rfl)))) S fun AY AU S=>?_;refine pe (.bool AJ) (aw rfl U rfl) (pm (.bool AJ) (oF F (fun J F=>?_) fun J F=>?_))
  ·refine ei J (pe (pt AG (0 + 0)) (aa rfl) (ei J (pe (i_ a0) (ab rfl ((S.boxAt 0 rfl) 0 _ rfl)) (ei J (pe (pt AG (0 + 0)) (aa rfl) (ei J (pe (i_ a0) (ab rfl ((S.boxAt 0 rfl) 0 _ rfl)) (ei J (oB F fun AK AO F=>pe (i_ AK) (iR rfl AO) (ei J (pe (i_ (imx a0 AK)) (pA rfl rfl) (ei J (pe (pt AG (0 + 1)) (aa rfl) (ei J (pe (i_ a1) (ab rfl ((S.boxAt 0 rfl) 1 _ rfl)) (ei J (oB F fun AI AP F=>?_)))))))))))))))));refine ec0 nN (jI AP) (ca (ai rfl (ai rfl rfl))) S fun AZ AV S=>?_;refine ei J (pe (.bool (AI == 1)) (cz rfl rfl) (pe (.bool (AI == 1)) (aw rfl J rfl) (pa (.bool (AI == 1)) (en AH (ag (aJ rfl rfl ?_))))));exact rB F S
  refine eo J (eo J (eo J (eo J (eo J (eo J (eo J (eo J (eo J (eo J (pe (.bool false) (ay rfl J rfl) (pa (.bool false) (en AH (ag (aJ rfl rfl ?_))))))))))))));exact rB F S
 refine eo U (eo U (eo U (pe (.bool false) (ay rfl U rfl) (pm (.bool false) (eo rfl (eo rfl (eo rfl (eo rfl (eo rfl (eo rfl (eo rfl (eo rfl (eo rfl (eo rfl (pe (.bool false) (ay rfl rfl rfl) (pa (.bool false) (en AH (ag (aJ rfl rfl ?_)))))))))))))))))));exact rB F S
end
section
set_option maxRecDepth 100000
set_option maxHeartbeats 4000000
theorem io {w0:World} {u0:Value} {a0:List T3_} {a1:Int} {a2:Int} (ha0:aT.rd w0 [u0] a0) {N:Nat} {r:Bool} (F:dh N a0 a1 a2=some r): Calls Tryz.prog 89 #[u0,i_ a1,i_ a2] w0 fun e w'=>e=.returned (.bool r)∧Ext w0 w' := by
 unfold dh at F;refine aI Tryz.func89 rfl rfl dt ?_;have S:=Sat.start w0;refine sR fun _ Bq=>pa (.bool false) (en Bq (sg fun _ AU=>sR fun _ Br=>pa (i_ 0) (en Br (bg fun _ AV=>?_))));obtain ⟨Bs,hL,AH⟩:=ob F;refine aE (fun k e w=>∃ (J:Int),e 0=u0∧e 1=i_ a1∧e 2=i_ a2∧e 7=i_ J∧Sat w0 w []∧c4 N k a0 a1 a2 J=some Bs) N ?_ ?_ ?_
 ·exact ⟨0,rfl,rfl,rfl,rfl,S,hL⟩
 ·rintro e w ⟨_,_,_,_,_,_,hz⟩; exact nn hz
 rintro k BJ BK ⟨J,AG,A1,A2,AI,S,F⟩;refine gn fun _ AJ=>sg fun _ A7=>sR fun _ Bt=>pM (i_ J) AI (pM u0 AG (pe (i_ (a0.length:Int)) (aA rfl ha0) (pe (.bool (decide (J < (a0.length:Int)))) (aH rfl rfl) (en Bt (oF F (fun AK F=>?_) fun AK F=>?_)))))
 ·refine ct AK (sn A7 (sg fun _ AW=>bg fun _ AX=>sg fun _ A8=>sR fun _ Bu=>pM u0 AG (pM (i_ J) AI (oB F fun A9 Be F=>?_))));refine aS (wA:=w0) rfl ha0 rfl dt rfl Be dt ?_;intro BL BF BM A3 Bf;obtain ⟨Bv,rfl⟩:=aQ A3;refine pe Bv (ab rfl ((au S.below Bf) 0 _ rfl)) (pe (i_ (A9.length:Int)) (aA rfl A3) (pM (i_ a2) A2 (pe (.bool ((A9.length:Int) != a2)) (dl rfl rfl) (en Bu (oF F (fun AM F=>?_) fun AM F=>?_)))))
  ·refine ct AM (sR fun _ Bw=>pa (.bool false) (en Bw (ag (tr A8 (br AX (tr AW (tr AJ (br AV (tr AU ?_)))))))));replace F:=exL F AH;refine aJ rfl rfl ?_;exact rB F S
  refine cf AM (sn A8 (sR fun _ Bx=>pa (i_ 0) (en Bx (bg fun _ Ba=>?_))));obtain ⟨By,hL,A4⟩:=ob F;refine aE (fun k e w=>∃ (U:Int),e 0=u0∧e 1=i_ a1∧e 2=i_ a2∧e 7=i_ J∧e 8=i_ U∧Sat w0 w []∧cZ N k a0 a1 a2 J U=some By) N ?_ ?_ ?_
  ·exact ⟨0,AG,A1,A2,AI,rfl,S,hL⟩
  ·rintro e w ⟨_,_,_,_,_,_,_,hz⟩; exact nn hz
  rintro k BN BO ⟨U,AN,A5,AO,AP,AQ,S,F⟩;refine gn fun _ AY=>sg fun _ Bb=>sR fun _ Bz=>pM (i_ U) AQ (pM (i_ a2) AO (pe (.bool (decide (U < a2))) (aH rfl rfl) (en Bz (oF F (fun AR F=>?_) fun AR F=>?_))))
  ·refine ct AR (sn Bb (sg fun _ Bc=>bg fun _ Bd=>sR fun _ BA=>pM u0 AN (pM (i_ J) AP (oB F fun BP Bg F=>?_))));refine aS (wA:=w0) rfl ha0 rfl dt rfl Bg dt ?_;intro BQ BG BR A6 Bh;obtain ⟨BB,rfl⟩:=aQ A6;refine pe BB (ab rfl ((au S.below Bh) 0 _ rfl)) (pM (i_ U) AQ (oB F fun AS Bi F=>?_));refine aS (wA:=w0) rfl A6 rfl dt rfl Bi dt ?_;intro BS BH BT Bj Bk;obtain ⟨_,_,rfl,Bl,Bm⟩:=Bj;obtain rfl:=Bl;obtain rfl:=Bm;refine pe (.agg #[i_ AS.1,i_ AS.2]) (am (cs:=[i_ AS.1,i_ AS.2]) rfl rfl (au S.below Bk)) (oB F fun BC Bn F=>?_);refine ec0 fU (bi Bn) (ca (ai rfl rfl)) S fun BU BI S=>?_;refine pe (.bool (!BC)) (aK rfl) (en BA (oF F (fun AT F=>?_) fun AT F=>?_))
   ·refine cf (aj AT) (bf (bn Bd (tn Bc (ac (pM (i_ U) AQ (oB F fun AZ Bo F=>pe (i_ AZ) (aD rfl rfl Bo) (pa (i_ AZ) (en AY ?_))))))));replace S:=S.keep 0;exact ⟨AZ,AN,A5,AO,AP,rfl,S,F⟩
   refine ct (ak AT) (sR fun _ BD=>pa (.bool false) (en BD (ag (br Bd (tr Bc (tr AY (br Ba (br AX (tr AW (tr AJ (br AV (tr AU ?_))))))))))));replace F:=exL F A4;replace F:=exL F AH;refine aJ rfl rfl ?_;exact rB F S
  refine cf AR (aF (tx Bb (tx AY ?_)));replace F:=exA F A4;refine bS Ba (bn AX (tn AW (ac (pM (i_ J) AP (oB F fun A0 Bp F=>pe (i_ A0) (aD rfl rfl Bp) (pa (i_ A0) (en AJ ?_)))))));replace S:=S.keep 0;exact ⟨A0,AN,A5,AO,rfl,S,F⟩
 refine cf AK (aF (tx A7 (tx AJ ?_)));replace F:=exA F AH;refine bS AV (tn AU (sR fun _ BE=>pM u0 AG (pe (i_ (a0.length:Int)) (aA rfl ha0) (pM (i_ a1) A1 (pe (.bool ((a0.length:Int) == a1)) (cz rfl rfl) (pa (.bool ((a0.length:Int) == a1)) (en BE (ag (aJ rfl rfl ?_)))))))));exact rB F S
theorem iv {w0:World} {u0:Value} {a0:List T3_} {u1:Value} {a1:List T1_} {u2:Value} {a2:List T1_} (ha0:aT.rd w0 [u0] a0) (ha1:R6_.rd w0 [u1] a1) (ha2:R6_.rd w0 [u2] a2) {N:Nat} {r:Bool} (F:bN N a0 a1 a2=some r): Calls Tryz.prog 52 #[.agg #[u0,u1,u2]] w0 fun e w'=>e=.returned (.bool r)∧Ext w0 w' := by
 unfold bN at F;refine aI Tryz.func52 rfl rfl dt ?_;have S:=Sat.start w0;refine sR fun _ AU=>?_;refine bw [u0,u1,u2] rfl S dt ?_;intro A6 AI S AY;refine pa (.bool false) (en AU (sR fun _ AV=>pe (pt AI (0 + 2)) (aa rfl) (pe u2 (ab rfl ((S.boxAt 0 rfl) 2 _ rfl)) (pe (i_ (a2.length:Int)) (aA rfl ha2) (pa (i_ (a2.length:Int)) (en AV (sR fun _ AW=>pe (pt AI (0 + 1)) (aa rfl) (pe u1 (ab rfl ((S.boxAt 0 rfl) 1 _ rfl)) (pe (i_ (a1.length:Int)) (aA rfl ha1) (pa (i_ (a1.length:Int)) (en AW (sR fun _ AJ=>pm (i_ (a2.length:Int)) (oB F fun AX AP F=>?_)))))))))))));refine ec0 gI (cX AP) (ca (ai rfl (ai rfl (ai rfl rfl)))) S fun A7 AZ S=>?_;refine pm (.bool AX) (oF F (fun AH F=>?_) fun AH F=>?_)
 ·refine ei AH (pm (i_ (a1.length:Int)) (ei AH (oB F fun AK AQ F=>?_)));refine ec0 gI (cX AQ) (ca (ai rfl (ai rfl (ai rfl rfl)))) S fun A8 A0 S=>?_;refine pe (.bool AK) (aw rfl AH rfl) (pm (.bool AK) (oF F (fun J F=>?_) fun J F=>?_))
  ·refine ei J (pe (pt AI (0 + 0)) (aa rfl) (ei J (pe u0 (ab rfl ((S.boxAt 0 rfl) 0 _ rfl)) (ei J (pm (i_ (a1.length:Int)) (ei J (pm (i_ (a2.length:Int)) (ei J (oB F fun AM AR F=>?_)))))))));refine ec0 oZ (io (S.up ha0) AR) (ca (ai rfl (ai rfl (ai rfl rfl)))) S fun A9 A1 S=>?_;refine pe (.bool AM) (aw rfl J rfl) (pm (.bool AM) (oF F (fun U F=>?_) fun U F=>?_))
   ·refine ei U (pe (pt AI (0 + 2)) (aa rfl) (ei U (pe u2 (ab rfl ((S.boxAt 0 rfl) 2 _ rfl)) (ei U ?_))));refine az [u2] (aY rfl (oc ha2)) (by rfl) dt rfl dt S dt ?_;intro Ba Bb S A2;replace S:=S.roOne (R:=R6_) (W:=w0) ha2;replace S:=S.t1;replace S:=S.lit1;refine ei U (pm (i_ (a2.length:Int)) (ei U (oB F fun AN AS F=>?_)));refine ec0 oZ (io (tF S.below (S.rdAt (R:=(aG (roR w0 R6_) 27)) 0 rfl)) AS) (ca (ai rfl (ai rfl (ai rfl rfl)))) S fun Bc A3 S=>?_;refine pe (.bool AN) (aw rfl U rfl) (pm (.bool AN) (oF F (fun AG F=>?_) fun AG F=>?_))
    ·refine ei AG (pe (pt AI (0 + 1)) (aa rfl) (ei AG (pe u1 (ab rfl ((S.boxAt 1 rfl) 1 _ rfl)) (ei AG ?_))));refine az [u1] (aY rfl (oc ha1)) (by rfl) dt rfl dt S dt ?_;intro Bd Be S A4;replace S:=S.roOne (R:=R6_) (W:=w0) ha1;replace S:=S.t1;replace S:=S.lit1;refine ei AG (pm (i_ (a1.length:Int)) (ei AG (oB F fun AO AT F=>?_)));refine ec0 oZ (io (tF S.below (S.rdAt (R:=(aG (roR w0 R6_) 27)) 0 rfl)) AT) (ca (ai rfl (ai rfl (ai rfl rfl)))) S fun Bf A5 S=>?_;refine pe (.bool AO) (aw rfl AG rfl) (pa (.bool AO) (en AJ (ag (aJ rfl rfl ?_))));exact rB F S
    refine eo AG (eo AG (eo AG (eo AG (eo AG (pe (.bool false) (ay rfl AG rfl) (pa (.bool false) (en AJ (ag (aJ rfl rfl ?_)))))))));exact rB F S
   refine eo U (eo U (eo U (eo U (eo U (pe (.bool false) (ay rfl U rfl) (pm (.bool false) (eo rfl (eo rfl (eo rfl (eo rfl (eo rfl (pe (.bool false) (ay rfl rfl rfl) (pa (.bool false) (en AJ (ag (aJ rfl rfl ?_))))))))))))))));exact rB F S
  refine eo J (eo J (eo J (eo J (eo J (pe (.bool false) (ay rfl J rfl) (pm (.bool false) (eo rfl (eo rfl (eo rfl (eo rfl (eo rfl (pe (.bool false) (ay rfl rfl rfl) (pm (.bool false) (eo rfl (eo rfl (eo rfl (eo rfl (eo rfl (pe (.bool false) (ay rfl rfl rfl) (pa (.bool false) (en AJ (ag (aJ rfl rfl ?_)))))))))))))))))))))));exact rB F S
 refine eo AH (eo AH (pe (.bool false) (ay rfl AH rfl) (pm (.bool false) (eo rfl (eo rfl (eo rfl (eo rfl (eo rfl (pe (.bool false) (ay rfl rfl rfl) (pm (.bool false) (eo rfl (eo rfl (eo rfl (eo rfl (eo rfl (pe (.bool false) (ay rfl rfl rfl) (pm (.bool false) (eo rfl (eo rfl (eo rfl (eo rfl (eo rfl (pe (.bool false) (ay rfl rfl rfl) (pa (.bool false) (en AJ (ag (aJ rfl rfl ?_)))))))))))))))))))))))))));exact rB F S
theorem jD {w0:World} {u0:Value} {a0:List T1_} {u1:Value} {a1:List T1_} (ha0:R6_.rd w0 [u0] a0) (ha1:R6_.rd w0 [u1] a1) {N:Nat} {r:Bool} (F:cE N a0 a1=some r): Calls Tryz.prog 20 #[u0,u1] w0 fun e w'=>e=.returned (.bool r)∧Ext w0 w' := by
 unfold cE at F;refine aI Tryz.func20 rfl rfl dt ?_;have S:=Sat.start w0;refine sR fun _ A9=>pa (.bool false) (en A9 (sg fun _ AR=>sR fun _ Ba=>pm u0 (pe (i_ (a0.length:Int)) (aA rfl ha0) (pm u1 (pe (i_ (a1.length:Int)) (aA rfl ha1) (pe (.bool ((a0.length:Int) != (a1.length:Int))) (dl rfl rfl) (en Ba (oF F (fun AI F=>?_) fun AI F=>?_))))))))
 ·refine ct AI (sR fun _ Bb=>pa (.bool false) (en Bb (ag (tr AR (aJ rfl rfl ?_)))));exact rB F S
 refine cf AI (sn AR (sg fun _ AS=>sR fun _ Bc=>pa (i_ 0) (en Bc (bg fun _ AT=>?_))));obtain ⟨Bd,hL,AP⟩:=ob F;refine aE (fun k e w=>∃ (J:Int),e 0=u0∧e 1=u1∧e 5=i_ J∧Sat w0 w []∧bB N k a0 a1 J=some Bd) N ?_ ?_ ?_
 ·exact ⟨0,rfl,rfl,rfl,S,hL⟩
 ·rintro e w ⟨_,_,_,_,_,hz⟩; exact nn hz
 rintro k Bk Bl ⟨J,AJ,AQ,AH,S,F⟩;refine gn fun _ AN=>sg fun _ AU=>sR fun _ Be=>pM (i_ J) AH (pM u0 AJ (pe (i_ (a0.length:Int)) (aA rfl ha0) (pe (.bool (decide (J < (a0.length:Int)))) (aH rfl rfl) (en Be (oF F (fun AK F=>?_) fun AK F=>?_)))))
 ·refine ct AK (sn AU (sg fun _ AV=>bg fun _ AW=>sg fun _ Bf=>?_));refine et (by kernel_rfl) (by kernel_rfl) ?_;refine qM u0 AJ (qM (i_ J) AH (oB F fun U AX F=>?_));refine cP (wA:=w0) rfl ha0 rfl dt rfl AX dt ?_;intro Bm Bi Bn AY AZ;obtain ⟨_,_,rfl,A0,A1⟩:=AY;obtain rfl:=A0;obtain rfl:=A1;refine qe (.agg #[i_ U.1,i_ U.2]) (am (cs:=[i_ U.1,i_ U.2]) rfl rfl (au S.below AZ)) (qM u1 AQ (qM (i_ J) AH (oB F fun AG A2 F=>?_)));refine cP (wA:=w0) rfl ha1 rfl dt rfl A2 dt ?_;intro Bo Bj Bp A3 A4;obtain ⟨_,_,rfl,A5,A6⟩:=A3;obtain rfl:=A5;obtain rfl:=A6;refine qe (.agg #[i_ AG.1,i_ AG.2]) (am (cs:=[i_ AG.1,i_ AG.2]) rfl rfl (au S.below A4)) (qe (.bool (!(U.1 == AG.1 && U.2 == AG.2))) (s9 Tryz.underlying68 rfl dt dt rfl rfl Tryz.underlying3 Tryz.underlying3 Tryz.stoodInHeld68 Tryz.eqGuardType68 rfl rfl) (eH ?_));intro Bq A7;replace S:=S.ext A7;refine tn Bf (oF F (fun AM F=>?_) fun AM F=>?_)
  ·refine cf (aj AM) (bf (bn AW (tn AV (ac (pM (i_ J) AH (oB F fun AO A8 F=>pe (i_ AO) (aD rfl rfl A8) (pa (i_ AO) (en AN ?_))))))));replace S:=S.keep 0;exact ⟨AO,AJ,AQ,rfl,S,F⟩
  refine ct (ak AM) (sR fun _ Bg=>pa (.bool false) (en Bg (ag (br AW (tr AV (tr AN (br AT (tr AS ?_))))))));replace F:=exL F AP;refine aJ rfl rfl ?_;exact rB F S
 refine cf AK (aF (tx AU (tx AN ?_)));replace F:=exA F AP;refine bS AT (tn AS (sR fun _ Bh=>pa (.bool true) (en Bh (ag (aJ rfl rfl ?_)))));exact rB F S
theorem oV (N:Nat):∀ {w0:World} {a0:Int} {a1:Int} {a2:Int}  {r:T2_} (_:dw N a0 a1 a2=some r), Calls Tryz.prog 90 #[i_ a0,i_ a1,i_ a2] w0 fun e w'=>∃ (q0:Value),e=.returned (q0)∧Sat w0 w' [Own R4_ [q0] r] := by
 induction N with
 | zero=>intros; exact nomatch (show none=some _ by assumption)
 | succ N ih=>
  intro w0 a0 a1 a2 r F;refine aI Tryz.func90 rfl rfl dt ?_;have S:=Sat.start w0;refine sR fun _ Bs=>pa n_ (en Bs (sg fun _ A6=>sR fun _ Bt=>pm (i_ a2) (pe (.bool (a2 == 0)) (cz rfl rfl) (en Bt (oF F (fun AJ F=>?_) fun AJ F=>?_)))))
  ·refine ct AJ (sR fun _ Bu=>?_);refine aV bW S dt ?_;intro B1 Bv S BT;refine az [Bv] (aY rfl (oc (S.rdAt (R:=R0_) 0 rfl))) (by rfl) dt rfl dt S dt ?_;intro B2 AK S BU;replace S:=S.t1;replace S:=S.t1;replace S:=S.lit1;refine pa (.slice (some ⟨AK,0,none⟩) 1 1) (en Bu (ag (tr A6 (aJ rfl rfl ?_))));have hr:=oI F;exact ⟨(.slice (some ⟨AK,0,none⟩) 1 1),cR hr fun r=>(.slice (some ⟨AK,0,none⟩) 1 1),sP hr (fun r=>[Own R4_ [(.slice (some ⟨AK,0,none⟩) 1 1)] r]) (S.keep 1)⟩
  refine cf AJ (sn A6 (sR fun _ Bw=>?_));refine aV R0_ S dt ?_;intro B3 A7 S BV;refine pa A7 (en Bw (sg fun _ Bx=>sR fun _ By=>pm (i_ a0) (pa (i_ a0) (en By (bg fun _ Bz=>?_)))));obtain ⟨BA,hL,Be⟩:=ob F;refine aE (fun k e w=>∃ (U:Value),∃ (AM:List T0_),∃ (J:Int),e 1=i_ a1∧e 2=i_ a2∧e 7=U∧e 8=i_ J∧Sat w0 w [Own R4_ [U] AM]∧gq (dw N) N k a1 a2 AM J=some BA) N ?_ ?_ ?_
  ·exact ⟨A7,[],a0,rfl,rfl,rfl,rfl,S,hL⟩
  ·rintro e w ⟨_,_,_,_,_,_,_,_,hz⟩; exact nn hz
  rintro k B4 B5 ⟨U,AM,J,AN,AO,AZ,AP,S,F⟩;refine gn fun _ A8=>sg fun _ A9=>sR fun _ BB=>pM (i_ J) AP (pM (i_ a2) AO (oB F fun Ba Bf F=>pe (i_ Ba) (aD rfl rfl Bf) (pM (i_ a1) AN (pe (.bool (decide (Ba ≤ a1))) (lF rfl rfl) (en BB (oF F (fun AQ F=>?_) fun AQ F=>?_))))))
  ·refine ct AQ (sn A9 (sg fun _ BC=>bg fun _ BD=>sR fun _ BE=>pM (i_ J) AP (oB F fun BF Bg F=>pe (i_ BF) (aD rfl rfl Bg) (pM (i_ a1) AN (pM (i_ a2) AO (oB F fun BG Bh F=>pe (i_ BG) (fN rfl rfl Bh) (oB F fun AR Bi F=>?_)))))));refine ec1 vi (ih Bi) (ca (ai rfl (ai rfl (ai rfl rfl)))) S fun B6 AH BW S=>?_;refine pa AH (en BE (sR fun _ BH=>pa (i_ 0) (en BH (bg fun _ BI=>?_))));obtain ⟨BJ,hL,Bj⟩:=ob F;refine aE (fun k e w=>∃ (AI:Value),∃ (AS:List T0_),∃ (AG:Int),e 1=i_ a1∧e 2=i_ a2∧e 7=AI∧e 8=i_ J∧e 9=AH∧e 10=i_ AG∧Sat w0 w [Own R4_ [AH] AR,Own R4_ [AI] AS]∧dU (dw N) N k a1 a2 AS J AR AG=some BJ) N ?_ ?_ ?_
   ·exact ⟨U,AM,0,AN,AO,AZ,AP,rfl,rfl,S,hL⟩
   ·rintro e w ⟨_,_,_,_,_,_,_,_,_,_,hz⟩; exact nn hz
   rintro k B7 B8 ⟨AI,AS,AG,A0,A1,A2,AT,AU,AV,S,F⟩;refine gn fun _ Bb=>sg fun _ Bc=>sR fun _ BK=>pM (i_ AG) AV (pM AH AU (pe (i_ (AR.length:Int)) (aA rfl (S.rdAt (R:=R4_) 0 rfl)) (pe (.bool (decide (AG < (AR.length:Int)))) (aH rfl rfl) (en BK (oF F (fun AW F=>?_) fun AW F=>?_)))))
   ·refine ct AW (sn Bc (sg fun _ BL=>bg fun _ BM=>ac (pM AI A2 (pM (i_ J) AT ?_))));refine az [i_ J] rfl (by rfl) dt rfl dt S dt ?_;intro BN B9 S BX;replace S:=S.int J;replace S:=S.t1;replace S:=S.lit1;refine pM AH AU (pM (i_ AG) AV (oB F fun BO Bk F=>?_));refine aS (wA:=BN) rfl (S.rdAt (R:=R4_) 1 rfl) rfl dt rfl Bk dt ?_;intro Ca BY Cb A3 Bl;obtain ⟨BP,rfl⟩:=aQ A3;refine pe BP (ab rfl (Bl 0 _ rfl)) (oB F fun Cc Bm F=>?_);obtain ⟨BZ,Cd,Bn,Bo,A4⟩:=oT A3;replace S:=S.ints (xs:=BO);refine aN rfl dt rfl dt S rfl (rfl.trans Bn) rfl Bo A4 Bm dt ?_;intro Ce BQ S;refine az [BQ] (aY rfl (oc (S.rdAt (R:=R0_) 0 rfl))) (by rfl) dt rfl dt S dt ?_;intro Cf Cg S B0;refine oB F fun BR Bp F=>?_;have A5:=S.boxRow 0 rfl;replace S:=S.t3;replace S:=S.t2;replace S:=S.one;refine aN rfl dt rfl dt S rfl rfl rfl (by simp) A5 Bp dt ?_;intro Ch Bd S;refine pa Bd (ae (bn BM (tn BL ?_)));replace S:=S.r1;refine ac (pM (i_ AG) AV (oB F fun AX Bq F=>pe (i_ AX) (aD rfl rfl Bq) (pa (i_ AX) (en Bb ?_))));replace S:=S.t1;replace S:=S.keep 2;exact ⟨Bd,BR,AX,A0,A1,rfl,AT,AU,rfl,S,F⟩
   refine cf AW (aF (tx Bc (tx Bb ?_)));replace F:=exB F Bj;refine bS BI (bn BD (tn BC ?_));replace S:=S.r0;refine ac (pM (i_ J) AT (oB F fun AY Br F=>pe (i_ AY) (aD rfl rfl Br) (pa (i_ AY) (en A8 ?_))));replace S:=S.keep 1;exact ⟨AI,AS,AY,A0,A1,A2,rfl,S,F⟩
  refine cf AQ (aF (tx A9 (tx A8 ?_)));replace F:=exB F Be;refine bS Bz (tn Bx (sR fun _ BS=>pM U AZ (pa U (en BS (ag (aJ rfl rfl ?_))))));have hr:=oI F;exact ⟨U,cR hr fun r=>U,sP hr (fun r=>[Own R4_ [U] r]) (S.keep 1)⟩
theorem pP {w0 : World} {a0 : Int} {a1 : Int} {a2 : Int}  {N : Nat} {r : T2_} (hF : dw N a0 a1 a2 = some r) :
    Calls Tryz.prog 90 #[.int .i64 a0, .int .i64 a1, .int .i64 a2] w0 fun e w' => ∃ (q0 : Value), e = .returned (q0) ∧ Sat w0 w' [Own R4_ [q0] r] := oV N hF
theorem i3 {w0:World} {a0:Int} {a1:Int}  {N:Nat} {r:T1_ × Bool} (F:bz N a0 a1=some r): Calls Tryz.prog 138 #[i_ a0,i_ a1] w0 fun e w'=>e=.returned (.tuple #[.agg #[i_ r.1.1,i_ r.1.2],.bool r.2])∧Ext w0 w' := by
 unfold bz at F;refine aI Tryz.func138 rfl rfl dt ?_;have S:=Sat.start w0;refine sR fun _ Bn=>?_;refine aC S dt ?_;intro B0 AK S BR;refine pa (.bool false) (en Bn (sR fun _ Bo=>pa (i_ 4000000000000000000) (en Bo (sg fun _ AN=>sR fun _ AT=>pm (i_ a1) (pe (.bool (a1 == 0)) (cz rfl rfl) (pm (.bool (a1 == 0)) (oF F (fun J F=>?_) fun J F=>?_)))))))
 ·refine eo J (eo J (eo J (eo J (eo J (eo J (pe (.bool true) (aw rfl J rfl) (pm (.bool true) (eo rfl (eo rfl (eo rfl (eo rfl (eo rfl (eo rfl (pe (.bool true) (aw rfl rfl rfl) (en AT (ct rfl (sR fun _ Bp=>pe (.agg #[i_ 0,i_ 0]) (aL [] [i_ 0,i_ 0] rfl rfl) ?_)))))))))))))))));refine ah (S.top 0 rfl) rfl [i_ 0,i_ 0] rfl rfl dt (all_cons rfl (all_cons rfl rfl)) ?_;intro Bq S;replace S:Sat w0 Bq [Box AK 68 [i_ 0,i_ 0]]:=S;refine pa (.bool false) (en Bp (ag (tr AN ?_)));refine bc (cs:=[i_ 0,i_ 0]) rfl rfl rfl (aq (S.boxAt 0 rfl)) rfl ?_;have hr:=oI F;exact ⟨cR hr fun r=>.tuple #[.agg #[i_ r.1.1,i_ r.1.2],.bool r.2],S.below⟩
 refine ei J (pm (i_ a0) (ei J (pm (i_ 4000000000000000000) (ei J (oB F fun Br A5 F=>pe (i_ Br) (iR rfl A5) (ei J (pm (i_ 4000000000000000000) (ei J (oB F fun AU A6 F=>?_)))))))));refine ec0 gI (cX A6) (ca (ai rfl (ai rfl (ai rfl rfl)))) S fun B1 BS S=>?_;refine ei J (pe (.bool (!AU)) (aK rfl) (pe (.bool (!AU)) (ay rfl J rfl) (pm (.bool (!AU)) (oF F (fun U F=>?_) fun U F=>?_))))
 ·refine ei (aj U) (pm (i_ a1) (ei (aj U) (pm (i_ 4000000000000000000) (ei (aj U) (oB F fun Bs A7 F=>pe (i_ Bs) (iR rfl A7) (ei (aj U) (pm (i_ 4000000000000000000) (ei (aj U) (oB F fun AX A8 F=>?_)))))))));refine ec0 gI (cX A8) (ca (ai rfl (ai rfl (ai rfl rfl)))) S fun B2 BT S=>?_;refine ei (aj U) (pe (.bool (!AX)) (aK rfl) (pe (.bool (!AX)) (ay rfl (aj U) rfl) (en AT (oF F (fun AO F=>?_) fun AO F=>?_))))
  ·refine cf (aj AO) (sn AN (sg fun _ AY=>sR fun _ Bt=>pm (i_ a1) (pe (.bool (decide (a1 < 0))) (aH rfl rfl) (en Bt (oF F (fun AP F=>?_) fun AP F=>?_)))))
   ·refine ct AP (sR fun _ Bu=>pm (i_ a0) (oB F fun AM A9 F=>pe (i_ AM) (iR rfl A9) (pa (i_ AM) (en Bu (ac (pm (i_ a1) (oB F fun AQ Ba F=>pe (i_ AQ) (iR rfl Ba) (pa (i_ AQ) (en AY (sR fun _ Bv=>pm (i_ AM) (pm (i_ AM) (oB F fun AZ Bb F=>pe (i_ AZ) (iR rfl Bb) (pe (i_ (imx AM AZ)) (pA rfl rfl) (pm (i_ AQ) (oB F fun AV Bc F=>?_)))))))))))))));refine ec0 nN (jI Bc) (ca (ai rfl (ai rfl rfl))) S fun B3 BU S=>?_;refine pa (i_ AV) (en Bv (sg fun _ Bw=>?_));obtain ⟨C,hCd⟩:∃ C:World → Prop,∀ w,C w ↔ ∃ G,Sat w0 w ([] ++ G):=⟨_,fun _=>Iff.rfl⟩;refine bU [0,1,2,3,4,5,6,7,8] C (by kernel_rfl) ?_;intro B4 Bd;replace S:=S.ext Bd;have hC:=(hCd _).2 ⟨_,S⟩;refine aP (i_ AM) 0 rfl rfl hC (ap rfl (fun w' hw'=>by obtain ⟨_,S⟩:=(hCd _).1 hw'; exact (ar rfl))) ?_;refine aP (i_ AV) 1 rfl rfl hC (ap rfl (fun w' hw'=>by obtain ⟨_,S⟩:=(hCd _).1 hw'; exact (ar rfl))) ?_;refine oB F fun AG Be F=>?_;refine aP (i_ AG) 2 rfl rfl hC (ap rfl (fun w' hw'=>by obtain ⟨_,S⟩:=(hCd _).1 hw'; exact (fO rfl rfl Be))) ?_;refine aP (i_ AQ) 3 rfl rfl hC (ap rfl (fun w' hw'=>by obtain ⟨_,S⟩:=(hCd _).1 hw'; exact (ar rfl))) ?_;refine aP (i_ AV) 4 rfl rfl hC (ap rfl (fun w' hw'=>by obtain ⟨_,S⟩:=(hCd _).1 hw'; exact (ar rfl))) ?_;refine oB F fun AH Bf F=>?_;refine aP (i_ AH) 5 rfl rfl hC (ap rfl (fun w' hw'=>by obtain ⟨_,S⟩:=(hCd _).1 hw'; exact (fO rfl rfl Bf))) ?_;refine aP (.agg #[i_ AG,i_ AH]) 6 rfl rfl hC (ap rfl (fun w' hw'=>by obtain ⟨_,S⟩:=(hCd _).1 hw'; exact (aL [(0,[i_ AG]),(1,[i_ AH])] [i_ AG,i_ AH] (cg rfl (cg rfl rfl)) rfl))) ?_;refine aO 7 rfl ?_;refine aC S dt ?_;intro B5 A0 S BV;refine ae ?_;have hC:=(hCd _).2 ⟨_,S⟩;refine ⟨fun _=>hC,?_⟩;refine aO 8 rfl ?_;refine ah (S.top 0 rfl) rfl [i_ AG,i_ AH] rfl rfl dt (all_cons rfl (all_cons rfl rfl)) ?_;intro Bx S;replace S:Sat w0 Bx [Box A0 68 [i_ AG,i_ AH],Box AK 68 [i_ 0,i_ 0]]:=S;refine ae ?_;have hC:=(hCd _).2 ⟨_,S⟩;refine ⟨fun _=>hC,?_⟩;refine bj (by kernel_rfl) ?_;refine tn Bw (sg fun _ A1=>sR fun _ By=>pe (.agg #[i_ AG,i_ AH]) (am (cs:=[i_ AG,i_ AH]) rfl rfl (aq (S.boxAt 0 rfl))) (oB F fun Bz Bg F=>?_));refine ec0 fU (bi Bg) (ca (ai rfl rfl)) S fun B6 BW S=>?_;refine pe (.bool (!Bz)) (aK rfl) (en By (oF F (fun AR F=>?_) fun AR F=>?_))
    ·refine cf (aj AR) (sn A1 (sR fun _ BA=>pe (.agg #[i_ AG,i_ AH]) (am (cs:=[i_ AG,i_ AH]) rfl rfl (aq (S.boxAt 0 rfl))) ?_));refine ah (S.top 1 rfl) rfl [i_ AG,i_ AH] rfl rfl dt (all_cons rfl (all_cons rfl rfl)) ?_;intro BB S;replace S:Sat w0 BB [Box AK 68 [i_ AG,i_ AH],Box A0 68 [i_ AG,i_ AH]]:=S;refine pa (.bool true) (en BA (ag ?_));refine bc (cs:=[i_ AG,i_ AH]) rfl rfl rfl (aq (S.boxAt 0 rfl)) rfl ?_;have hr:=oI F;exact ⟨cR hr fun r=>.tuple #[.agg #[i_ r.1.1,i_ r.1.2],.bool r.2],S.below⟩
    refine ct (ak AR) (sg fun _ BC=>?_);replace S:=S.r0;refine ac (pe (.agg #[i_ 0,i_ 0]) (aL [] [i_ 0,i_ 0] rfl rfl) ?_);refine ah (S.top 0 rfl) rfl [i_ 0,i_ 0] rfl rfl dt (all_cons rfl (all_cons rfl rfl)) ?_;intro BD S;replace S:Sat w0 BD [Box AK 68 [i_ 0,i_ 0]]:=S;refine pa (.bool false) (en BC (ag (tr A1 ?_)));refine bc (cs:=[i_ 0,i_ 0]) rfl rfl rfl (aq (S.boxAt 0 rfl)) rfl ?_;have hr:=oI F;exact ⟨cR hr fun r=>.tuple #[.agg #[i_ r.1.1,i_ r.1.2],.bool r.2],S.below⟩
   refine cf AP (sn AY (sR fun _ BE=>pm (i_ a0) (pm (i_ a0) (oB F fun A2 Bh F=>pe (i_ A2) (iR rfl Bh) (pe (i_ (imx a0 A2)) (pA rfl rfl) (pm (i_ a1) (oB F fun AW Bi F=>?_)))))));refine ec0 nN (jI Bi) (ca (ai rfl (ai rfl rfl))) S fun B7 BX S=>?_;refine pa (i_ AW) (en BE (sg fun _ BF=>?_));obtain ⟨C,hCd⟩:∃ C:World → Prop,∀ w,C w ↔ ∃ G,Sat w0 w ([] ++ G):=⟨_,fun _=>Iff.rfl⟩;refine bU [0,1,2,3,4,5,6,7,8] C (by kernel_rfl) ?_;intro B8 Bj;replace S:=S.ext Bj;have hC:=(hCd _).2 ⟨_,S⟩;refine aP (i_ a0) 0 rfl rfl hC (ap rfl (fun w' hw'=>by obtain ⟨_,S⟩:=(hCd _).1 hw'; exact (ar rfl))) ?_;refine aP (i_ AW) 1 rfl rfl hC (ap rfl (fun w' hw'=>by obtain ⟨_,S⟩:=(hCd _).1 hw'; exact (ar rfl))) ?_;refine oB F fun AI Bk F=>?_;refine aP (i_ AI) 2 rfl rfl hC (ap rfl (fun w' hw'=>by obtain ⟨_,S⟩:=(hCd _).1 hw'; exact (fO rfl rfl Bk))) ?_;refine aP (i_ a1) 3 rfl rfl hC (ap rfl (fun w' hw'=>by obtain ⟨_,S⟩:=(hCd _).1 hw'; exact (ar rfl))) ?_;refine aP (i_ AW) 4 rfl rfl hC (ap rfl (fun w' hw'=>by obtain ⟨_,S⟩:=(hCd _).1 hw'; exact (ar rfl))) ?_;refine oB F fun AJ Bl F=>?_;refine aP (i_ AJ) 5 rfl rfl hC (ap rfl (fun w' hw'=>by obtain ⟨_,S⟩:=(hCd _).1 hw'; exact (fO rfl rfl Bl))) ?_;refine aP (.agg #[i_ AI,i_ AJ]) 6 rfl rfl hC (ap rfl (fun w' hw'=>by obtain ⟨_,S⟩:=(hCd _).1 hw'; exact (aL [(0,[i_ AI]),(1,[i_ AJ])] [i_ AI,i_ AJ] (cg rfl (cg rfl rfl)) rfl))) ?_;refine aO 7 rfl ?_;refine aC S dt ?_;intro B9 A3 S BY;refine ae ?_;have hC:=(hCd _).2 ⟨_,S⟩;refine ⟨fun _=>hC,?_⟩;refine aO 8 rfl ?_;refine ah (S.top 0 rfl) rfl [i_ AI,i_ AJ] rfl rfl dt (all_cons rfl (all_cons rfl rfl)) ?_;intro BG S;replace S:Sat w0 BG [Box A3 68 [i_ AI,i_ AJ],Box AK 68 [i_ 0,i_ 0]]:=S;refine ae ?_;have hC:=(hCd _).2 ⟨_,S⟩;refine ⟨fun _=>hC,?_⟩;refine bj (by kernel_rfl) ?_;refine tn BF (sg fun _ A4=>sR fun _ BH=>pe (.agg #[i_ AI,i_ AJ]) (am (cs:=[i_ AI,i_ AJ]) rfl rfl (aq (S.boxAt 0 rfl))) (oB F fun BI Bm F=>?_));refine ec0 fU (bi Bm) (ca (ai rfl rfl)) S fun Ca BZ S=>?_;refine pe (.bool (!BI)) (aK rfl) (en BH (oF F (fun AS F=>?_) fun AS F=>?_))
   ·refine cf (aj AS) (sn A4 (sR fun _ BJ=>pe (.agg #[i_ AI,i_ AJ]) (am (cs:=[i_ AI,i_ AJ]) rfl rfl (aq (S.boxAt 0 rfl))) ?_));refine ah (S.top 1 rfl) rfl [i_ AI,i_ AJ] rfl rfl dt (all_cons rfl (all_cons rfl rfl)) ?_;intro BK S;replace S:Sat w0 BK [Box AK 68 [i_ AI,i_ AJ],Box A3 68 [i_ AI,i_ AJ]]:=S;refine pa (.bool true) (en BJ (ag ?_));refine bc (cs:=[i_ AI,i_ AJ]) rfl rfl rfl (aq (S.boxAt 0 rfl)) rfl ?_;have hr:=oI F;exact ⟨cR hr fun r=>.tuple #[.agg #[i_ r.1.1,i_ r.1.2],.bool r.2],S.below⟩
   refine ct (ak AS) (sg fun _ BL=>?_);replace S:=S.r0;refine ac (pe (.agg #[i_ 0,i_ 0]) (aL [] [i_ 0,i_ 0] rfl rfl) ?_);refine ah (S.top 0 rfl) rfl [i_ 0,i_ 0] rfl rfl dt (all_cons rfl (all_cons rfl rfl)) ?_;intro BM S;replace S:Sat w0 BM [Box AK 68 [i_ 0,i_ 0]]:=S;refine pa (.bool false) (en BL (ag (tr A4 ?_)));refine bc (cs:=[i_ 0,i_ 0]) rfl rfl rfl (aq (S.boxAt 0 rfl)) rfl ?_;have hr:=oI F;exact ⟨cR hr fun r=>.tuple #[.agg #[i_ r.1.1,i_ r.1.2],.bool r.2],S.below⟩
  refine ct (ak AO) (sR fun _ BN=>pe (.agg #[i_ 0,i_ 0]) (aL [] [i_ 0,i_ 0] rfl rfl) ?_);refine ah (S.top 0 rfl) rfl [i_ 0,i_ 0] rfl rfl dt (all_cons rfl (all_cons rfl rfl)) ?_;intro BO S;replace S:Sat w0 BO [Box AK 68 [i_ 0,i_ 0]]:=S;refine pa (.bool false) (en BN (ag (tr AN ?_)));refine bc (cs:=[i_ 0,i_ 0]) rfl rfl rfl (aq (S.boxAt 0 rfl)) rfl ?_;have hr:=oI F;exact ⟨cR hr fun r=>.tuple #[.agg #[i_ r.1.1,i_ r.1.2],.bool r.2],S.below⟩
 refine eo (ak U) (eo (ak U) (eo (ak U) (eo (ak U) (eo (ak U) (eo (ak U) (pe (.bool true) (aw rfl (ak U) rfl) (en AT (ct rfl (sR fun _ BP=>pe (.agg #[i_ 0,i_ 0]) (aL [] [i_ 0,i_ 0] rfl rfl) ?_)))))))));refine ah (S.top 0 rfl) rfl [i_ 0,i_ 0] rfl rfl dt (all_cons rfl (all_cons rfl rfl)) ?_;intro BQ S;replace S:Sat w0 BQ [Box AK 68 [i_ 0,i_ 0]]:=S;refine pa (.bool false) (en BP (ag (tr AN ?_)));refine bc (cs:=[i_ 0,i_ 0]) rfl rfl rfl (aq (S.boxAt 0 rfl)) rfl ?_;have hr:=oI F;exact ⟨cR hr fun r=>.tuple #[.agg #[i_ r.1.1,i_ r.1.2],.bool r.2],S.below⟩
theorem hX {w0:World} {a0:Int} {a1:Int} {a2:Int} {a3:Int}  {N:Nat} {r:T1_ × Bool} (F:dm N a0 a1 a2 a3=some r): Calls Tryz.prog 134 #[.agg #[i_ a0,i_ a1],.agg #[i_ a2,i_ a3]] w0 fun e w'=>e=.returned (.tuple #[.agg #[i_ r.1.1,i_ r.1.2],.bool r.2])∧Ext w0 w' := by
 unfold dm at F;refine aI Tryz.func134 rfl rfl dt ?_;have S:=Sat.start w0;refine sR fun _ AV=>?_;refine bw [i_ a0,i_ a1] rfl S dt ?_;intro Bd AI S A6;refine bw [i_ a2,i_ a3] rfl S dt ?_;intro Be AJ S A7;refine aC S dt ?_;intro Bf AG S A8;refine pa (.bool false) (en AV (sg fun _ AK=>sR fun _ AM=>pe (.agg #[i_ a0,i_ a1]) (am (cs:=[i_ a0,i_ a1]) rfl rfl (aq (S.boxAt 2 rfl))) (oB F fun AN AQ F=>?_)));refine ec0 fU (bi AQ) (ca (ai rfl rfl)) S fun Bg A9 S=>?_;refine pe (.bool (!AN)) (aK rfl) (pm (.bool (!AN)) (oF F (fun U F=>?_) fun U F=>?_))
 ·refine ei (aj U) (pe (.agg #[i_ a2,i_ a3]) (am (cs:=[i_ a2,i_ a3]) rfl rfl (aq (S.boxAt 1 rfl))) (ei (aj U) (oB F fun AO AR F=>?_)));refine ec0 fU (bi AR) (ca (ai rfl rfl)) S fun Bh Ba S=>?_;refine ei (aj U) (pe (.bool (!AO)) (aK rfl) (pe (.bool (!AO)) (ay rfl (aj U) rfl) (en AM (oF F (fun AH F=>?_) fun AH F=>?_))))
  ·refine cf (aj AH) (sn AK (sR fun _ AW=>pe (pt AI (0 + 0)) (aa rfl) (pe (i_ a0) (ab rfl ((S.boxAt 2 rfl) 0 _ rfl)) (pe (pt AJ (0 + 1)) (aa rfl) (pe (i_ a3) (ab rfl ((S.boxAt 1 rfl) 1 _ rfl)) (oB F fun AX AS F=>pe (i_ AX) (cY rfl rfl AS) (pe (pt AI (0 + 1)) (aa rfl) (pe (i_ a1) (ab rfl ((S.boxAt 2 rfl) 1 _ rfl)) (pe (pt AJ (0 + 0)) (aa rfl) (pe (i_ a2) (ab rfl ((S.boxAt 1 rfl) 0 _ rfl)) (oB F fun AY AT F=>pe (i_ AY) (cY rfl rfl AT) (oB F fun J AU F=>?_))))))))))));refine ec0 pT (i3 AU) (ca (ai rfl (ai rfl rfl))) S fun Bi Bb S=>?_;refine pm (.tuple #[.agg #[i_ J.1.1,i_ J.1.2],.bool J.2]) (pe (.agg #[i_ J.1.1,i_ J.1.2]) (an rfl rfl) (pe (.bool J.2) (an rfl rfl) ?_));refine aC S dt ?_;intro Bj AP S Bc;refine ah (S.top 0 rfl) rfl [i_ J.1.1,i_ J.1.2] rfl rfl dt (all_cons rfl (all_cons rfl rfl)) ?_;intro AZ S;replace S:Sat w0 AZ [Box AP 68 [i_ J.1.1,i_ J.1.2],Box AG 68 [i_ 0,i_ 0],Box AJ 68 [i_ a2,i_ a3],Box AI 68 [i_ a0,i_ a1]]:=S;refine pa (.bool J.2) (en AW (sg fun _ A0=>?_));replace S:=S.r3.r2;refine ac (pe (.agg #[i_ J.1.1,i_ J.1.2]) (am (cs:=[i_ J.1.1,i_ J.1.2]) rfl rfl (aq (S.boxAt 0 rfl))) (pm (.bool J.2) ?_));refine ah (S.top 1 rfl) rfl [i_ J.1.1,i_ J.1.2] rfl rfl dt (all_cons rfl (all_cons rfl rfl)) ?_;intro A1 S;replace S:Sat w0 A1 [Box AG 68 [i_ J.1.1,i_ J.1.2],Box AP 68 [i_ J.1.1,i_ J.1.2]]:=S;refine pa (.bool J.2) (en A0 (ag ?_));refine bc (cs:=[i_ J.1.1,i_ J.1.2]) rfl rfl rfl (aq (S.boxAt 0 rfl)) rfl ?_;have hr:=oI F;exact ⟨cR hr fun r=>.tuple #[.agg #[i_ r.1.1,i_ r.1.2],.bool r.2],S.below⟩
  refine ct (ak AH) (sg fun _ A2=>?_);replace S:=S.r2.r1;refine ac (pe (.agg #[i_ 0,i_ 0]) (aL [] [i_ 0,i_ 0] rfl rfl) ?_);refine ah (S.top 0 rfl) rfl [i_ 0,i_ 0] rfl rfl dt (all_cons rfl (all_cons rfl rfl)) ?_;intro A3 S;replace S:Sat w0 A3 [Box AG 68 [i_ 0,i_ 0]]:=S;refine pa (.bool false) (en A2 (ag (tr AK ?_)));refine bc (cs:=[i_ 0,i_ 0]) rfl rfl rfl (aq (S.boxAt 0 rfl)) rfl ?_;have hr:=oI F;exact ⟨cR hr fun r=>.tuple #[.agg #[i_ r.1.1,i_ r.1.2],.bool r.2],S.below⟩
 refine eo (ak U) (eo (ak U) (eo (ak U) (pe (.bool true) (aw rfl (ak U) rfl) (en AM (ct rfl (sg fun _ A4=>?_))))));replace S:=S.r2.r1;refine ac (pe (.agg #[i_ 0,i_ 0]) (aL [] [i_ 0,i_ 0] rfl rfl) ?_);refine ah (S.top 0 rfl) rfl [i_ 0,i_ 0] rfl rfl dt (all_cons rfl (all_cons rfl rfl)) ?_;intro A5 S;replace S:Sat w0 A5 [Box AG 68 [i_ 0,i_ 0]]:=S;refine pa (.bool false) (en A4 (ag (tr AK ?_)));refine bc (cs:=[i_ 0,i_ 0]) rfl rfl rfl (aq (S.boxAt 0 rfl)) rfl ?_;have hr:=oI F;exact ⟨cR hr fun r=>.tuple #[.agg #[i_ r.1.1,i_ r.1.2],.bool r.2],S.below⟩
theorem hQ {w0:World} {a0:Int} {a1:Int} {a2:Int} {a3:Int}  {N:Nat} {r:T1_ × Bool} (F:bL N a0 a1 a2 a3=some r): Calls Tryz.prog 156 #[.agg #[i_ a0,i_ a1],.agg #[i_ a2,i_ a3]] w0 fun e w'=>e=.returned (.tuple #[.agg #[i_ r.1.1,i_ r.1.2],.bool r.2])∧Ext w0 w' := by
 unfold bL at F;refine aI Tryz.func156 rfl rfl dt ?_;have S:=Sat.start w0;refine sR fun _ AV=>?_;refine bw [i_ a0,i_ a1] rfl S dt ?_;intro Bd AI S A6;refine bw [i_ a2,i_ a3] rfl S dt ?_;intro Be AJ S A7;refine aC S dt ?_;intro Bf AG S A8;refine pa (.bool false) (en AV (sg fun _ AK=>sR fun _ AM=>pe (.agg #[i_ a0,i_ a1]) (am (cs:=[i_ a0,i_ a1]) rfl rfl (aq (S.boxAt 2 rfl))) (oB F fun AN AQ F=>?_)));refine ec0 fU (bi AQ) (ca (ai rfl rfl)) S fun Bg A9 S=>?_;refine pe (.bool (!AN)) (aK rfl) (pm (.bool (!AN)) (oF F (fun U F=>?_) fun U F=>?_))
 ·refine ei (aj U) (pe (.agg #[i_ a2,i_ a3]) (am (cs:=[i_ a2,i_ a3]) rfl rfl (aq (S.boxAt 1 rfl))) (ei (aj U) (oB F fun AO AR F=>?_)));refine ec0 fU (bi AR) (ca (ai rfl rfl)) S fun Bh Ba S=>?_;refine ei (aj U) (pe (.bool (!AO)) (aK rfl) (pe (.bool (!AO)) (ay rfl (aj U) rfl) (en AM (oF F (fun AH F=>?_) fun AH F=>?_))))
  ·refine cf (aj AH) (sn AK (sR fun _ AW=>pe (pt AI (0 + 0)) (aa rfl) (pe (i_ a0) (ab rfl ((S.boxAt 2 rfl) 0 _ rfl)) (pe (pt AJ (0 + 0)) (aa rfl) (pe (i_ a2) (ab rfl ((S.boxAt 1 rfl) 0 _ rfl)) (oB F fun AX AS F=>pe (i_ AX) (cY rfl rfl AS) (pe (pt AI (0 + 1)) (aa rfl) (pe (i_ a1) (ab rfl ((S.boxAt 2 rfl) 1 _ rfl)) (pe (pt AJ (0 + 1)) (aa rfl) (pe (i_ a3) (ab rfl ((S.boxAt 1 rfl) 1 _ rfl)) (oB F fun AY AT F=>pe (i_ AY) (cY rfl rfl AT) (oB F fun J AU F=>?_))))))))))));refine ec0 pT (i3 AU) (ca (ai rfl (ai rfl rfl))) S fun Bi Bb S=>?_;refine pm (.tuple #[.agg #[i_ J.1.1,i_ J.1.2],.bool J.2]) (pe (.agg #[i_ J.1.1,i_ J.1.2]) (an rfl rfl) (pe (.bool J.2) (an rfl rfl) ?_));refine aC S dt ?_;intro Bj AP S Bc;refine ah (S.top 0 rfl) rfl [i_ J.1.1,i_ J.1.2] rfl rfl dt (all_cons rfl (all_cons rfl rfl)) ?_;intro AZ S;replace S:Sat w0 AZ [Box AP 68 [i_ J.1.1,i_ J.1.2],Box AG 68 [i_ 0,i_ 0],Box AJ 68 [i_ a2,i_ a3],Box AI 68 [i_ a0,i_ a1]]:=S;refine pa (.bool J.2) (en AW (sg fun _ A0=>?_));replace S:=S.r3.r2;refine ac (pe (.agg #[i_ J.1.1,i_ J.1.2]) (am (cs:=[i_ J.1.1,i_ J.1.2]) rfl rfl (aq (S.boxAt 0 rfl))) (pm (.bool J.2) ?_));refine ah (S.top 1 rfl) rfl [i_ J.1.1,i_ J.1.2] rfl rfl dt (all_cons rfl (all_cons rfl rfl)) ?_;intro A1 S;replace S:Sat w0 A1 [Box AG 68 [i_ J.1.1,i_ J.1.2],Box AP 68 [i_ J.1.1,i_ J.1.2]]:=S;refine pa (.bool J.2) (en A0 (ag ?_));refine bc (cs:=[i_ J.1.1,i_ J.1.2]) rfl rfl rfl (aq (S.boxAt 0 rfl)) rfl ?_;have hr:=oI F;exact ⟨cR hr fun r=>.tuple #[.agg #[i_ r.1.1,i_ r.1.2],.bool r.2],S.below⟩
  refine ct (ak AH) (sg fun _ A2=>?_);replace S:=S.r2.r1;refine ac (pe (.agg #[i_ 0,i_ 0]) (aL [] [i_ 0,i_ 0] rfl rfl) ?_);refine ah (S.top 0 rfl) rfl [i_ 0,i_ 0] rfl rfl dt (all_cons rfl (all_cons rfl rfl)) ?_;intro A3 S;replace S:Sat w0 A3 [Box AG 68 [i_ 0,i_ 0]]:=S;refine pa (.bool false) (en A2 (ag (tr AK ?_)));refine bc (cs:=[i_ 0,i_ 0]) rfl rfl rfl (aq (S.boxAt 0 rfl)) rfl ?_;have hr:=oI F;exact ⟨cR hr fun r=>.tuple #[.agg #[i_ r.1.1,i_ r.1.2],.bool r.2],S.below⟩
 refine eo (ak U) (eo (ak U) (eo (ak U) (pe (.bool true) (aw rfl (ak U) rfl) (en AM (ct rfl (sg fun _ A4=>?_))))));replace S:=S.r2.r1;refine ac (pe (.agg #[i_ 0,i_ 0]) (aL [] [i_ 0,i_ 0] rfl rfl) ?_);refine ah (S.top 0 rfl) rfl [i_ 0,i_ 0] rfl rfl dt (all_cons rfl (all_cons rfl rfl)) ?_;intro A5 S;replace S:Sat w0 A5 [Box AG 68 [i_ 0,i_ 0]]:=S;refine pa (.bool false) (en A4 (ag (tr AK ?_)));refine bc (cs:=[i_ 0,i_ 0]) rfl rfl rfl (aq (S.boxAt 0 rfl)) rfl ?_;have hr:=oI F;exact ⟨cR hr fun r=>.tuple #[.agg #[i_ r.1.1,i_ r.1.2],.bool r.2],S.below⟩
theorem hJ {w0:World} {a0:Int} {a1:Int} {a2:Int} {a3:Int}  {N:Nat} {r:T1_ × Bool} (F:bA N a0 a1 a2 a3=some r): Calls Tryz.prog 101 #[.agg #[i_ a0,i_ a1],.agg #[i_ a2,i_ a3]] w0 fun e w'=>e=.returned (.tuple #[.agg #[i_ r.1.1,i_ r.1.2],.bool r.2])∧Ext w0 w' := by
 unfold bA at F;refine aI Tryz.func101 rfl rfl dt ?_;have S:=Sat.start w0;refine sR fun _ AX=>?_;refine bw [i_ a0,i_ a1] rfl S dt ?_;intro Bh AG S Ba;refine bw [i_ a2,i_ a3] rfl S dt ?_;intro Bi AH S Bb;refine aC S dt ?_;intro Bj AI S Bc;refine pa (.bool false) (en AX (sg fun _ AK=>sR fun _ AM=>pe (.agg #[i_ a0,i_ a1]) (am (cs:=[i_ a0,i_ a1]) rfl rfl (aq (S.boxAt 2 rfl))) (oB F fun AN AQ F=>?_)));refine ec0 fU (bi AQ) (ca (ai rfl rfl)) S fun Bk Bd S=>?_;refine pe (.bool (!AN)) (aK rfl) (pm (.bool (!AN)) (oF F (fun U F=>?_) fun U F=>?_))
 ·refine ei (aj U) (pe (.agg #[i_ a2,i_ a3]) (am (cs:=[i_ a2,i_ a3]) rfl rfl (aq (S.boxAt 1 rfl))) (ei (aj U) (oB F fun AO AR F=>?_)));refine ec0 fU (bi AR) (ca (ai rfl rfl)) S fun Bl Be S=>?_;refine ei (aj U) (pe (.bool (!AO)) (aK rfl) (pe (.bool (!AO)) (ay rfl (aj U) rfl) (en AM (oF F (fun AJ F=>?_) fun AJ F=>?_))))
  ·refine cf (aj AJ) (sn AK (sR fun _ AY=>pe (pt AG (0 + 0)) (aa rfl) (pe (i_ a0) (ab rfl ((S.boxAt 2 rfl) 0 _ rfl)) (pe (pt AH (0 + 1)) (aa rfl) (pe (i_ a3) (ab rfl ((S.boxAt 1 rfl) 1 _ rfl)) (oB F fun AZ AS F=>pe (i_ AZ) (cY rfl rfl AS) (pe (pt AH (0 + 0)) (aa rfl) (pe (i_ a2) (ab rfl ((S.boxAt 1 rfl) 0 _ rfl)) (pe (pt AG (0 + 1)) (aa rfl) (pe (i_ a1) (ab rfl ((S.boxAt 2 rfl) 1 _ rfl)) (oB F fun A0 AT F=>pe (i_ A0) (cY rfl rfl AT) (oB F fun A1 AU F=>pe (i_ A1) (aD rfl rfl AU) (pe (pt AG (0 + 1)) (aa rfl) (pe (i_ a1) (ab rfl ((S.boxAt 2 rfl) 1 _ rfl)) (pe (pt AH (0 + 1)) (aa rfl) (pe (i_ a3) (ab rfl ((S.boxAt 1 rfl) 1 _ rfl)) (oB F fun A2 AV F=>pe (i_ A2) (cY rfl rfl AV) (oB F fun J AW F=>?_))))))))))))))))));refine ec0 pT (i3 AW) (ca (ai rfl (ai rfl rfl))) S fun Bm Bf S=>?_;refine pm (.tuple #[.agg #[i_ J.1.1,i_ J.1.2],.bool J.2]) (pe (.agg #[i_ J.1.1,i_ J.1.2]) (an rfl rfl) (pe (.bool J.2) (an rfl rfl) ?_));refine aC S dt ?_;intro Bn AP S Bg;refine ah (S.top 0 rfl) rfl [i_ J.1.1,i_ J.1.2] rfl rfl dt (all_cons rfl (all_cons rfl rfl)) ?_;intro A3 S;replace S:Sat w0 A3 [Box AP 68 [i_ J.1.1,i_ J.1.2],Box AI 68 [i_ 0,i_ 0],Box AH 68 [i_ a2,i_ a3],Box AG 68 [i_ a0,i_ a1]]:=S;refine pa (.bool J.2) (en AY (sg fun _ A4=>?_));replace S:=S.r3.r2;refine ac (pe (.agg #[i_ J.1.1,i_ J.1.2]) (am (cs:=[i_ J.1.1,i_ J.1.2]) rfl rfl (aq (S.boxAt 0 rfl))) (pm (.bool J.2) ?_));refine ah (S.top 1 rfl) rfl [i_ J.1.1,i_ J.1.2] rfl rfl dt (all_cons rfl (all_cons rfl rfl)) ?_;intro A5 S;replace S:Sat w0 A5 [Box AI 68 [i_ J.1.1,i_ J.1.2],Box AP 68 [i_ J.1.1,i_ J.1.2]]:=S;refine pa (.bool J.2) (en A4 (ag ?_));refine bc (cs:=[i_ J.1.1,i_ J.1.2]) rfl rfl rfl (aq (S.boxAt 0 rfl)) rfl ?_;have hr:=oI F;exact ⟨cR hr fun r=>.tuple #[.agg #[i_ r.1.1,i_ r.1.2],.bool r.2],S.below⟩
  refine ct (ak AJ) (sg fun _ A6=>?_);replace S:=S.r2.r1;refine ac (pe (.agg #[i_ 0,i_ 0]) (aL [] [i_ 0,i_ 0] rfl rfl) ?_);refine ah (S.top 0 rfl) rfl [i_ 0,i_ 0] rfl rfl dt (all_cons rfl (all_cons rfl rfl)) ?_;intro A7 S;replace S:Sat w0 A7 [Box AI 68 [i_ 0,i_ 0]]:=S;refine pa (.bool false) (en A6 (ag (tr AK ?_)));refine bc (cs:=[i_ 0,i_ 0]) rfl rfl rfl (aq (S.boxAt 0 rfl)) rfl ?_;have hr:=oI F;exact ⟨cR hr fun r=>.tuple #[.agg #[i_ r.1.1,i_ r.1.2],.bool r.2],S.below⟩
 refine eo (ak U) (eo (ak U) (eo (ak U) (pe (.bool true) (aw rfl (ak U) rfl) (en AM (ct rfl (sg fun _ A8=>?_))))));replace S:=S.r2.r1;refine ac (pe (.agg #[i_ 0,i_ 0]) (aL [] [i_ 0,i_ 0] rfl rfl) ?_);refine ah (S.top 0 rfl) rfl [i_ 0,i_ 0] rfl rfl dt (all_cons rfl (all_cons rfl rfl)) ?_;intro A9 S;replace S:Sat w0 A9 [Box AI 68 [i_ 0,i_ 0]]:=S;refine pa (.bool false) (en A8 (ag (tr AK ?_)));refine bc (cs:=[i_ 0,i_ 0]) rfl rfl rfl (aq (S.boxAt 0 rfl)) rfl ?_;have hr:=oI F;exact ⟨cR hr fun r=>.tuple #[.agg #[i_ r.1.1,i_ r.1.2],.bool r.2],S.below⟩
theorem kf {w0:World} {a0:Int} {a1:Int} {a2:Int} {a3:Int}  {N:Nat} {r:T1_ × Bool} (F:dD N a0 a1 a2 a3=some r): Calls Tryz.prog 157 #[.agg #[i_ a0,i_ a1],.agg #[i_ a2,i_ a3]] w0 fun e w'=>e=.returned (.tuple #[.agg #[i_ r.1.1,i_ r.1.2],.bool r.2])∧Ext w0 w' := by
 unfold dD at F;refine aI Tryz.func157 rfl rfl dt ?_;have S:=Sat.start w0;refine sR fun _ AP=>?_;refine bw [i_ a0,i_ a1] rfl S dt ?_;intro A5 AQ S AZ;refine bw [i_ a2,i_ a3] rfl S dt ?_;intro A6 AH S A0;refine aC S dt ?_;intro A7 AI S A1;refine pa (.bool false) (en AP (sg fun _ AJ=>sR fun _ AR=>pe (.agg #[i_ a2,i_ a3]) (am (cs:=[i_ a2,i_ a3]) rfl rfl (aq (S.boxAt 1 rfl))) (oB F fun AS AM F=>?_)));refine ec0 fU (bi AM) (ca (ai rfl rfl)) S fun A8 A2 S=>?_;refine pe (.bool (!AS)) (aK rfl) (en AR (oF F (fun U F=>?_) fun U F=>?_))
 ·refine cf (aj U) (sn AJ (sR fun _ AT=>pe (.agg #[i_ a0,i_ a1]) (am (cs:=[i_ a0,i_ a1]) rfl rfl (aq (S.boxAt 2 rfl))) (pe (pt AH (0 + 0)) (aa rfl) (pe (i_ a2) (ab rfl ((S.boxAt 1 rfl) 0 _ rfl)) (oB F fun AG AN F=>pe (i_ AG) (iR rfl AN) (pe (pt AH (0 + 1)) (aa rfl) (pe (i_ a3) (ab rfl ((S.boxAt 1 rfl) 1 _ rfl)) (pe (.agg #[i_ AG,i_ a3]) (aL [(0,[i_ AG]),(1,[i_ a3])] [i_ AG,i_ a3] (cg rfl (cg rfl rfl)) rfl) (oB F fun J AO F=>?_)))))))));refine ec0 n0 (hJ AO) (ca (ai rfl (ai rfl rfl))) S fun A9 A3 S=>?_;refine pm (.tuple #[.agg #[i_ J.1.1,i_ J.1.2],.bool J.2]) (pe (.agg #[i_ J.1.1,i_ J.1.2]) (an rfl rfl) (pe (.bool J.2) (an rfl rfl) ?_));refine aC S dt ?_;intro Ba AK S A4;refine ah (S.top 0 rfl) rfl [i_ J.1.1,i_ J.1.2] rfl rfl dt (all_cons rfl (all_cons rfl rfl)) ?_;intro AU S;replace S:Sat w0 AU [Box AK 68 [i_ J.1.1,i_ J.1.2],Box AI 68 [i_ 0,i_ 0],Box AH 68 [i_ a2,i_ a3],Box AQ 68 [i_ a0,i_ a1]]:=S;refine pa (.bool J.2) (en AT (sg fun _ AV=>?_));replace S:=S.r3.r2;refine ac (pe (.agg #[i_ J.1.1,i_ J.1.2]) (am (cs:=[i_ J.1.1,i_ J.1.2]) rfl rfl (aq (S.boxAt 0 rfl))) (pm (.bool J.2) ?_));refine ah (S.top 1 rfl) rfl [i_ J.1.1,i_ J.1.2] rfl rfl dt (all_cons rfl (all_cons rfl rfl)) ?_;intro AW S;replace S:Sat w0 AW [Box AI 68 [i_ J.1.1,i_ J.1.2],Box AK 68 [i_ J.1.1,i_ J.1.2]]:=S;refine pa (.bool J.2) (en AV (ag ?_));refine bc (cs:=[i_ J.1.1,i_ J.1.2]) rfl rfl rfl (aq (S.boxAt 0 rfl)) rfl ?_;have hr:=oI F;exact ⟨cR hr fun r=>.tuple #[.agg #[i_ r.1.1,i_ r.1.2],.bool r.2],S.below⟩
 refine ct (ak U) (sg fun _ AX=>?_);replace S:=S.r2.r1;refine ac (pe (.agg #[i_ 0,i_ 0]) (aL [] [i_ 0,i_ 0] rfl rfl) ?_);refine ah (S.top 0 rfl) rfl [i_ 0,i_ 0] rfl rfl dt (all_cons rfl (all_cons rfl rfl)) ?_;intro AY S;replace S:Sat w0 AY [Box AI 68 [i_ 0,i_ 0]]:=S;refine pa (.bool false) (en AX (ag (tr AJ ?_)));refine bc (cs:=[i_ 0,i_ 0]) rfl rfl rfl (aq (S.boxAt 0 rfl)) rfl ?_;have hr:=oI F;exact ⟨cR hr fun r=>.tuple #[.agg #[i_ r.1.1,i_ r.1.2],.bool r.2],S.below⟩
theorem lG {w0:World} {AK:World} {G0:List Asn} {u0:Value} {a0:List T3_} {a1:Int} (S:Sat AK w0 (Own aT [u0] a0 :: G0)) {N:Nat} {r:Bool × T6_} (F:fM N a0 a1=some r): Calls Tryz.prog 133 #[u0,i_ a1] w0 fun e w'=>e=.returned (.bool r.1)∧Sat AK w' (Own aT [u0] r.2 :: G0) := by
 unfold fM at F;refine aI Tryz.func133 rfl rfl dt ?_;refine sR fun _ DT=>pa (.bool false) (en DT (sg fun _ BZ=>sR fun _ DU=>pa (i_ 0) (en DU (bg fun _ B0=>?_))));obtain ⟨DV,hL,BD⟩:=ob F;refine aE (fun k e w=>∃ (AY:List T3_),∃ (AH:Int),e 0=u0∧e 1=i_ a1∧e 5=i_ AH∧Sat AK w (Own aT [u0] AY :: G0)∧cl N k AY a1 AH=some DV) N ?_ ?_ ?_
 ·exact ⟨a0,0,rfl,rfl,rfl,S,hL⟩
 ·rintro e w ⟨_,_,_,_,_,_,hz⟩; exact nn hz
 rintro k ER AZ ⟨AY,AH,AW,AU,AX,S,F⟩;refine gn fun _ A5=>sg fun _ CD=>sR fun _ DW=>pM (i_ AH) AX (pM u0 AW (pe (i_ (AY.length:Int)) (aA rfl (S.rdAt (R:=aT) 0 rfl)) (pe (.bool (decide (AH < (AY.length:Int)))) (aH rfl rfl) (en DW (oF F (fun BE F=>?_) fun BE F=>?_)))))
 ·refine ct BE (sn CD (sg fun _ Bl=>bg fun _ Bm=>sg fun _ B1=>sR fun _ CE=>pM (i_ AH) AX (pM (i_ a1) AU (pe (.bool (AH == a1)) (cz rfl rfl) (pm (.bool (AH == a1)) (oF F (fun AJ F=>?_) fun AJ F=>?_))))))
  ·refine eo AJ (eo AJ (eo AJ (eo AJ (eo AJ (eo AJ (eo AJ (eo AJ (eo AJ (pe (.bool true) (aw rfl AJ rfl) (en CE (ct rfl (aF (tx B1 (bS Bm (tn Bl (ac (pM (i_ AH) AX (oB F fun B2 CN F=>pe (i_ B2) (aD rfl rfl CN) (pa (i_ B2) (en A5 ?_))))))))))))))))))));exact ⟨AY,B2,AW,AU,rfl,S,F⟩
  refine ei AJ (pM u0 AW (ei AJ (pM (i_ AH) AX (ei AJ (oB F fun ES CO F=>?_)))));refine aS (wA:=AZ) rfl (S.rdAt (R:=aT) 0 rfl) rfl dt rfl CO dt ?_;intro ET EC EU AN AP;obtain ⟨DX,rfl⟩:=aQ AN;refine ei AJ (pe DX (ab rfl (AP 0 _ rfl)) (ei AJ (pM (i_ a1) AU (ei AJ (oB F fun B3 CP F=>?_)))));refine aS (wA:=AZ) rfl AN rfl dt rfl CP dt ?_;intro DY CQ EV CR AQ;obtain ⟨_,_,rfl,CS,CT⟩:=CR;obtain rfl:=CS;obtain rfl:=CT;refine ei AJ (pe (pt DY (CQ + 0)) (aa rfl) (ei AJ (pe (i_ B3.1) (ab rfl (AQ 0 _ rfl)) (ei AJ (pe (.bool (B3.1 == 0)) (cz rfl rfl) (pe (.bool (B3.1 == 0)) (ay rfl AJ rfl) (en CE (oF F (fun BF F=>?_) fun BF F=>?_))))))))
  ·refine ct BF (aF (tx B1 (bS Bm (tn Bl (ac (pM (i_ AH) AX (oB F fun B4 CU F=>pe (i_ B4) (aD rfl rfl CU) (pa (i_ B4) (en A5 ?_)))))))));exact ⟨AY,B4,AW,AU,rfl,S,F⟩
  refine cf BF (sn B1 (sg fun _ DZ=>?_));obtain ⟨Bs,BG,S⟩:=S.frz;replace S:Sat AK AZ (Frz AZ Bs :: G0):=S;refine oB F fun EW CV F=>oB F fun BH CX F=>oB F fun EX CY F=>oB F fun BI CZ F=>oB F fun J Ch F=>?_;refine fP (fun e w=>∃ (AI:Nat),e 0=u0∧e 1=i_ a1∧e 5=i_ AH∧e 6=pt AI 0∧e 7=.bool J.2∧Sat AK w (Frz AZ Bs :: Box AI 68 [i_ J.1.1,i_ J.1.2] :: G0)) ?_ ?_
  ·obtain ⟨C,hCd⟩:∃ C:World → Prop,∀ w,C w ↔ ∃ G,Sat AK w ([Frz AZ Bs] ++ G):=⟨_,fun _=>Iff.rfl⟩;refine bU [0,1,2,3,4,5,6,7,8,9,10,11,12,13,14,15,16,17,18,19,20] C (by kernel_rfl) ?_;intro EY Bn;replace S:=S.ext Bn;have AP:=au Bn AP;have AN:=fH AN Bn;have AQ:=au Bn AQ;have hC:=(hCd _).2 ⟨_,S⟩;refine aP u0 0 rfl rfl hC (ap rfl (fun w' hw'=>by obtain ⟨_,S⟩:=(hCd _).1 hw'; exact (ar AW))) ?_;refine aP (i_ AH) 1 rfl rfl hC (ap rfl (fun w' hw'=>by obtain ⟨_,S⟩:=(hCd _).1 hw'; exact (ar AX))) ?_;refine dq (by kernel_rfl) 2 rfl hC (by kernel_rfl) (by kernel_rfl) rfl BG rfl rfl CV dt ?_;intro EZ ED E0 E2 Ci A7 Bt C0;replace A7:=fun q hq=>(fun _ h=>h) q (A7 q hq);replace Bt:=(fun _ h=>h) _ Bt;obtain ⟨D1,rfl⟩:=aQ (Rep.own_rd _ Ci);refine aP D1 3 rfl rfl hC (ap rfl (fun w' hw'=>by obtain ⟨_,S⟩:=(hCd _).1 hw'; exact (ab rfl ((S.frzCells 0 rfl Bt C0) 0 _ rfl)))) ?_;refine aP (i_ a1) 4 rfl rfl hC (ap rfl (fun w' hw'=>by obtain ⟨_,S⟩:=(hCd _).1 hw'; exact (ar AU))) ?_;refine dq (by kernel_rfl) 5 rfl hC (by kernel_rfl) (by kernel_rfl) rfl Ci rfl rfl CX dt ?_;intro E3 EE E4 E5 C1 A8 Bu C2;replace A8:=fun q hq=>A7 q (A8 q hq);replace Bu:=A7 _ Bu;obtain ⟨_,_,_,_,rfl,rfl,C3,C4⟩:=C1;have Es:=fun q hq=>A8 q (List.mem_append_left _ hq);have Et:=fun q hq=>A8 q (List.mem_append_right _ hq);obtain ⟨rfl,_⟩:=C3;obtain ⟨rfl,_⟩:=C4;refine aP (.agg #[i_ BH.1,i_ BH.2]) 6 rfl rfl hC (ap rfl (fun w' hw'=>by obtain ⟨_,S⟩:=(hCd _).1 hw'; exact (am (cs:=[i_ BH.1,i_ BH.2]) rfl rfl (S.frzCells 0 rfl Bu C2)))) ?_;refine aP u0 7 rfl rfl hC (ap rfl (fun w' hw'=>by obtain ⟨_,S⟩:=(hCd _).1 hw'; exact (ar AW))) ?_;refine aP (i_ a1) 8 rfl rfl hC (ap rfl (fun w' hw'=>by obtain ⟨_,S⟩:=(hCd _).1 hw'; exact (ar AU))) ?_;refine dq (by kernel_rfl) 9 rfl hC (by kernel_rfl) (by kernel_rfl) rfl BG rfl rfl CY dt ?_;intro E6 EF E7 E8 Cj A9 Bv C5;replace A9:=fun q hq=>(fun _ h=>h) q (A9 q hq);replace Bv:=(fun _ h=>h) _ Bv;obtain ⟨D2,rfl⟩:=aQ (Rep.own_rd _ Cj);refine aP D2 10 rfl rfl hC (ap rfl (fun w' hw'=>by obtain ⟨_,S⟩:=(hCd _).1 hw'; exact (ab rfl ((S.frzCells 0 rfl Bv C5) 0 _ rfl)))) ?_;refine aP (i_ a1) 11 rfl rfl hC (ap rfl (fun w' hw'=>by obtain ⟨_,S⟩:=(hCd _).1 hw'; exact (ar AU))) ?_;refine dq (by kernel_rfl) 12 rfl hC (by kernel_rfl) (by kernel_rfl) rfl Cj rfl rfl CZ dt ?_;intro E9 EG Fa Fb C6 Ba Bw C7;replace Ba:=fun q hq=>A9 q (Ba q hq);replace Bw:=A9 _ Bw;obtain ⟨_,_,_,_,rfl,rfl,C8,C9⟩:=C6;have Eu:=fun q hq=>Ba q (List.mem_append_left _ hq);have Ev:=fun q hq=>Ba q (List.mem_append_right _ hq);obtain ⟨rfl,_⟩:=C8;obtain ⟨rfl,_⟩:=C9;refine aP (.agg #[i_ BI.1,i_ BI.2]) 13 rfl rfl hC (ap rfl (fun w' hw'=>by obtain ⟨_,S⟩:=(hCd _).1 hw'; exact (am (cs:=[i_ BI.1,i_ BI.2]) rfl rfl (S.frzCells 0 rfl Bw C7)))) ?_;refine eV 14 18 (by kernel_rfl) rfl rfl ?_ ?_
   ·refine ec0 nY (hX Ch) (ca (ai rfl (ai rfl rfl))) S fun D4 A0 S=>?_;have AP:=au A0 AP;have AN:=fH AN A0;have AQ:=au A0 AQ;refine ae ?_;have hC:=(hCd _).2 ⟨_,S⟩;refine ⟨fun _=>hC,?_⟩;refine aP (.tuple #[.agg #[i_ J.1.1,i_ J.1.2],.bool J.2]) 15 rfl rfl hC (ap rfl (fun w' hw'=>by obtain ⟨_,S⟩:=(hCd _).1 hw'; exact (ar rfl))) ?_;refine aP (.agg #[i_ J.1.1,i_ J.1.2]) 16 rfl rfl hC (ap rfl (fun w' hw'=>by obtain ⟨_,S⟩:=(hCd _).1 hw'; exact (an rfl rfl))) ?_;refine aP (.bool J.2) 17 rfl rfl hC (ap rfl (fun w' hw'=>by obtain ⟨_,S⟩:=(hCd _).1 hw'; exact (an rfl rfl))) ?_;refine aO 18 rfl ?_;refine aC S dt ?_;intro D5 AI S A1;have AP:=au A1 AP;have AN:=fH AN A1;have AQ:=au A1 AQ;refine ae ?_;replace S:=S.t1;have hC:=(hCd _).2 ⟨_,S⟩;refine ⟨fun _=>hC,?_⟩;refine aO 19 rfl ?_;refine ah (S.top 1 rfl) rfl [i_ J.1.1,i_ J.1.2] rfl rfl dt (all_cons rfl (all_cons rfl rfl)) ?_;intro B5 S;replace S:Sat AK B5 (Box AI 68 [i_ J.1.1,i_ J.1.2] :: Frz AZ Bs :: G0):=S;refine ae ?_;replace S:=S.t1;have hC:=(hCd _).2 ⟨_,S⟩;refine ⟨fun _=>hC,?_⟩;refine aO 20 rfl ?_;refine pa (.bool J.2) (ae ?_);refine ⟨fun _=>hC,?_⟩;refine bj (by kernel_rfl) ?_;exact ⟨rfl,AI,AW,AU,AX,rfl,rfl,S⟩
   refine aC S dt ?_;intro D5 AI S A1;have AP:=au A1 AP;have AN:=fH AN A1;have AQ:=au A1 AQ;refine ae ?_;replace S:=S.t1;have hC:=(hCd _).2 ⟨_,S⟩;refine ⟨fun _=>hC,?_⟩;refine aO 14 rfl ?_;refine ec0 nY (hX Ch) (ca (ai rfl (ai rfl rfl))) S fun D4 A0 S=>?_;have AP:=au A0 AP;have AN:=fH AN A0;have AQ:=au A0 AQ;refine ae ?_;have hC:=(hCd _).2 ⟨_,S⟩;refine ⟨fun _=>hC,?_⟩;refine aO 15 rfl ?_;refine pm (.tuple #[.agg #[i_ J.1.1,i_ J.1.2],.bool J.2]) (ae ?_);refine ⟨fun _=>hC,?_⟩;refine aP (.agg #[i_ J.1.1,i_ J.1.2]) 16 rfl rfl hC (ap rfl (fun w' hw'=>by obtain ⟨_,S⟩:=(hCd _).1 hw'; exact (an rfl rfl))) ?_;refine aP (.bool J.2) 17 rfl rfl hC (ap rfl (fun w' hw'=>by obtain ⟨_,S⟩:=(hCd _).1 hw'; exact (an rfl rfl))) ?_;refine aO 19 rfl ?_;refine ah (S.top 1 rfl) rfl [i_ J.1.1,i_ J.1.2] rfl rfl dt (all_cons rfl (all_cons rfl rfl)) ?_;intro B5 S;replace S:Sat AK B5 (Box AI 68 [i_ J.1.1,i_ J.1.2] :: Frz AZ Bs :: G0):=S;refine ae ?_;replace S:=S.t1;have hC:=(hCd _).2 ⟨_,S⟩;refine ⟨fun _=>hC,?_⟩;refine aO 20 rfl ?_;refine pa (.bool J.2) (ae ?_);refine ⟨fun _=>hC,?_⟩;refine bj (by kernel_rfl) ?_;exact ⟨rfl,AI,AW,AU,AX,rfl,rfl,S⟩
  rintro Fc D6 ⟨AI,Da,Ck,Db,Dc,Dd,S⟩;replace S:=S.unfrz BG;replace S:Sat AK D6 (Own aT [u0] AY :: Box AI 68 [i_ J.1.1,i_ J.1.2] :: G0):=S;refine tn DZ (sg fun _ CF=>sR fun _ D7=>pM (i_ a1) Ck (pa (i_ a1) (en D7 (bg fun _ CG=>?_))));obtain ⟨D8,hL,Cl⟩:=ob F;refine aE (fun k e w=>∃ (AV:List T3_),∃ (A2:Bool),∃ (AR:Int),e 0=u0∧e 1=i_ a1∧e 5=i_ AH∧e 6=pt AI 0∧e 7=.bool A2∧e 8=i_ AR∧Sat AK w (Own aT [u0] AV :: Box AI 68 [i_ J.1.1,i_ J.1.2] :: G0)∧bY N k AV a1 AH J.1.1 J.1.2 A2 AR=some D8) N ?_ ?_ ?_
  ·exact ⟨AY,J.2,a1,Da,Ck,Db,Dc,Dd,rfl,S,hL⟩
  ·rintro e w ⟨_,_,_,_,_,_,_,_,_,_,hz⟩; exact nn hz
  rintro k Fd A3 ⟨AV,A2,AR,A4,Bb,Bc,BJ,BK,Bo,S,F⟩;refine gn fun _ BL=>sg fun _ B6=>sR fun _ CH=>pM (i_ AR) Bo (pM u0 A4 (pM (i_ AH) Bc (oB F fun B7 De F=>?_)));refine aS (wA:=A3) rfl (S.rdAt (R:=aT) 0 rfl) rfl dt rfl De dt ?_;intro Fe EH Ff AO AS;obtain ⟨D9,rfl⟩:=aQ AO;refine pe D9 (ab rfl (AS 0 _ rfl)) (pe (i_ (B7.length:Int)) (aA rfl AO) (pe (.bool (decide (AR < (B7.length:Int)))) (aH rfl rfl) (pm (.bool (decide (AR < (B7.length:Int)))) (oF F (fun Bd F=>?_) fun Bd F=>?_))))
  ·refine ei Bd (pM (.bool A2) BK (pe (.bool A2) (aw rfl Bd rfl) (en CH (oF F (fun BM F=>?_) fun BM F=>?_))))
   ·refine ct BM (sn B6 (sg fun _ CI=>bg fun _ CJ=>sg fun _ Ea=>?_));obtain ⟨Bx,Cm,S⟩:=S.frz;replace S:Sat AK A3 (Frz A3 Bx :: Box AI 68 [i_ J.1.1,i_ J.1.2] :: G0):=S;refine oB F fun Fg Df F=>oB F fun BN Dg F=>oB F fun AG Co F=>?_;refine fP (fun e w=>∃ (AT:Nat),e 0=u0∧e 1=i_ a1∧e 5=i_ AH∧e 6=pt AI 0∧e 8=i_ AR∧e 9=pt AT 0∧e 10=.bool AG.2∧Sat AK w (Box AI 68 [i_ J.1.1,i_ J.1.2] :: Frz A3 Bx :: Box AT 68 [i_ AG.1.1,i_ AG.1.2] :: G0)) ?_ ?_
    ·obtain ⟨C,hCd⟩:∃ C:World → Prop,∀ w,C w ↔ ∃ G,Sat AK w ([Box AI 68 [i_ J.1.1,i_ J.1.2],Frz A3 Bx] ++ G):=⟨_,fun _=>Iff.rfl⟩;refine bU [0,1,2,3,4,5,6,7,8,9,10,11,12,13,14] C (by kernel_rfl) ?_;intro Fh BO;replace S:=S.ext BO;have AS:=au BO AS;have AO:=fH AO BO;replace S:=S.t1;have hC:=(hCd _).2 ⟨_,S⟩;refine aP (.agg #[i_ J.1.1,i_ J.1.2]) 0 rfl rfl hC (ap rfl (fun w' hw'=>by obtain ⟨_,S⟩:=(hCd _).1 hw'; exact (am (cs:=[i_ J.1.1,i_ J.1.2]) BJ rfl (aq (S.boxAt 0 rfl))))) ?_;refine aP u0 1 rfl rfl hC (ap rfl (fun w' hw'=>by obtain ⟨_,S⟩:=(hCd _).1 hw'; exact (ar A4))) ?_;refine aP (i_ a1) 2 rfl rfl hC (ap rfl (fun w' hw'=>by obtain ⟨_,S⟩:=(hCd _).1 hw'; exact (ar Bb))) ?_;refine dq (by kernel_rfl) 3 rfl hC (by kernel_rfl) (by kernel_rfl) rfl Cm rfl rfl Df dt ?_;intro Fi EI Fj Fk Cp Be By Dh;replace Be:=fun q hq=>(fun _ h=>h) q (Be q hq);replace By:=(fun _ h=>h) _ By;obtain ⟨Eb,rfl⟩:=aQ (Rep.own_rd _ Cp);refine aP Eb 4 rfl rfl hC (ap rfl (fun w' hw'=>by obtain ⟨_,S⟩:=(hCd _).1 hw'; exact (ab rfl ((S.frzCells 1 rfl By Dh) 0 _ rfl)))) ?_;refine aP (i_ AR) 5 rfl rfl hC (ap rfl (fun w' hw'=>by obtain ⟨_,S⟩:=(hCd _).1 hw'; exact (ar Bo))) ?_;refine dq (by kernel_rfl) 6 rfl hC (by kernel_rfl) (by kernel_rfl) rfl Cp rfl rfl Dg dt ?_;intro Fl EJ Fm Fo Di Bf Bz Dj;replace Bf:=fun q hq=>Be q (Bf q hq);replace Bz:=Be _ Bz;obtain ⟨_,_,_,_,rfl,rfl,Dk,Dl⟩:=Di;have Ew:=fun q hq=>Bf q (List.mem_append_left _ hq);have Ex:=fun q hq=>Bf q (List.mem_append_right _ hq);obtain ⟨rfl,_⟩:=Dk;obtain ⟨rfl,_⟩:=Dl;refine aP (.agg #[i_ BN.1,i_ BN.2]) 7 rfl rfl hC (ap rfl (fun w' hw'=>by obtain ⟨_,S⟩:=(hCd _).1 hw'; exact (am (cs:=[i_ BN.1,i_ BN.2]) rfl rfl (S.frzCells 1 rfl Bz Dj)))) ?_;refine eV 8 12 (by kernel_rfl) rfl rfl ?_ ?_
     ·refine ec0 nW (hQ Co) (ca (ai rfl (ai rfl rfl))) S fun Ec Bg S=>?_;have AS:=au Bg AS;have AO:=fH AO Bg;refine ae ?_;have hC:=(hCd _).2 ⟨_,S⟩;refine ⟨fun _=>hC,?_⟩;refine aP (.tuple #[.agg #[i_ AG.1.1,i_ AG.1.2],.bool AG.2]) 9 rfl rfl hC (ap rfl (fun w' hw'=>by obtain ⟨_,S⟩:=(hCd _).1 hw'; exact (ar rfl))) ?_;refine aP (.agg #[i_ AG.1.1,i_ AG.1.2]) 10 rfl rfl hC (ap rfl (fun w' hw'=>by obtain ⟨_,S⟩:=(hCd _).1 hw'; exact (an rfl rfl))) ?_;refine aP (.bool AG.2) 11 rfl rfl hC (ap rfl (fun w' hw'=>by obtain ⟨_,S⟩:=(hCd _).1 hw'; exact (an rfl rfl))) ?_;refine aO 12 rfl ?_;refine aC S dt ?_;intro Ed AT S Bh;have AS:=au Bh AS;have AO:=fH AO Bh;refine ae ?_;replace S:=S.t2.t2;have hC:=(hCd _).2 ⟨_,S⟩;refine ⟨fun _=>hC,?_⟩;refine aO 13 rfl ?_;refine ah (S.top 2 rfl) rfl [i_ AG.1.1,i_ AG.1.2] rfl rfl dt (all_cons rfl (all_cons rfl rfl)) ?_;intro B8 S;replace S:Sat AK B8 (Box AT 68 [i_ AG.1.1,i_ AG.1.2] :: Box AI 68 [i_ J.1.1,i_ J.1.2] :: Frz A3 Bx :: G0):=S;refine ae ?_;replace S:=S.t2.t2;have hC:=(hCd _).2 ⟨_,S⟩;refine ⟨fun _=>hC,?_⟩;refine aO 14 rfl ?_;refine pa (.bool AG.2) (ae ?_);refine ⟨fun _=>hC,?_⟩;refine bj (by kernel_rfl) ?_;exact ⟨rfl,AT,A4,Bb,Bc,BJ,Bo,rfl,rfl,S⟩
     refine aC S dt ?_;intro Ed AT S Bh;have AS:=au Bh AS;have AO:=fH AO Bh;refine ae ?_;replace S:=S.t2.t2;have hC:=(hCd _).2 ⟨_,S⟩;refine ⟨fun _=>hC,?_⟩;refine aO 8 rfl ?_;refine ec0 nW (hQ Co) (ca (ai rfl (ai rfl rfl))) S fun Ec Bg S=>?_;have AS:=au Bg AS;have AO:=fH AO Bg;refine ae ?_;have hC:=(hCd _).2 ⟨_,S⟩;refine ⟨fun _=>hC,?_⟩;refine aO 9 rfl ?_;refine pm (.tuple #[.agg #[i_ AG.1.1,i_ AG.1.2],.bool AG.2]) (ae ?_);refine ⟨fun _=>hC,?_⟩;refine aP (.agg #[i_ AG.1.1,i_ AG.1.2]) 10 rfl rfl hC (ap rfl (fun w' hw'=>by obtain ⟨_,S⟩:=(hCd _).1 hw'; exact (an rfl rfl))) ?_;refine aP (.bool AG.2) 11 rfl rfl hC (ap rfl (fun w' hw'=>by obtain ⟨_,S⟩:=(hCd _).1 hw'; exact (an rfl rfl))) ?_;refine aO 13 rfl ?_;refine ah (S.top 2 rfl) rfl [i_ AG.1.1,i_ AG.1.2] rfl rfl dt (all_cons rfl (all_cons rfl rfl)) ?_;intro B8 S;replace S:Sat AK B8 (Box AT 68 [i_ AG.1.1,i_ AG.1.2] :: Box AI 68 [i_ J.1.1,i_ J.1.2] :: Frz A3 Bx :: G0):=S;refine ae ?_;replace S:=S.t2.t2;have hC:=(hCd _).2 ⟨_,S⟩;refine ⟨fun _=>hC,?_⟩;refine aO 14 rfl ?_;refine pa (.bool AG.2) (ae ?_);refine ⟨fun _=>hC,?_⟩;refine bj (by kernel_rfl) ?_;exact ⟨rfl,AT,A4,Bb,Bc,BJ,Bo,rfl,rfl,S⟩
    rintro Fq A6 ⟨AT,BP,Cq,BQ,Cr,BR,Dm,Cs,S⟩;replace S:=S.t1;replace S:=S.unfrz Cm;replace S:Sat AK A6 (Own aT [u0] AV :: Box AI 68 [i_ J.1.1,i_ J.1.2] :: Box AT 68 [i_ AG.1.1,i_ AG.1.2] :: G0):=S;refine tn Ea (sg fun _ Ee=>?_);obtain ⟨BA,Ct,S⟩:=S.frz;replace S:Sat AK A6 (Frz A6 BA :: Box AI 68 [i_ J.1.1,i_ J.1.2] :: Box AT 68 [i_ AG.1.1,i_ AG.1.2] :: G0):=S;refine oB F fun Fr Dn F=>oB F fun BS Do F=>oB F fun U Cu F=>?_;refine fP (fun e w=>∃ (AM:Nat),e 0=u0∧e 1=i_ a1∧e 5=i_ AH∧e 6=pt AI 0∧e 8=i_ AR∧e 10=.bool AG.2∧e 11=pt AM 0∧e 12=.bool U.2∧Sat AK w (Box AI 68 [i_ J.1.1,i_ J.1.2] :: Frz A6 BA :: Box AM 68 [i_ U.1.1,i_ U.1.2] :: G0)) ?_ ?_
    ·obtain ⟨C,hCd⟩:∃ C:World → Prop,∀ w,C w ↔ ∃ G,Sat AK w ([Box AT 68 [i_ AG.1.1,i_ AG.1.2],Frz A6 BA] ++ G):=⟨_,fun _=>Iff.rfl⟩;refine bU [0,1,2,3,4,5,6,7,8,9,10,11,12,13,14] C (by kernel_rfl) ?_;intro Fs Dp;replace S:=S.ext Dp;replace S:=S.t2;have hC:=(hCd _).2 ⟨_,S⟩;refine aP u0 0 rfl rfl hC (ap rfl (fun w' hw'=>by obtain ⟨_,S⟩:=(hCd _).1 hw'; exact (ar BP))) ?_;refine aP (i_ AH) 1 rfl rfl hC (ap rfl (fun w' hw'=>by obtain ⟨_,S⟩:=(hCd _).1 hw'; exact (ar BQ))) ?_;refine dq (by kernel_rfl) 2 rfl hC (by kernel_rfl) (by kernel_rfl) rfl Ct rfl rfl Dn dt ?_;intro Ft EK Fu Fv Cv Bi BB Dq;replace Bi:=fun q hq=>(fun _ h=>h) q (Bi q hq);replace BB:=(fun _ h=>h) _ BB;obtain ⟨Ef,rfl⟩:=aQ (Rep.own_rd _ Cv);refine aP Ef 3 rfl rfl hC (ap rfl (fun w' hw'=>by obtain ⟨_,S⟩:=(hCd _).1 hw'; exact (ab rfl ((S.frzCells 1 rfl BB Dq) 0 _ rfl)))) ?_;refine aP (i_ AR) 4 rfl rfl hC (ap rfl (fun w' hw'=>by obtain ⟨_,S⟩:=(hCd _).1 hw'; exact (ar BR))) ?_;refine dq (by kernel_rfl) 5 rfl hC (by kernel_rfl) (by kernel_rfl) rfl Cv rfl rfl Do dt ?_;intro Fw EM Fx Fy Dr Bj BC Ds;replace Bj:=fun q hq=>Bi q (Bj q hq);replace BC:=Bi _ BC;obtain ⟨_,_,_,_,rfl,rfl,Dt,Du⟩:=Dr;have Ey:=fun q hq=>Bj q (List.mem_append_left _ hq);have Ez:=fun q hq=>Bj q (List.mem_append_right _ hq);obtain ⟨rfl,_⟩:=Dt;obtain ⟨rfl,_⟩:=Du;refine aP (.agg #[i_ BS.1,i_ BS.2]) 6 rfl rfl hC (ap rfl (fun w' hw'=>by obtain ⟨_,S⟩:=(hCd _).1 hw'; exact (am (cs:=[i_ BS.1,i_ BS.2]) rfl rfl (S.frzCells 1 rfl BC Ds)))) ?_;refine aP (.agg #[i_ AG.1.1,i_ AG.1.2]) 7 rfl rfl hC (ap rfl (fun w' hw'=>by obtain ⟨_,S⟩:=(hCd _).1 hw'; exact (am (cs:=[i_ AG.1.1,i_ AG.1.2]) Dm rfl (aq (S.boxAt 0 rfl))))) ?_;refine eV 8 12 (by kernel_rfl) rfl rfl ?_ ?_
     ·refine ec0 sY (kf Cu) (ca (ai rfl (ai rfl rfl))) S fun Eg Dv S=>?_;refine ae ?_;have hC:=(hCd _).2 ⟨_,S⟩;refine ⟨fun _=>hC,?_⟩;refine aP (.tuple #[.agg #[i_ U.1.1,i_ U.1.2],.bool U.2]) 9 rfl rfl hC (ap rfl (fun w' hw'=>by obtain ⟨_,S⟩:=(hCd _).1 hw'; exact (ar rfl))) ?_;refine aP (.agg #[i_ U.1.1,i_ U.1.2]) 10 rfl rfl hC (ap rfl (fun w' hw'=>by obtain ⟨_,S⟩:=(hCd _).1 hw'; exact (an rfl rfl))) ?_;refine aP (.bool U.2) 11 rfl rfl hC (ap rfl (fun w' hw'=>by obtain ⟨_,S⟩:=(hCd _).1 hw'; exact (an rfl rfl))) ?_;refine aO 12 rfl ?_;refine aC S dt ?_;intro Eh AM S Dw;refine ae ?_;replace S:=S.t2.t2;have hC:=(hCd _).2 ⟨_,S⟩;refine ⟨fun _=>hC,?_⟩;refine aO 13 rfl ?_;refine ah (S.top 2 rfl) rfl [i_ U.1.1,i_ U.1.2] rfl rfl dt (all_cons rfl (all_cons rfl rfl)) ?_;intro B9 S;replace S:Sat AK B9 (Box AM 68 [i_ U.1.1,i_ U.1.2] :: Box AT 68 [i_ AG.1.1,i_ AG.1.2] :: Frz A6 BA :: Box AI 68 [i_ J.1.1,i_ J.1.2] :: G0):=S;refine ae ?_;replace S:=S.t2.t2;have hC:=(hCd _).2 ⟨_,S⟩;refine ⟨fun _=>hC,?_⟩;refine aO 14 rfl ?_;refine pa (.bool U.2) (ae ?_);refine ⟨fun _=>hC,?_⟩;refine bj (by kernel_rfl) ?_;replace S:=S.t2.t2.t3;replace S:=S.r3;exact ⟨rfl,AM,BP,Cq,BQ,Cr,BR,Cs,rfl,rfl,S⟩
     refine aC S dt ?_;intro Eh AM S Dw;refine ae ?_;replace S:=S.t2.t2;have hC:=(hCd _).2 ⟨_,S⟩;refine ⟨fun _=>hC,?_⟩;refine aO 8 rfl ?_;refine ec0 sY (kf Cu) (ca (ai rfl (ai rfl rfl))) S fun Eg Dv S=>?_;refine ae ?_;have hC:=(hCd _).2 ⟨_,S⟩;refine ⟨fun _=>hC,?_⟩;refine aO 9 rfl ?_;refine pm (.tuple #[.agg #[i_ U.1.1,i_ U.1.2],.bool U.2]) (ae ?_);refine ⟨fun _=>hC,?_⟩;refine aP (.agg #[i_ U.1.1,i_ U.1.2]) 10 rfl rfl hC (ap rfl (fun w' hw'=>by obtain ⟨_,S⟩:=(hCd _).1 hw'; exact (an rfl rfl))) ?_;refine aP (.bool U.2) 11 rfl rfl hC (ap rfl (fun w' hw'=>by obtain ⟨_,S⟩:=(hCd _).1 hw'; exact (an rfl rfl))) ?_;refine aO 13 rfl ?_;refine ah (S.top 2 rfl) rfl [i_ U.1.1,i_ U.1.2] rfl rfl dt (all_cons rfl (all_cons rfl rfl)) ?_;intro B9 S;replace S:Sat AK B9 (Box AM 68 [i_ U.1.1,i_ U.1.2] :: Box AT 68 [i_ AG.1.1,i_ AG.1.2] :: Frz A6 BA :: Box AI 68 [i_ J.1.1,i_ J.1.2] :: G0):=S;refine ae ?_;replace S:=S.t2.t2;have hC:=(hCd _).2 ⟨_,S⟩;refine ⟨fun _=>hC,?_⟩;refine aO 14 rfl ?_;refine pa (.bool U.2) (ae ?_);refine ⟨fun _=>hC,?_⟩;refine bj (by kernel_rfl) ?_;replace S:=S.t2.t2.t3;replace S:=S.r3;exact ⟨rfl,AM,BP,Cq,BQ,Cr,BR,Cs,rfl,rfl,S⟩
    rintro Fz Ca ⟨AM,Bp,Cw,Bq,Cx,Br,Dx,Cy,Dy,S⟩;replace S:=S.t1;replace S:=S.unfrz Ct;replace S:Sat AK Ca (Own aT [u0] AV :: Box AI 68 [i_ J.1.1,i_ J.1.2] :: Box AM 68 [i_ U.1.1,i_ U.1.2] :: G0):=S;refine tn Ee (sR fun _ CK=>pM (.bool AG.2) Dx (pm (.bool AG.2) (oF F (fun Bk F=>?_) fun Bk F=>?_)))
    ·refine ei Bk (pM (.bool U.2) Dy (pe (.bool U.2) (aw rfl Bk rfl) (pa (.bool U.2) (en CK (oB F fun Ei Cz F=>?_)))));obtain ⟨Cb,EA,FA,Dz,BT,S⟩:=S.takeOutC (m:=1) Cz rfl;obtain ⟨BU,rfl⟩:=aQ BT;replace S:Sat AK Ca (Own R6_ [BU] Ei :: kE R6_ 27 u0 AV (AH:Int).toNat [BU] Cb 1 :: Box AI 68 [i_ J.1.1,i_ J.1.2] :: Box AM 68 [i_ U.1.1,i_ U.1.2] :: G0):=S;obtain ⟨C,hCd⟩:∃ C:World → Prop,∀ w,C w ↔ ∃ G,Sat AK w ([Box AM 68 [i_ U.1.1,i_ U.1.2],kE R6_ 27 u0 AV (AH:Int).toNat [BU] Cb 1] ++ G):=⟨_,fun _=>Iff.rfl⟩;refine bU [0,1,2,3,4,5,6] C (by kernel_rfl) ?_;intro FB CA;replace S:=S.ext CA;have BT:=fH BT CA;replace S:=S.t1.t3;have hC:=(hCd _).2 ⟨_,S⟩;refine aP u0 0 rfl rfl hC (ap rfl (fun w' hw'=>by obtain ⟨_,S⟩:=(hCd _).1 hw'; exact (ar Bp))) ?_;refine aP (i_ AH) 1 rfl rfl hC (ap rfl (fun w' hw'=>by obtain ⟨_,S⟩:=(hCd _).1 hw'; exact (ar Bq))) ?_;refine aP (pt Cb ((AH:Int).toNat * 1)) 2 rfl rfl hC (ap rfl (fun w' hw'=>by obtain ⟨_,S⟩:=(hCd _).1 hw'; exact (jd (v:=u0) rfl Dz rfl Cz))) ?_;refine aP BU 3 rfl rfl hC (ap rfl (fun w' hw'=>by obtain ⟨_,S⟩:=(hCd _).1 hw'; exact (ab rfl ((S.holeCells 1 rfl) 0 _ rfl)))) ?_;refine aP (i_ AR) 4 rfl rfl hC (ap rfl (fun w' hw'=>by obtain ⟨_,S⟩:=(hCd _).1 hw'; exact (ar Br))) ?_;refine aO 5 rfl ?_;refine pe (.agg #[i_ U.1.1,i_ U.1.2]) (am (cs:=[i_ U.1.1,i_ U.1.2]) Cy rfl (aq (S.boxAt 0 rfl))) (ae ?_);refine ⟨fun _=>hC,?_⟩;refine aO 6 rfl ?_;refine oB F fun FC DA F=>?_;replace S:=S.t2;refine fB S rfl rfl dt rfl DA dt ?_;intro FD EN FE DB DC EO;obtain ⟨_,_,rfl,DD,DE⟩:=DC;obtain rfl:=DD;obtain rfl:=DE;refine ae ?_;refine ⟨fun _=>hC,?_⟩;refine aO 7 rfl ?_;refine oB F fun FF DF F=>?_;replace S:=S.int U.1.2;replace S:=S.int U.1.1;replace S:=S.pair;refine gj rfl DB S DF rfl rfl ?_;intro Ej S;replace S:=S.t2;replace S:=S.t1;refine oB F fun CL DG F=>?_;replace S:=S.putBackC DG;replace S:Sat AK Ej (Own aT [u0] CL :: Box AM 68 [i_ U.1.1,i_ U.1.2] :: Box AI 68 [i_ J.1.1,i_ J.1.2] :: G0):=S;refine ae ?_;refine ⟨fun h=>(nomatch (show false=true from h)),?_⟩;refine bj (by kernel_rfl) ?_;refine bn CJ (tn CI ?_);replace S:=S.r1;refine ac (pM (i_ AR) Br (oB F fun Cc DH F=>pe (i_ Cc) (aD rfl rfl DH) (pa (i_ Cc) (en BL ?_))));exact ⟨CL,U.2,Cc,Bp,Cw,Bq,Cx,rfl,rfl,S,F⟩
    refine eo Bk (pe (.bool false) (ay rfl Bk rfl) (pa (.bool false) (en CK (oB F fun Ek CB F=>?_))));obtain ⟨Cd,EB,FG,DI,BV,S⟩:=S.takeOutC (m:=1) CB rfl;obtain ⟨BW,rfl⟩:=aQ BV;replace S:Sat AK Ca (Own R6_ [BW] Ek :: kE R6_ 27 u0 AV (AH:Int).toNat [BW] Cd 1 :: Box AI 68 [i_ J.1.1,i_ J.1.2] :: Box AM 68 [i_ U.1.1,i_ U.1.2] :: G0):=S;obtain ⟨C,hCd⟩:∃ C:World → Prop,∀ w,C w ↔ ∃ G,Sat AK w ([Box AM 68 [i_ U.1.1,i_ U.1.2],kE R6_ 27 u0 AV (AH:Int).toNat [BW] Cd 1] ++ G):=⟨_,fun _=>Iff.rfl⟩;refine bU [0,1,2,3,4,5,6] C (by kernel_rfl) ?_;intro FH CC;replace S:=S.ext CC;have BV:=fH BV CC;replace S:=S.t1.t3;have hC:=(hCd _).2 ⟨_,S⟩;refine aP u0 0 rfl rfl hC (ap rfl (fun w' hw'=>by obtain ⟨_,S⟩:=(hCd _).1 hw'; exact (ar Bp))) ?_;refine aP (i_ AH) 1 rfl rfl hC (ap rfl (fun w' hw'=>by obtain ⟨_,S⟩:=(hCd _).1 hw'; exact (ar Bq))) ?_;refine aP (pt Cd ((AH:Int).toNat * 1)) 2 rfl rfl hC (ap rfl (fun w' hw'=>by obtain ⟨_,S⟩:=(hCd _).1 hw'; exact (jd (v:=u0) rfl DI rfl CB))) ?_;refine aP BW 3 rfl rfl hC (ap rfl (fun w' hw'=>by obtain ⟨_,S⟩:=(hCd _).1 hw'; exact (ab rfl ((S.holeCells 1 rfl) 0 _ rfl)))) ?_;refine aP (i_ AR) 4 rfl rfl hC (ap rfl (fun w' hw'=>by obtain ⟨_,S⟩:=(hCd _).1 hw'; exact (ar Br))) ?_;refine aO 5 rfl ?_;refine pe (.agg #[i_ U.1.1,i_ U.1.2]) (am (cs:=[i_ U.1.1,i_ U.1.2]) Cy rfl (aq (S.boxAt 0 rfl))) (ae ?_);refine ⟨fun _=>hC,?_⟩;refine aO 6 rfl ?_;refine oB F fun FI DJ F=>?_;replace S:=S.t2;refine fB S rfl rfl dt rfl DJ dt ?_;intro FJ EP FK DK DL EQ;obtain ⟨_,_,rfl,DM,DN⟩:=DL;obtain rfl:=DM;obtain rfl:=DN;refine ae ?_;refine ⟨fun _=>hC,?_⟩;refine aO 7 rfl ?_;refine oB F fun FL DO F=>?_;replace S:=S.int U.1.2;replace S:=S.int U.1.1;replace S:=S.pair;refine gj rfl DK S DO rfl rfl ?_;intro El S;replace S:=S.t2;replace S:=S.t1;refine oB F fun CM DP F=>?_;replace S:=S.putBackC DP;replace S:Sat AK El (Own aT [u0] CM :: Box AM 68 [i_ U.1.1,i_ U.1.2] :: Box AI 68 [i_ J.1.1,i_ J.1.2] :: G0):=S;refine ae ?_;refine ⟨fun h=>(nomatch (show false=true from h)),?_⟩;refine bj (by kernel_rfl) ?_;refine bn CJ (tn CI ?_);replace S:=S.r1;refine ac (pM (i_ AR) Br (oB F fun Ce DQ F=>pe (i_ Ce) (aD rfl rfl DQ) (pa (i_ Ce) (en BL ?_))));exact ⟨CM,false,Ce,Bp,Cw,Bq,Cx,rfl,rfl,S,F⟩
   refine cf BM (aF (tx B6 (tx BL ?_)));replace F:=exB F Cl;refine bS CG (tn CF (sg fun _ Em=>?_));replace S:=S.r1;refine ac (pM (.bool A2) BK (pe (.bool (!A2)) (aK rfl) (en Em (oF F (fun BX F=>?_) fun BX F=>?_))))
   ·refine cf (aj BX) (bf (bn Bm (tn Bl (ac (pM (i_ AH) Bc (oB F fun Cf DR F=>pe (i_ Cf) (aD rfl rfl DR) (pa (i_ Cf) (en A5 ?_))))))));exact ⟨AV,Cf,A4,Bb,rfl,S,F⟩
   refine ct (ak BX) (sR fun _ En=>pa (.bool false) (en En (ag (br Bm (tr Bl (tr A5 (br B0 (tr BZ ?_))))))));replace F:=exL F BD;refine aJ rfl rfl ?_;have hr:=oI F;exact ⟨(cR hr fun r=>.bool r.1 :),Eq.mp (congrArg (fun (r:Bool × T6_)=>Sat AK A3 (Own aT [u0] r.2 :: G0)) hr :) S⟩
  refine eo Bd (pe (.bool false) (ay rfl Bd rfl) (en CH (cf rfl (aF (tx B6 (tx BL ?_))))));replace F:=exB F Cl;refine bS CG (tn CF (sg fun _ Eo=>?_));replace S:=S.r1;refine ac (pM (.bool A2) BK (pe (.bool (!A2)) (aK rfl) (en Eo (oF F (fun BY F=>?_) fun BY F=>?_))))
  ·refine cf (aj BY) (bf (bn Bm (tn Bl (ac (pM (i_ AH) Bc (oB F fun Cg DS F=>pe (i_ Cg) (aD rfl rfl DS) (pa (i_ Cg) (en A5 ?_))))))));exact ⟨AV,Cg,A4,Bb,rfl,S,F⟩
  refine ct (ak BY) (sR fun _ Ep=>pa (.bool false) (en Ep (ag (br Bm (tr Bl (tr A5 (br B0 (tr BZ ?_))))))));replace F:=exL F BD;refine aJ rfl rfl ?_;have hr:=oI F;exact ⟨(cR hr fun r=>.bool r.1 :),Eq.mp (congrArg (fun (r:Bool × T6_)=>Sat AK A3 (Own aT [u0] r.2 :: G0)) hr :) S⟩
 refine cf BE (aF (tx CD (tx A5 ?_)));replace F:=exA F BD;refine bS B0 (tn BZ (sR fun _ Er=>pa (.bool true) (en Er (ag (aJ rfl rfl ?_)))));have hr:=oI F;exact ⟨(cR hr fun r=>.bool r.1 :),Eq.mp (congrArg (fun (r:Bool × T6_)=>Sat AK AZ (Own aT [u0] r.2 :: G0)) hr :) S⟩
theorem li {w0:World} {u0:Value} {a0:List T3_} {u1:Value} {a1:List T1_} (ha0:aT.rd w0 [u0] a0) (ha1:R6_.rd w0 [u1] a1) {N:Nat} {r:T3_ × Bool} (F:bq N a0 a1=some r): Calls Tryz.prog 91 #[u0,u1] w0 fun e w'=>∃ (q0:Value),e=.returned (.tuple #[q0,.bool r.2])∧Sat w0 w' [Own R6_ [q0] r.1] := by
 unfold bq at F;refine aI Tryz.func91 rfl rfl dt ?_;have S:=Sat.start w0;refine sR fun _ Ey=>pa n_ (pa (.bool false) (en Ey (sR fun _ Ez=>pm u1 (pe (i_ (a1.length:Int)) (aA rfl ha1) (pa (i_ (a1.length:Int)) (en Ez (sg fun _ Cb=>sR fun _ CN=>pm (i_ (a1.length:Int)) (pe (.bool (decide (6 < (a1.length:Int)))) (dF rfl rfl) (pm (.bool (decide (6 < (a1.length:Int)))) (oF F (fun AJ F=>?_) fun AJ F=>?_))))))))))
 ·refine eo AJ (eo AJ (eo AJ (eo AJ (eo AJ (pe (.bool true) (aw rfl AJ rfl) (en CN (ct rfl (sR fun _ EA=>?_))))))));refine aV R2_ S dt ?_;intro Ge Bw S FJ;refine pa Bw (pa (.bool false) (en EA (ag (tr Cb (cG rfl rfl rfl ?_)))));have hr:=oI F;exact ⟨Bw,cR hr fun r=>.tuple #[Bw,.bool r.2],sP hr (fun r=>[Own R6_ [Bw] r.1]) (S.keep 1)⟩
 refine ei AJ (pm u0 (ei AJ (pm (i_ (a1.length:Int)) (ei AJ (pm (i_ (a1.length:Int)) (ei AJ (oB F fun CO Dn F=>?_)))))));refine ec0 oZ (io (S.up ha0) Dn) (ca (ai rfl (ai rfl (ai rfl rfl)))) S fun Gf FK S=>?_;refine ei AJ (pe (.bool (!CO)) (aK rfl) (pe (.bool (!CO)) (ay rfl AJ rfl) (en CN (oF F (fun Bx F=>?_) fun Bx F=>?_))))
 ·refine cf (aj Bx) (sn Cb (sR fun _ EB=>?_));refine aV R6_ S dt ?_;intro Gg CP S FL;refine pa CP (en EB (sg fun _ CQ=>sR fun _ EC=>pa (i_ 0) (en EC (bg fun _ CR=>?_))));obtain ⟨ED,hL,Cq⟩:=ob F;refine aE (fun k e w=>∃ (Bl:Value),∃ (By:List T3_),∃ (AR:Int),e 0=u0∧e 1=u1∧e 6=i_ (a1.length:Int)∧e 7=Bl∧e 8=i_ AR∧Sat w0 w [Own aT [Bl] By]∧bu N k a0 a1 (a1.length:Int) By AR=some ED) N ?_ ?_ ?_
  ·exact ⟨CP,[],0,rfl,rfl,rfl,rfl,rfl,S,hL⟩
  ·rintro e w ⟨_,_,_,_,_,_,_,_,_,hz⟩; exact nn hz
  rintro k Gh Gi ⟨Bl,By,AR,Bg,A3,A4,Cr,AX,S,F⟩;refine gn fun _ Cc=>sg fun _ CS=>sR fun _ EE=>pM (i_ AR) AX (pM (i_ (a1.length:Int)) A4 (pe (.bool (decide (AR < (a1.length:Int)))) (aH rfl rfl) (en EE (oF F (fun Bz F=>?_) fun Bz F=>?_))))
  ·refine ct Bz (sn CS (sg fun _ CT=>bg fun _ CU=>sg fun _ CV=>sR fun _ EF=>pM u1 A3 (pM (i_ AR) AX (oB F fun BA Do F=>?_))));refine aS (wA:=w0) rfl ha1 rfl dt rfl Do dt ?_;intro Gj FM Gk Dp Dq;obtain ⟨_,_,rfl,Dr,Ds⟩:=Dp;obtain rfl:=Dr;obtain rfl:=Ds;refine pe (.agg #[i_ BA.1,i_ BA.2]) (am (cs:=[i_ BA.1,i_ BA.2]) rfl rfl (au S.below Dq)) (oB F fun EG Dt F=>?_);refine ec0 fU (bi Dt) (ca (ai rfl rfl)) S fun Gl FN S=>?_;refine pe (.bool (!EG)) (aK rfl) (en EF (oF F (fun BB F=>?_) fun BB F=>?_))
   ·refine cf (aj BB) (sn CV (oB F fun Gm Du F=>oB F fun AK Dv F=>oB F fun Gn BC F=>oB F fun Gp BD F=>oB F fun CX BE F=>?_));refine fP (fun e w=>∃ (AO:Value),e 0=u0∧e 1=u1∧e 6=i_ (a1.length:Int)∧e 7=AO∧e 8=i_ AR∧Sat w0 w [Own aT [AO] CX]) ?_ ?_
    ·obtain ⟨C,hCd⟩:∃ C:World → Prop,∀ w,C w ↔ ∃ G,Sat w0 w ([] ++ G):=⟨_,fun _=>Iff.rfl⟩;refine bU [0,1,2,3,4,5,6,7,8,9,10,11,12,13,14,15] C (by kernel_rfl) ?_;intro Gq Dw;replace S:=S.ext Dw;have hC:=(hCd _).2 ⟨_,S⟩;refine aP Bl 0 rfl rfl hC (ap rfl (fun w' hw'=>by obtain ⟨_,S⟩:=(hCd _).1 hw'; exact (ar Cr))) ?_;refine aP u0 2 rfl rfl hC (ap rfl (fun w' hw'=>by obtain ⟨_,S⟩:=(hCd _).1 hw'; exact (ar Bg))) ?_;refine aP (i_ AR) 3 rfl rfl hC (ap rfl (fun w' hw'=>by obtain ⟨_,S⟩:=(hCd _).1 hw'; exact (ar AX))) ?_;refine fK (wA:=w0) (by kernel_rfl) 4 rfl hC (by kernel_rfl) (by kernel_rfl) rfl ha0 rfl dt rfl Du dt ?_;intro Gr FO Gs Bh Dx;obtain ⟨EH,rfl⟩:=aQ Bh;refine aP EH 5 rfl rfl hC (ap rfl (fun w' hw'=>by obtain ⟨_,S⟩:=(hCd _).1 hw'; exact (ab rfl ((au S.below Dx) 0 _ rfl)))) ?_;refine aP u1 7 rfl rfl hC (ap rfl (fun w' hw'=>by obtain ⟨_,S⟩:=(hCd _).1 hw'; exact (ar A3))) ?_;refine aP (i_ AR) 8 rfl rfl hC (ap rfl (fun w' hw'=>by obtain ⟨_,S⟩:=(hCd _).1 hw'; exact (ar AX))) ?_;refine fK (wA:=w0) (by kernel_rfl) 9 rfl hC (by kernel_rfl) (by kernel_rfl) rfl ha1 rfl dt rfl Dv dt ?_;intro Gt FP Gu Dy Dz;obtain ⟨_,_,rfl,DA,DB⟩:=Dy;obtain rfl:=DA;obtain rfl:=DB;refine aP (.agg #[i_ AK.1,i_ AK.2]) 10 rfl rfl hC (ap rfl (fun w' hw'=>by obtain ⟨_,S⟩:=(hCd _).1 hw'; exact (am (cs:=[i_ AK.1,i_ AK.2]) rfl rfl (au S.below Dz)))) ?_;refine eV 1 11 (by kernel_rfl) rfl rfl ?_ ?_
     ·refine aV R2_ S dt ?_;intro EI EJ S DC;refine ae ?_;have hC:=(hCd _).2 ⟨_,S⟩;refine ⟨fun _=>hC,?_⟩;refine eV 6 11 (by kernel_rfl) rfl rfl ?_ ?_
      ·obtain ⟨Cs,CY,Ct,A5,A6,AU,A7⟩:=nX (S.up Bh);replace S:=S.freeL (R:=R2_) A7;refine aN rfl dt rfl dt S rfl (rfl.trans A5) rfl A6 AU BC dt ?_;intro CZ C0 S;refine ae ?_;have hC:=(hCd _).2 ⟨_,S⟩;refine ⟨fun _=>hC,?_⟩;refine aO 11 rfl ?_;refine az [i_ AK.1,i_ AK.2] rfl (by rfl) dt rfl dt S dt ?_;intro C1 C2 S Cu;refine ae ?_;have hC:=(hCd _).2 ⟨_,S⟩;refine ⟨fun _=>hC,?_⟩;refine aO 12 rfl ?_;have AV:=S.boxRow 0 rfl;replace S:=S.t1;replace S:=S.int AK.2;replace S:=S.int AK.1;replace S:=S.pair;replace S:=S.one;refine aN rfl dt rfl dt S rfl rfl rfl (by simp) AV BD dt ?_;intro C3 Bm S;refine ae ?_;have hC:=(hCd _).2 ⟨_,S⟩;refine ⟨fun _=>hC,?_⟩;refine aO 13 rfl ?_;refine az [Bm] (aY rfl (oc (S.rdAt (R:=R6_) 0 rfl))) (by rfl) dt rfl dt S dt ?_;intro C4 C5 S Cv;refine ae ?_;have hC:=(hCd _).2 ⟨_,S⟩;refine ⟨fun _=>hC,?_⟩;refine aO 14 rfl ?_;have AW:=S.boxRow 0 rfl;replace S:=S.t3;replace S:=S.t2;replace S:=S.one;refine aN rfl dt rfl dt S rfl rfl rfl (by simp) AW BE dt ?_;intro C6 AO S;refine ae ?_;have hC:=(hCd _).2 ⟨_,S⟩;refine ⟨fun _=>hC,?_⟩;refine aO 15 rfl ?_;refine pa AO (ae ?_);refine ⟨fun _=>hC,?_⟩;refine bj (by kernel_rfl) ?_;replace S:=S.r2.r1;exact ⟨rfl,AO,Bg,A3,A4,rfl,AX,S⟩
      refine az [i_ AK.1,i_ AK.2] rfl (by rfl) dt rfl dt S dt ?_;intro C1 C2 S Cu;refine ae ?_;have hC:=(hCd _).2 ⟨_,S⟩;refine ⟨fun _=>hC,?_⟩;refine aO 6 rfl ?_;obtain ⟨Cs,CY,Ct,A5,A6,AU,A7⟩:=nX (S.up Bh);replace S:=S.t1;replace S:=S.freeL (R:=R2_) A7;refine aN rfl dt rfl dt S rfl (rfl.trans A5) rfl A6 AU BC dt ?_;intro CZ C0 S;refine ae ?_;have hC:=(hCd _).2 ⟨_,S⟩;refine ⟨fun _=>hC,?_⟩;refine aO 12 rfl ?_;have AV:=S.boxRow 1 rfl;replace S:=S.int AK.2;replace S:=S.int AK.1;replace S:=S.pair;replace S:=S.one;refine aN rfl dt rfl dt S rfl rfl rfl (by simp) AV BD dt ?_;intro C3 Bm S;refine ae ?_;have hC:=(hCd _).2 ⟨_,S⟩;refine ⟨fun _=>hC,?_⟩;refine aO 13 rfl ?_;refine az [Bm] (aY rfl (oc (S.rdAt (R:=R6_) 0 rfl))) (by rfl) dt rfl dt S dt ?_;intro C4 C5 S Cv;refine ae ?_;have hC:=(hCd _).2 ⟨_,S⟩;refine ⟨fun _=>hC,?_⟩;refine aO 14 rfl ?_;have AW:=S.boxRow 0 rfl;replace S:=S.t3;replace S:=S.t2;replace S:=S.one;refine aN rfl dt rfl dt S rfl rfl rfl (by simp) AW BE dt ?_;intro C6 AO S;refine ae ?_;have hC:=(hCd _).2 ⟨_,S⟩;refine ⟨fun _=>hC,?_⟩;refine aO 15 rfl ?_;refine pa AO (ae ?_);refine ⟨fun _=>hC,?_⟩;refine bj (by kernel_rfl) ?_;replace S:=S.r2.r1;exact ⟨rfl,AO,Bg,A3,A4,rfl,AX,S⟩
     refine az [i_ AK.1,i_ AK.2] rfl (by rfl) dt rfl dt S dt ?_;intro C1 C2 S Cu;refine ae ?_;have hC:=(hCd _).2 ⟨_,S⟩;refine ⟨fun _=>hC,?_⟩;refine aO 1 rfl ?_;refine aV R2_ S dt ?_;intro EI EJ S DC;refine ae ?_;have hC:=(hCd _).2 ⟨_,S⟩;refine ⟨fun _=>hC,?_⟩;refine aO 6 rfl ?_;obtain ⟨Cs,CY,Ct,A5,A6,AU,A7⟩:=nX (S.up Bh);replace S:=S.freeL (R:=R2_) A7;refine aN rfl dt rfl dt S rfl (rfl.trans A5) rfl A6 AU BC dt ?_;intro CZ C0 S;refine ae ?_;have hC:=(hCd _).2 ⟨_,S⟩;refine ⟨fun _=>hC,?_⟩;refine aO 12 rfl ?_;have AV:=S.boxRow 1 rfl;replace S:=S.int AK.2;replace S:=S.int AK.1;replace S:=S.pair;replace S:=S.one;refine aN rfl dt rfl dt S rfl rfl rfl (by simp) AV BD dt ?_;intro C3 Bm S;refine ae ?_;have hC:=(hCd _).2 ⟨_,S⟩;refine ⟨fun _=>hC,?_⟩;refine aO 13 rfl ?_;refine az [Bm] (aY rfl (oc (S.rdAt (R:=R6_) 0 rfl))) (by rfl) dt rfl dt S dt ?_;intro C4 C5 S Cv;refine ae ?_;have hC:=(hCd _).2 ⟨_,S⟩;refine ⟨fun _=>hC,?_⟩;refine aO 14 rfl ?_;have AW:=S.boxRow 0 rfl;replace S:=S.t3;replace S:=S.t2;replace S:=S.one;refine aN rfl dt rfl dt S rfl rfl rfl (by simp) AW BE dt ?_;intro C6 AO S;refine ae ?_;have hC:=(hCd _).2 ⟨_,S⟩;refine ⟨fun _=>hC,?_⟩;refine aO 15 rfl ?_;refine pa AO (ae ?_);refine ⟨fun _=>hC,?_⟩;refine bj (by kernel_rfl) ?_;replace S:=S.r2.r1;exact ⟨rfl,AO,Bg,A3,A4,rfl,AX,S⟩
    rintro Gv Gw ⟨AO,DD,DE,DF,DG,DH,S⟩;refine bn CU (tn CT (ac (pM (i_ AR) DH (oB F fun Cd DI F=>pe (i_ Cd) (aD rfl rfl DI) (pa (i_ Cd) (en Cc ?_))))));replace S:=S.keep 1;exact ⟨AO,CX,Cd,DD,DE,DF,DG,rfl,S,F⟩
   refine ct (ak BB) (sg fun _ EK=>?_);replace S:=S.r0;refine ac ?_;refine aV R2_ S dt ?_;intro Gx BF S FQ;refine pa BF (pa (.bool false) (en EK (ag (tr CV (br CU (tr CT (tr Cc (br CR (tr CQ ?_)))))))));replace F:=exL F Cq;refine cG rfl rfl rfl ?_;have hr:=oI F;exact ⟨BF,cR hr fun r=>.tuple #[BF,.bool r.2],sP hr (fun r=>[Own R6_ [BF] r.1]) (S.keep 1)⟩
  refine cf Bz (aF (tx CS (tx Cc ?_)));replace F:=exA F Cq;refine bS CR (tn CQ (sg fun _ Bn=>sR fun _ EM=>pa (i_ 0) (en EM (bg fun _ Bo=>?_))));obtain ⟨EN,hL,A8⟩:=ob F;refine aE (fun k e w=>∃ (U:Value),∃ (AY:List T3_),∃ (AH:Int),e 6=i_ (a1.length:Int)∧e 7=U∧e 9=i_ AH∧Sat w0 w [Own aT [U] AY]∧bv N k (a1.length:Int) AY AH=some EN) N ?_ ?_ ?_
  ·exact ⟨Bl,By,0,A4,Cr,rfl,S,hL⟩
  ·rintro e w ⟨_,_,_,_,_,_,_,hz⟩; exact nn hz
  rintro k Gy Gz ⟨U,AY,AH,BG,Cw,BH,S,F⟩;refine gn fun _ A2=>sg fun _ C7=>sR fun _ EO=>pM (i_ AH) BH (pM (i_ (a1.length:Int)) BG (pe (.bool (decide (AH < (a1.length:Int)))) (aH rfl rfl) (en EO (oF F (fun BI F=>?_) fun BI F=>?_))))
  ·refine ct BI (sn C7 (sg fun _ Bd=>bg fun _ Be=>sR fun _ EP=>pM (i_ AH) BH (pa (i_ AH) (en EP (sg fun _ C8=>bg fun _ C9=>?_)))));obtain ⟨EQ,hL,Cx⟩:=ob F;refine aE (fun k e w=>∃ (AM:Int),e 6=i_ (a1.length:Int)∧e 7=U∧e 9=i_ AH∧e 10=i_ AM∧Sat w0 w [Own aT [U] AY]∧bD N k (a1.length:Int) AY AH AM=some EQ) N ?_ ?_ ?_
   ·exact ⟨AH,BG,Cw,BH,rfl,S,hL⟩
   ·rintro e w ⟨_,_,_,_,_,_,hz⟩; exact nn hz
   rintro k GA ER ⟨AM,A0,AI,AP,AQ,S,F⟩;refine gn fun _ Ce=>sg fun _ Cf=>sR fun _ Da=>pM (i_ AM) AQ (pM (i_ (a1.length:Int)) A0 (pe (.bool (decide (AM < (a1.length:Int)))) (aH rfl rfl) (pm (.bool (decide (AM < (a1.length:Int)))) (oF F (fun AG F=>?_) fun AG F=>?_))))
   ·refine ei AG (pM U AI (ei AG (pM (i_ AM) AQ (ei AG (oB F fun GB DJ F=>?_)))));refine fB S rfl rfl dt rfl DJ dt ?_;intro GC FR GD FS Bi BJ;obtain ⟨ES,rfl⟩:=aQ Bi;refine ei AG (pe ES (ab rfl (BJ 0 _ rfl)) (ei AG (pM (i_ AH) AP (ei AG (oB F fun Cg DK F=>?_)))));refine aS (wA:=ER) rfl Bi rfl dt rfl DK dt ?_;intro ET DL GE DM BK;obtain ⟨_,_,rfl,DN,DO⟩:=DM;obtain rfl:=DN;obtain rfl:=DO;refine ei AG (pe (pt ET (DL + 0)) (aa rfl) (ei AG (pe (i_ Cg.1) (ab rfl (BK 0 _ rfl)) (ei AG (pe (.bool (Cg.1 == 0)) (cz rfl rfl) (pe (.bool (Cg.1 == 0)) (aw rfl AG rfl) (en Da (oF F (fun BL F=>?_) fun BL F=>?_))))))))
    ·refine ct BL (sn Cf (bg fun _ EU=>ac (pM (i_ AM) AQ (oB F fun Ch DP F=>pe (i_ Ch) (aD rfl rfl DP) (pa (i_ Ch) (ae (bn EU (tn Ce ?_))))))));replace S:=S.keep 1;exact ⟨Ch,A0,AI,AP,rfl,S,F⟩
    refine cf BL (aF (tx Cf (tx Ce ?_)));replace F:=exB F Cx;refine bS C9 (tn C8 (sg fun _ Db=>sR fun _ EV=>pM (i_ AM) AQ (pM (i_ (a1.length:Int)) A0 (pe (.bool (AM == (a1.length:Int))) (cz rfl rfl) (en EV (oF F (fun BM F=>?_) fun BM F=>?_))))))
    ·refine ct BM (sg fun _ EW=>?_);replace S:=S.r0;refine ac ?_;refine aV R2_ S dt ?_;intro GF BN S BO;have BJ:=au BO BJ;have Bi:=fH Bi BO;have BK:=au BO BK;refine pa BN (pa (.bool false) (en EW (ag (tr Db (br Be (tr Bd (tr A2 (br Bo (tr Bn ?_)))))))));replace F:=exL F A8;refine cG rfl rfl rfl ?_;have hr:=oI F;exact ⟨BN,cR hr fun r=>.tuple #[BN,.bool r.2],sP hr (fun r=>[Own R6_ [BN] r.1]) (S.keep 1)⟩
    refine cf BM (sn Db (sR fun _ EX=>pM U AI (pM (i_ AM) AQ (oB F fun EY Cy F=>?_))));refine fB S rfl rfl dt rfl Cy dt ?_;intro GG FT GH DQ Cz CA;obtain ⟨Bp,rfl⟩:=aQ Cz;refine pe Bp (ab rfl (CA 0 _ rfl)) (pa Bp (en EX (sR fun _ EZ=>pM U AI (pM (i_ AM) AQ (pM U AI (pM (i_ AH) AP (oB F fun GI BP F=>?_)))))));refine fB S rfl rfl dt rfl BP dt ?_;intro E0 FU GJ BQ CB CC;obtain ⟨Dc,rfl⟩:=aQ CB;refine pe Dc (ab rfl (CC 0 _ rfl)) (oB F fun GK DR F=>?_);refine fB S rfl rfl dt rfl DR dt ?_;intro GL FV GM DS DT FW;obtain ⟨GN,rfl⟩:=aQ DT;refine oB F fun E2 DU F=>?_;have B7:Value.oneCell' Bp=true:=(oc Cz);have B8:Value.oneCell' Dc=true:=(oc CB);refine mP S DS DQ BQ rfl Cy BP CA CC DU rfl (aY rfl B8) B8 ?_;intro E3 S;replace S:Sat w0 E3 [oy R6_ 27 U (E2.set (AH:Int).toNat EY) (AH:Int).toNat Bp]:=S;refine en EZ (sR fun _ E4=>pM U AI (pM (i_ AH) AP (pm Bp (pe (pt E0 ((AH:Int).toNat * 1)) (jd (v:=U) rfl BQ rfl BP) (oB F fun E5 DV F=>?_)))));refine mK S BQ DV rfl (aY rfl B7) B7 ?_;intro E6 S;replace S:Sat w0 E6 [Own aT [U] E5]:=S;refine en E4 (sR fun _ E7=>pM U AI (pM (i_ AH) AP (oB F fun Ci DW F=>?_)));refine bC sK (lG S DW) (ca (ai rfl (ai rfl rfl))) dt ?_;rintro _ E8 ⟨rfl,S⟩;refine ⟨_,rfl,?_⟩;replace S:Sat w0 E8 [Own aT [U] Ci.2]:=S;refine pe (.bool (!Ci.1)) (aK rfl) (en E7 (oF F (fun BR F=>?_) fun BR F=>?_))
    ·refine cf (aj BR) (bf (bn Be (tn Bd (ac (pM (i_ AH) AP (oB F fun Cj DX F=>pe (i_ Cj) (aD rfl rfl DX) (pa (i_ Cj) (en A2 ?_))))))));replace S:=S.keep 1;exact ⟨U,Ci.2,Cj,A0,AI,rfl,S,F⟩
    refine ct (ak BR) (sg fun _ E9=>?_);replace S:=S.r0;refine ac ?_;refine aV R2_ S dt ?_;intro GO BS S FX;refine pa BS (pa (.bool false) (en E9 (ag (br Be (tr Bd (tr A2 (br Bo (tr Bn ?_))))))));replace F:=exL F A8;refine cG rfl rfl rfl ?_;have hr:=oI F;exact ⟨BS,cR hr fun r=>.tuple #[BS,.bool r.2],sP hr (fun r=>[Own R6_ [BS] r.1]) (S.keep 1)⟩
   refine eo AG (eo AG (eo AG (eo AG (eo AG (eo AG (eo AG (eo AG (eo AG (pe (.bool false) (ay rfl AG rfl) (en Da (cf rfl (aF (tx Cf (tx Ce ?_))))))))))))));replace F:=exB F Cx;refine bS C9 (tn C8 (sg fun _ Dd=>sR fun _ Fa=>pM (i_ AM) AQ (pM (i_ (a1.length:Int)) A0 (pe (.bool (AM == (a1.length:Int))) (cz rfl rfl) (en Fa (oF F (fun BT F=>?_) fun BT F=>?_))))))
   ·refine ct BT (sg fun _ Fb=>?_);replace S:=S.r0;refine ac ?_;refine aV R2_ S dt ?_;intro GP BU S FY;refine pa BU (pa (.bool false) (en Fb (ag (tr Dd (br Be (tr Bd (tr A2 (br Bo (tr Bn ?_)))))))));replace F:=exL F A8;refine cG rfl rfl rfl ?_;have hr:=oI F;exact ⟨BU,cR hr fun r=>.tuple #[BU,.bool r.2],sP hr (fun r=>[Own R6_ [BU] r.1]) (S.keep 1)⟩
   refine cf BT (sn Dd (sR fun _ Fc=>pM U AI (pM (i_ AM) AQ (oB F fun Fd CD F=>?_))));refine fB S rfl rfl dt rfl CD dt ?_;intro GQ FZ GR DY CE CF;obtain ⟨Bq,rfl⟩:=aQ CE;refine pe Bq (ab rfl (CF 0 _ rfl)) (pa Bq (en Fc (sR fun _ Fe=>pM U AI (pM (i_ AM) AQ (pM U AI (pM (i_ AH) AP (oB F fun GS BV F=>?_)))))));refine fB S rfl rfl dt rfl BV dt ?_;intro Ff F0 GT BW CG CH;obtain ⟨De,rfl⟩:=aQ CG;refine pe De (ab rfl (CH 0 _ rfl)) (oB F fun GU DZ F=>?_);refine fB S rfl rfl dt rfl DZ dt ?_;intro GV F3 GW D1 D2 F4;obtain ⟨GX,rfl⟩:=aQ D2;refine oB F fun Fg D4 F=>?_;have B9:Value.oneCell' Bq=true:=(oc CE);have Ca:Value.oneCell' De=true:=(oc CG);refine mP S D1 DY BW rfl CD BV CF CH D4 rfl (aY rfl Ca) Ca ?_;intro Fh S;replace S:Sat w0 Fh [oy R6_ 27 U (Fg.set (AH:Int).toNat Fd) (AH:Int).toNat Bq]:=S;refine en Fe (sR fun _ Fi=>pM U AI (pM (i_ AH) AP (pm Bq (pe (pt Ff ((AH:Int).toNat * 1)) (jd (v:=U) rfl BW rfl BV) (oB F fun Fj D5 F=>?_)))));refine mK S BW D5 rfl (aY rfl B9) B9 ?_;intro Fk S;replace S:Sat w0 Fk [Own aT [U] Fj]:=S;refine en Fi (sR fun _ Fl=>pM U AI (pM (i_ AH) AP (oB F fun Ck D6 F=>?_)));refine bC sK (lG S D6) (ca (ai rfl (ai rfl rfl))) dt ?_;rintro _ Fm ⟨rfl,S⟩;refine ⟨_,rfl,?_⟩;replace S:Sat w0 Fm [Own aT [U] Ck.2]:=S;refine pe (.bool (!Ck.1)) (aK rfl) (en Fl (oF F (fun BX F=>?_) fun BX F=>?_))
   ·refine cf (aj BX) (bf (bn Be (tn Bd (ac (pM (i_ AH) AP (oB F fun Cl D7 F=>pe (i_ Cl) (aD rfl rfl D7) (pa (i_ Cl) (en A2 ?_))))))));replace S:=S.keep 1;exact ⟨U,Ck.2,Cl,A0,AI,rfl,S,F⟩
   refine ct (ak BX) (sg fun _ Fo=>?_);replace S:=S.r0;refine ac ?_;refine aV R2_ S dt ?_;intro GY BY S F5;refine pa BY (pa (.bool false) (en Fo (ag (br Be (tr Bd (tr A2 (br Bo (tr Bn ?_))))))));replace F:=exL F A8;refine cG rfl rfl rfl ?_;have hr:=oI F;exact ⟨BY,cR hr fun r=>.tuple #[BY,.bool r.2],sP hr (fun r=>[Own R6_ [BY] r.1]) (S.keep 1)⟩
  refine cf BI (aF (tx C7 (tx A2 ?_)));replace F:=exA F A8;refine bS Bo (tn Bn (sR fun _ Fq=>?_));refine aV R2_ S dt ?_;intro GZ Df S F6;refine pa Df (en Fq (sg fun _ Dg=>sR fun _ Fr=>pa (i_ 0) (en Fr (bg fun _ Dh=>?_))));obtain ⟨Fs,hL,CI⟩:=ob F;refine aE (fun k e w=>∃ (AN:Value),∃ (AZ:List T1_),∃ (AS:Int),e 6=i_ (a1.length:Int)∧e 7=U∧e 12=AN∧e 13=i_ AS∧Sat w0 w [Own R6_ [AN] AZ,Own aT [U] AY]∧bt N k (a1.length:Int) AY AZ AS=some Fs) N ?_ ?_ ?_
  ·exact ⟨Df,[],0,BG,Cw,rfl,rfl,S,hL⟩
  ·rintro e w ⟨_,_,_,_,_,_,_,_,hz⟩; exact nn hz
  rintro k G1 Bf ⟨AN,AZ,AS,Bj,Bk,BZ,A1,S,F⟩;refine gn fun _ Cm=>sg fun _ Di=>sR fun _ Ft=>pM (i_ AS) A1 (pM (i_ (a1.length:Int)) Bj (pe (.bool (decide (AS < (a1.length:Int)))) (aH rfl rfl) (en Ft (oF F (fun B0 F=>?_) fun B0 F=>?_))))
  ·refine ct B0 (sn Di (sg fun _ Dj=>bg fun _ Dk=>sg fun _ Fu=>?_));replace S:=S.t1;obtain ⟨Br,B1,S⟩:=S.frz;replace S:Sat w0 Bf [Frz Bf Br,Own R6_ [AN] AZ]:=S;refine oB F fun G2 D8 F=>oB F fun B2 D9 F=>oB F fun G3 Ea F=>oB F fun B3 Eb F=>oB F fun J CJ F=>?_;refine fP (fun e w=>∃ (AT:Nat),e 6=i_ (a1.length:Int)∧e 7=U∧e 12=AN∧e 13=i_ AS∧e 14=pt AT 0∧e 15=.bool J.2∧Sat w0 w [Frz Bf Br,Own R6_ [AN] AZ,Box AT 68 [i_ J.1.1,i_ J.1.2]]) ?_ ?_
   ·obtain ⟨C,hCd⟩:∃ C:World → Prop,∀ w,C w ↔ ∃ G,Sat w0 w ([Frz Bf Br] ++ G):=⟨_,fun _=>Iff.rfl⟩;refine bU [0,1,2,3,4,5,6,7,8,9,10,11,12,13,14,15,16,17,18,19,20] C (by kernel_rfl) ?_;intro G4 Ec;replace S:=S.ext Ec;have hC:=(hCd _).2 ⟨_,S⟩;refine aP U 0 rfl rfl hC (ap rfl (fun w' hw'=>by obtain ⟨_,S⟩:=(hCd _).1 hw'; exact (ar Bk))) ?_;refine aP (i_ AS) 1 rfl rfl hC (ap rfl (fun w' hw'=>by obtain ⟨_,S⟩:=(hCd _).1 hw'; exact (ar A1))) ?_;refine dq (by kernel_rfl) 2 rfl hC (by kernel_rfl) (by kernel_rfl) rfl B1 rfl rfl D8 dt ?_;intro G5 F7 G6 G7 CK A9 Bs Ed;replace A9:=fun q hq=>(fun _ h=>h) q (A9 q hq);replace Bs:=(fun _ h=>h) _ Bs;obtain ⟨Fv,rfl⟩:=aQ (Rep.own_rd _ CK);refine aP Fv 3 rfl rfl hC (ap rfl (fun w' hw'=>by obtain ⟨_,S⟩:=(hCd _).1 hw'; exact (ab rfl ((S.frzCells 0 rfl Bs Ed) 0 _ rfl)))) ?_;refine aP (i_ (a1.length:Int)) 4 rfl rfl hC (ap rfl (fun w' hw'=>by obtain ⟨_,S⟩:=(hCd _).1 hw'; exact (ar Bj))) ?_;refine dq (by kernel_rfl) 5 rfl hC (by kernel_rfl) (by kernel_rfl) rfl CK rfl rfl D9 dt ?_;intro G8 F8 G9 Ha Ee Ba Bt Ef;replace Ba:=fun q hq=>A9 q (Ba q hq);replace Bt:=A9 _ Bt;obtain ⟨_,_,_,_,rfl,rfl,Eg,Eh⟩:=Ee;have FF:=fun q hq=>Ba q (List.mem_append_left _ hq);have FG:=fun q hq=>Ba q (List.mem_append_right _ hq);obtain ⟨rfl,_⟩:=Eg;obtain ⟨rfl,_⟩:=Eh;refine aP (.agg #[i_ B2.1,i_ B2.2]) 6 rfl rfl hC (ap rfl (fun w' hw'=>by obtain ⟨_,S⟩:=(hCd _).1 hw'; exact (am (cs:=[i_ B2.1,i_ B2.2]) rfl rfl (S.frzCells 0 rfl Bt Ef)))) ?_;refine aP U 7 rfl rfl hC (ap rfl (fun w' hw'=>by obtain ⟨_,S⟩:=(hCd _).1 hw'; exact (ar Bk))) ?_;refine aP (i_ AS) 8 rfl rfl hC (ap rfl (fun w' hw'=>by obtain ⟨_,S⟩:=(hCd _).1 hw'; exact (ar A1))) ?_;refine dq (by kernel_rfl) 9 rfl hC (by kernel_rfl) (by kernel_rfl) rfl B1 rfl rfl Ea dt ?_;intro Hb F9 Hc Hd CL Bb Bu Ei;replace Bb:=fun q hq=>(fun _ h=>h) q (Bb q hq);replace Bu:=(fun _ h=>h) _ Bu;obtain ⟨Fw,rfl⟩:=aQ (Rep.own_rd _ CL);refine aP Fw 10 rfl rfl hC (ap rfl (fun w' hw'=>by obtain ⟨_,S⟩:=(hCd _).1 hw'; exact (ab rfl ((S.frzCells 0 rfl Bu Ei) 0 _ rfl)))) ?_;refine aP (i_ AS) 11 rfl rfl hC (ap rfl (fun w' hw'=>by obtain ⟨_,S⟩:=(hCd _).1 hw'; exact (ar A1))) ?_;refine dq (by kernel_rfl) 12 rfl hC (by kernel_rfl) (by kernel_rfl) rfl CL rfl rfl Eb dt ?_;intro He Ga Hf Hg Ej Bc Bv Ek;replace Bc:=fun q hq=>Bb q (Bc q hq);replace Bv:=Bb _ Bv;obtain ⟨_,_,_,_,rfl,rfl,El,Em⟩:=Ej;have FH:=fun q hq=>Bc q (List.mem_append_left _ hq);have FI:=fun q hq=>Bc q (List.mem_append_right _ hq);obtain ⟨rfl,_⟩:=El;obtain ⟨rfl,_⟩:=Em;refine aP (.agg #[i_ B3.1,i_ B3.2]) 13 rfl rfl hC (ap rfl (fun w' hw'=>by obtain ⟨_,S⟩:=(hCd _).1 hw'; exact (am (cs:=[i_ B3.1,i_ B3.2]) rfl rfl (S.frzCells 0 rfl Bv Ek)))) ?_;refine eV 14 18 (by kernel_rfl) rfl rfl ?_ ?_
    ·refine ec0 nY (hX CJ) (ca (ai rfl (ai rfl rfl))) S fun Fx En S=>?_;refine ae ?_;have hC:=(hCd _).2 ⟨_,S⟩;refine ⟨fun _=>hC,?_⟩;refine aP (.tuple #[.agg #[i_ J.1.1,i_ J.1.2],.bool J.2]) 15 rfl rfl hC (ap rfl (fun w' hw'=>by obtain ⟨_,S⟩:=(hCd _).1 hw'; exact (ar rfl))) ?_;refine aP (.agg #[i_ J.1.1,i_ J.1.2]) 16 rfl rfl hC (ap rfl (fun w' hw'=>by obtain ⟨_,S⟩:=(hCd _).1 hw'; exact (an rfl rfl))) ?_;refine aP (.bool J.2) 17 rfl rfl hC (ap rfl (fun w' hw'=>by obtain ⟨_,S⟩:=(hCd _).1 hw'; exact (an rfl rfl))) ?_;refine aO 18 rfl ?_;refine aC S dt ?_;intro Fy AT S Eo;refine ae ?_;replace S:=S.t1;have hC:=(hCd _).2 ⟨_,S⟩;refine ⟨fun _=>hC,?_⟩;refine aO 19 rfl ?_;refine ah (S.top 1 rfl) rfl [i_ J.1.1,i_ J.1.2] rfl rfl dt (all_cons rfl (all_cons rfl rfl)) ?_;intro Co S;replace S:Sat w0 Co [Box AT 68 [i_ J.1.1,i_ J.1.2],Frz Bf Br,Own R6_ [AN] AZ]:=S;refine ae ?_;replace S:=S.t1;have hC:=(hCd _).2 ⟨_,S⟩;refine ⟨fun _=>hC,?_⟩;refine aO 20 rfl ?_;refine pa (.bool J.2) (ae ?_);refine ⟨fun _=>hC,?_⟩;refine bj (by kernel_rfl) ?_;replace S:=S.t1.t2.t2;exact ⟨rfl,AT,Bj,Bk,BZ,A1,rfl,rfl,S⟩
    refine aC S dt ?_;intro Fy AT S Eo;refine ae ?_;replace S:=S.t1;have hC:=(hCd _).2 ⟨_,S⟩;refine ⟨fun _=>hC,?_⟩;refine aO 14 rfl ?_;refine ec0 nY (hX CJ) (ca (ai rfl (ai rfl rfl))) S fun Fx En S=>?_;refine ae ?_;have hC:=(hCd _).2 ⟨_,S⟩;refine ⟨fun _=>hC,?_⟩;refine aO 15 rfl ?_;refine pm (.tuple #[.agg #[i_ J.1.1,i_ J.1.2],.bool J.2]) (ae ?_);refine ⟨fun _=>hC,?_⟩;refine aP (.agg #[i_ J.1.1,i_ J.1.2]) 16 rfl rfl hC (ap rfl (fun w' hw'=>by obtain ⟨_,S⟩:=(hCd _).1 hw'; exact (an rfl rfl))) ?_;refine aP (.bool J.2) 17 rfl rfl hC (ap rfl (fun w' hw'=>by obtain ⟨_,S⟩:=(hCd _).1 hw'; exact (an rfl rfl))) ?_;refine aO 19 rfl ?_;refine ah (S.top 1 rfl) rfl [i_ J.1.1,i_ J.1.2] rfl rfl dt (all_cons rfl (all_cons rfl rfl)) ?_;intro Co S;replace S:Sat w0 Co [Box AT 68 [i_ J.1.1,i_ J.1.2],Frz Bf Br,Own R6_ [AN] AZ]:=S;refine ae ?_;replace S:=S.t1;have hC:=(hCd _).2 ⟨_,S⟩;refine ⟨fun _=>hC,?_⟩;refine aO 20 rfl ?_;refine pa (.bool J.2) (ae ?_);refine ⟨fun _=>hC,?_⟩;refine bj (by kernel_rfl) ?_;replace S:=S.t1.t2.t2;exact ⟨rfl,AT,Bj,Bk,BZ,A1,rfl,rfl,S⟩
   rintro Hh Fz ⟨AT,Ep,Er,Es,Et,Eu,Ev,S⟩;replace S:=S.unfrz B1;replace S:Sat w0 Fz [Own aT [U] AY,Own R6_ [AN] AZ,Box AT 68 [i_ J.1.1,i_ J.1.2]]:=S;refine tn Fu (sg fun _ Dl=>sR fun _ FA=>pM (.bool J.2) Ev (pe (.bool (!J.2)) (aK rfl) (en FA (oF F (fun B4 F=>?_) fun B4 F=>?_))))
   ·refine cf (aj B4) (sn Dl (ac (pM AN Es (pe (.agg #[i_ J.1.1,i_ J.1.2]) (am (cs:=[i_ J.1.1,i_ J.1.2]) Eu rfl (aq (S.boxAt 2 rfl))) ?_))));refine az [i_ J.1.1,i_ J.1.2] rfl (by rfl) dt rfl dt S dt ?_;intro Hi Hj S Gb;refine oB F fun FB Ew F=>?_;have CM:=S.boxRow 0 rfl;replace S:=S.t2;replace S:=S.int J.1.2;replace S:=S.int J.1.1;replace S:=S.pair;replace S:=S.one;refine aN rfl dt rfl dt S rfl rfl rfl (by simp) CM Ew dt ?_;intro Hk Dm S;refine pa Dm (ae (bn Dk (tn Dj ?_)));replace S:=S.r3.r1;refine ac (pM (i_ AS) Et (oB F fun Cp Ex F=>pe (i_ Cp) (aD rfl rfl Ex) (pa (i_ Cp) (en Cm ?_))));replace S:=S.keep 2;exact ⟨Dm,FB,Cp,Ep,Er,rfl,rfl,S,F⟩
   refine ct (ak B4) (sg fun _ FC=>?_);replace S:=S.r2.r1.r0;refine ac ?_;refine aV R2_ S dt ?_;intro Hl B5 S Gc;refine pa B5 (pa (.bool false) (en FC (ag (tr Dl (br Dk (tr Dj (tr Cm (br Dh (tr Dg ?_)))))))));replace F:=exL F CI;refine cG rfl rfl rfl ?_;have hr:=oI F;exact ⟨B5,cR hr fun r=>.tuple #[B5,.bool r.2],sP hr (fun r=>[Own R6_ [B5] r.1]) (S.keep 1)⟩
  refine cf B0 (aF (tx Di (tx Cm ?_)));replace F:=exA F CI;refine bS Dh (tn Dg (sg fun _ FD=>?_));replace S:=S.r1;refine ac (pM AN BZ (pa AN (pa (.bool true) (en FD (ag (cG rfl rfl rfl ?_))))));have hr:=oI F;exact ⟨AN,cR hr fun r=>.tuple #[AN,.bool r.2],sP hr (fun r=>[Own R6_ [AN] r.1]) (S.keep 1)⟩
 refine ct (ak Bx) (sR fun _ FE=>?_);refine aV R2_ S dt ?_;intro Hm B6 S Gd;refine pa B6 (pa (.bool false) (en FE (ag (tr Cb (cG rfl rfl rfl ?_)))));have hr:=oI F;exact ⟨B6,cR hr fun r=>.tuple #[B6,.bool r.2],sP hr (fun r=>[Own R6_ [B6] r.1]) (S.keep 1)⟩
theorem i7 {w0:World} {a0:Int} {a1:Int} {a2:Int} {a3:Int}  {N:Nat} {r:Int} (F:bO N a0 a1 a2 a3=some r): Calls Tryz.prog 60 #[.agg #[i_ a0,i_ a1],.agg #[i_ a2,i_ a3]] w0 fun e w'=>e=.returned (i_ r)∧Ext w0 w' := by
 unfold bO at F;refine aI Tryz.func60 rfl rfl dt ?_;have S:=Sat.start w0;refine sR fun _ AX=>?_;refine bw [i_ a0,i_ a1] rfl S dt ?_;intro Bb AM S A7;refine bw [i_ a2,i_ a3] rfl S dt ?_;intro Bc AN S A8;refine pa (i_ 0) (en AX (sg fun _ AK=>sR fun _ AO=>pe (.agg #[i_ a0,i_ a1]) (am (cs:=[i_ a0,i_ a1]) rfl rfl (aq (S.boxAt 1 rfl))) (oB F fun AP AT F=>?_)));refine ec0 fU (bi AT) (ca (ai rfl rfl)) S fun Bd A9 S=>?_;refine pe (.bool (!AP)) (aK rfl) (pm (.bool (!AP)) (oF F (fun J F=>?_) fun J F=>?_))
 ·refine ei (aj J) (pe (.agg #[i_ a2,i_ a3]) (am (cs:=[i_ a2,i_ a3]) rfl rfl (aq (S.boxAt 0 rfl))) (ei (aj J) (oB F fun AQ AU F=>?_)));refine ec0 fU (bi AU) (ca (ai rfl rfl)) S fun Be Ba S=>?_;refine ei (aj J) (pe (.bool (!AQ)) (aK rfl) (pe (.bool (!AQ)) (ay rfl (aj J) rfl) (en AO (oF F (fun AH F=>?_) fun AH F=>?_))))
  ·refine cf (aj AH) (sn AK (sR fun _ AY=>pe (pt AM (0 + 0)) (aa rfl) (pe (i_ a0) (ab rfl ((S.boxAt 1 rfl) 0 _ rfl)) (pe (pt AN (0 + 1)) (aa rfl) (pe (i_ a3) (ab rfl ((S.boxAt 0 rfl) 1 _ rfl)) (oB F fun U AV F=>pe (i_ U) (cY rfl rfl AV) (pa (i_ U) (en AY (sR fun _ AZ=>pe (pt AN (0 + 0)) (aa rfl) (pe (i_ a2) (ab rfl ((S.boxAt 0 rfl) 0 _ rfl)) (pe (pt AM (0 + 1)) (aa rfl) (pe (i_ a1) (ab rfl ((S.boxAt 1 rfl) 1 _ rfl)) (oB F fun AG AW F=>pe (i_ AG) (cY rfl rfl AW) (pa (i_ AG) (en AZ (sg fun _ AR=>sg fun _ A0=>?_))))))))))))))));replace S:=S.r1.r0;refine ac (pm (i_ U) (pm (i_ AG) (pe (.bool (decide (U < AG))) (aH rfl rfl) (en A0 (oF F (fun AI F=>?_) fun AI F=>?_)))))
   ·refine ct AI (sR fun _ A1=>pa (i_ (-1)) (en A1 (ag (tr AR (aJ rfl rfl ?_)))));exact rI F S
   refine cf AI (sn AR (sg fun _ AS=>sR fun _ A2=>pm (i_ U) (pm (i_ AG) (pe (.bool (decide (AG < U))) (dF rfl rfl) (en A2 (oF F (fun AJ F=>?_) fun AJ F=>?_))))))
   ·refine ct AJ (sR fun _ A3=>pa (i_ 1) (en A3 (ag (tr AS (aJ rfl rfl ?_)))));exact rI F S
   refine cf AJ (sn AS (sR fun _ A4=>pa (i_ 0) (en A4 (ag (aJ rfl rfl ?_)))));exact rI F S
  refine ct (ak AH) (sg fun _ A5=>?_);replace S:=S.r1.r0;refine ac (pa (i_ 0) (en A5 (ag (tr AK (aJ rfl rfl ?_)))));exact rI F S
 refine eo (ak J) (eo (ak J) (eo (ak J) (pe (.bool true) (aw rfl (ak J) rfl) (en AO (ct rfl (sg fun _ A6=>?_))))));replace S:=S.r1.r0;refine ac (pa (i_ 0) (en A6 (ag (tr AK (aJ rfl rfl ?_)))));exact rI F S
end
end Go.Proofs.YtijmbnbnojicjaaGreatDoor
