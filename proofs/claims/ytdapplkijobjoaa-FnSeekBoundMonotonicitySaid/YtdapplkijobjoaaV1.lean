/- Plain laws: powers, products of powers, comparison; the bound of seeks as a power: both sides come to the same. -/
import Derived.Test.YtdapplkijobjoaaV0
namespace Go.Proofs.Ytdapplkijobjoaa
open Go.RowKit
abbrev kt (n:Int):Prop:=-9223372036854775808≤n∧n≤9223372036854775807
def oZ (s:Sum (List Int × Bool) (List Int × Int)):Prop:=match s with | .inl q=>q.1.length≤1048576 | .inr v=>v.1.length≤1048576
section
variable {N:Nat}
theorem gT (hN:1073741824≤N) {n k:Int} (h1:n≤9223372036854775807):∃ r:List Int × Bool,df N n k=some r∧cr N n k=some r∧r.1.length≤1048576∧(n<0→r.2=false)∧(100<k→r.2=false):=by
 unfold df cr
 by_cases h0:n<0
 ·rw [decide_eq_true h0,cond_true,cond_true];exact ⟨_,rfl,rfl,Nat.zero_le _,fun _=>rfl,fun _=>rfl⟩
 rw [decide_eq_false h0,cond_false,cond_false,dJ,cJ]
 cases hk:inR k 0 100 with
 | false=>exact ⟨([],false),rfl,rfl,Nat.zero_le _,fun _=>rfl,fun _=>rfl⟩
 | true =>
  have hk':=cp.1 hk
  obtain ⟨m,rfl⟩:=Int.eq_ofNat_of_zero_le hk'.1
  obtain ⟨o,eo,ho⟩:=iK (N:=N) hN (n:=1) (by omega) (by omega)
  obtain ⟨c,ec,hc⟩:=iK (N:=N) hN (n:=n) (by omega) h1
  obtain ⟨s,e1,e2,hs⟩:=j7 (fun f (s:List Int) i=>bt N f n (m:Int) [] s i) (fun f (s:List Int) i=>aM N f n (m:Int) [] s i) m (fun _ s=>s.length≤1048576) oZ
   (fun f i s hi hI=>by
    obtain ⟨r,m1,m2,hr⟩:=g8 (N:=N) hN hI (b:=c) (by omega)
    cases hb:r.2 with
    | true =>
     refine .inl ⟨r.1,?_,?_,by omega⟩
     ·show bt N (f+1) n (m:Int) [] s (i:Int)=_
      rw [bt,dlt hi,cond_true,gY,ec,bs,m1,bs,hb,cond_true,ad1 (by omega),bs]
     ·show aM N (f+1) n (m:Int) [] s (i:Int)=_
      rw [aM,dlt hi,cond_true,ec,bs,m2,bs,hb,cond_true,ad1 (by omega),bs]
    | false =>
     refine .inr ⟨.inl ([],false),?_,?_,Nat.zero_le _⟩
     ·show bt N (f+1) n (m:Int) [] s (i:Int)=_
      rw [bt,dlt hi,cond_true,gY,ec,bs,m1,bs,hb,cond_false]
     ·show aM N (f+1) n (m:Int) [] s (i:Int)=_
      rw [aM,dlt hi,cond_true,ec,bs,m2,bs,hb,cond_false])
   (fun f s hI=>by
    refine ⟨.inr (s,(m:Int)),?_,?_,hI⟩
    ·show bt N (f+1) n (m:Int) [] s (m:Int)=_
     rw [bt,dge (by omega),cond_false]
    ·show aM N (f+1) n (m:Int) [] s (m:Int)=_
     rw [aM,dge (by omega),cond_false]) N 0 o (by omega) (by omega) (by omega)
  have e1':bt N N n (m:Int) [] o 0=_:=e1
  have e2':aM N N n (m:Int) [] o 0=_:=e2
  rw [bs,bs,cond_true,cond_true,gY,eo,bs,bs,e1',e2',bs]
  cases s with
  | inl q=>exact ⟨q,rfl,rfl,hs,fun h=>absurd h h0,fun h=>by omega⟩
  | inr v=>exact ⟨(v.1,true),rfl,rfl,hs,fun h=>absurd h h0,fun h=>by omega⟩
def oS (xs:List Int) (s:Sum (List Int × Bool) (List Int × Int)):Prop:=match s with | .inl q=>q.1.length≤1048576∧q.2=false | .inr v=>v.1.length≤1048576∧∀ x∈xs,0≤x
theorem jU (hN:1073741824≤N) {xs ks:List Int} (hx:xs.length≤1048576) (hr:∀ v∈xs,v≤9223372036854775807):∃ r:List Int × Bool,cQ N xs ks=some r∧cV N xs ks=some r∧r.1.length≤1048576∧(r.2=true→∀ x∈xs,0≤x):=by
 unfold cQ cV
 by_cases hl:xs.length=ks.length
 ·obtain ⟨o,eo,ho⟩:=iK (N:=N) hN (n:=1) (by omega) (by omega)
  obtain ⟨s,e1,e2,hs⟩:=j7 (fun f (s:List Int) i=>aL N f xs ks [] s i) (fun f (s:List Int) i=>aK N f xs ks [] s (xs.length:Int) i) xs.length (fun i s=>s.length≤1048576∧∀ x∈xs.take i,0≤x) (oS xs)
   (fun f i s hi hI=>by
    obtain ⟨hI1,hI2⟩:=hI
    have hi2:i<ks.length:=by omega
    obtain ⟨p,p1,p2,hp,hp2,_⟩:=gT (N:=N) hN (n:=xs[i]) (k:=ks[i]) (hr _ (List.getElem_mem hi))
    obtain ⟨r,m1,m2,hr⟩:=g8 (N:=N) hN hI1 (b:=p.1) hp
    cases hb:p.2 with
    | true =>
     cases hc:r.2 with
     | true =>
      refine .inl ⟨r.1,?_,?_,by omega,fun x hx=>?_⟩
      ·show aL N (f+1) xs ks [] s (i:Int)=_
       rw [aL,dlt hi,cond_true,aH hi,bs,aH hi2,bs,p1,bs,m1,bs,hb,cond_true,hc,cond_true,ad1 (by omega),bs]
      ·show aK N (f+1) xs ks [] s (xs.length:Int) (i:Int)=_
       rw [aK,dlt hi,cond_true,aH hi,bs,aH hi2,bs,p2,bs,m2,bs,hb,cond_true,hc,cond_true,ad1 (by omega),bs]
      ·rw [List.take_succ_eq_append_getElem hi] at hx
       rcases List.mem_append.1 hx with hx | hx
       ·exact hI2 x hx
       ·simp only [List.mem_singleton] at hx
        subst hx
        by_cases hneg:xs[i]<0
        ·rw [hp2 hneg] at hb;cases hb
        ·omega
     | false =>
      refine .inr ⟨.inl ([],false),?_,?_,Nat.zero_le _,rfl⟩
      ·show aL N (f+1) xs ks [] s (i:Int)=_
       rw [aL,dlt hi,cond_true,aH hi,bs,aH hi2,bs,p1,bs,m1,bs,hb,cond_true,hc,cond_false]
      ·show aK N (f+1) xs ks [] s (xs.length:Int) (i:Int)=_
       rw [aK,dlt hi,cond_true,aH hi,bs,aH hi2,bs,p2,bs,m2,bs,hb,cond_true,hc,cond_false]
    | false =>
     refine .inr ⟨.inl ([],false),?_,?_,Nat.zero_le _,rfl⟩
     ·show aL N (f+1) xs ks [] s (i:Int)=_
      rw [aL,dlt hi,cond_true,aH hi,bs,aH hi2,bs,p1,bs,m1,bs,hb,cond_false]
     ·show aK N (f+1) xs ks [] s (xs.length:Int) (i:Int)=_
      rw [aK,dlt hi,cond_true,aH hi,bs,aH hi2,bs,p2,bs,m2,bs,hb,cond_false])
   (fun f s hI=>by
    obtain ⟨hI1,hI2⟩:=hI
    rw [List.take_length] at hI2
    refine ⟨.inr (s,(xs.length:Int)),?_,?_,hI1,hI2⟩
    ·show aL N (f+1) xs ks [] s (xs.length:Int)=_
     rw [aL,dge (by omega),cond_false]
    ·show aK N (f+1) xs ks [] s (xs.length:Int) (xs.length:Int)=_
     rw [aK,dge (by omega),cond_false]) N 0 o (by omega) (by omega) ⟨by omega,fun x hx=>by simp at hx⟩
  have e1':aL N N xs ks [] o 0=_:=e1
  have e2':aK N N xs ks [] o (xs.length:Int) 0=_:=e2
  rw [show ((xs.length:Int) != (ks.length:Int))=false by simp [hl],cond_false,cond_false,gY,eo,bs,bs,e1',e2',bs]
  cases s with
  | inl q =>
   obtain ⟨h1,h2⟩:=hs
   exact ⟨q,rfl,rfl,h1,fun h=>by rw [h2] at h;cases h⟩
  | inr v =>
   obtain ⟨h1,h2⟩:=hs
   exact ⟨(v.1,true),rfl,rfl,h1,fun _=>h2⟩
 ·rw [show ((xs.length:Int) != (ks.length:Int))=true by simp;omega,cond_true,cond_true]
  exact ⟨_,rfl,rfl,Nat.zero_le _,fun h=>by cases h⟩
theorem n4 {a b:List Int} (hl:a.length=b.length) (ha:a.length≤1048576):∀ m k,m≤a.length→m<k→∃ s:Sum Int Int,ck N k a b ((m:Int)-1)=some s∧aU N k a b ((m:Int)-1)=some s:=by
 intro m
 induction m with
 | zero =>
  intro k hm hk
  obtain ⟨k,rfl⟩:∃ k',k=k'+1:=⟨k-1,by omega⟩
  rw [ck,aU,decide_eq_false (by omega),cond_false,cond_false]
  exact ⟨_,rfl,rfl⟩
 | succ m ih =>
  intro k hm hk
  obtain ⟨k,rfl⟩:∃ k',k=k'+1:=⟨k-1,by omega⟩
  have h1:m<a.length:=by omega
  have h2:m<b.length:=by omega
  have hm1:((m+1:Nat):Int)-1=(m:Int):=by omega
  obtain ⟨s,e1,e2⟩:=ih k (by omega) (by omega)
  rw [hm1,ck,aU,decide_eq_true (by omega),cond_true,cond_true,aH h1,aH h2]
  simp only [bs]
  rw [dk (by omega) (by omega)]
  simp only [bs,eU]
  rcases Int.lt_trichotomy a[m] b[m] with h | h | h
  ·rw [decide_eq_true h,cond_true,show (a[m] != b[m])=true by simp;omega,cond_true,ic,if_pos h]
   exact ⟨_,rfl,rfl⟩
  ·rw [decide_eq_false (by omega),cond_false,decide_eq_false (by omega),cond_false,show (a[m] != b[m])=false by simp [h],cond_false]
   exact ⟨s,e1,e2⟩
  ·rw [decide_eq_false (by omega),cond_false,decide_eq_true h,cond_true,show (a[m] != b[m])=true by simp;omega,cond_true,ic,if_neg (by omega),if_pos h]
   exact ⟨_,rfl,rfl⟩
theorem mz (hN:1073741824≤N) {a b:List Int} (ha:a.length≤1048576) (hb:b.length≤1048576):∃ c,c6 N a b=some c∧cm N a b=some c:=by
 unfold c6 cm
 rw [jf hN ha,fo hN ha,jf hN hb,fo hN hb]
 obtain ⟨x,ex,_⟩:=gh ha
 obtain ⟨y,ey,_⟩:=gh hb
 rw [ex,ey]
 cases x with
 | false=>exact ⟨0,rfl,rfl⟩
 | true =>
  cases y with
  | false=>exact ⟨0,rfl,rfl⟩
  | true =>
   simp only [bs,cond_true,eU]
   by_cases hl:a.length=b.length
   ·obtain ⟨s,e1,e2⟩:=n4 (N:=N) hl ha a.length N (Nat.le_refl _) (by omega)
    rw [show ((a.length:Int) != (b.length:Int))=false by simp [hl],cond_false,cond_false,dk (by omega) (by omega)]
    simp only [bs]
    rw [e1,e2,bs]
    cases s with
    | inl q=>exact ⟨q,rfl,rfl⟩
    | inr v=>exact ⟨0,rfl,rfl⟩
   ·rw [show ((a.length:Int) != (b.length:Int))=true by simp;omega,cond_true,cond_true]
    unfold ic
    by_cases h:(a.length:Int)<(b.length:Int)
    ·rw [decide_eq_true h,cond_true,if_pos h];exact ⟨_,rfl,rfl⟩
    ·rw [decide_eq_false h,cond_false,if_neg h,if_pos (by omega)];exact ⟨_,rfl,rfl⟩
theorem mN (hN:1073741824≤N) {xs ns:List Int} {n f d:Int} (hx:xs.length≤1048576):bw N N xs n f ns d xs (xs.length:Int) 0=some (bif xs.all (fun v=>!decide (v<0)) then .inr (xs.length:Int) else .inl false) :=
 jx (fun k i=>bw N k xs n f ns d xs (xs.length:Int) i) xs (fun v=>!decide (v<0)) hN hx
  (fun k i h=>by
   show bw N (k+1) xs n f ns d xs (xs.length:Int) (i:Int)=_
   rw [bw,dlt h,cond_true,aH h,bs,ad1 (by omega),bs]
   cases decide (xs[i]<0)
   ·rw [cond_false,Bool.not_false,cond_true]
   ·rw [cond_true,Bool.not_true,cond_false])
  (fun k=>by
   show bw N (k+1) xs n f ns d xs (xs.length:Int) (xs.length:Int)=_
   rw [bw,dge (by omega),cond_false])
theorem kd {n:Int} {atoms:List bz} {out:List Int}:0≤fU n atoms out 1∧fU n atoms out 1≤9223372036854775807:=by
 unfold fU
 cases hq:c9 n atoms out with
 | false=>exact ⟨Int.le_refl _,by show (0:Int)≤_;omega⟩
 | true =>
  obtain ⟨h1,h2,h3,h4⟩:=iq hq
  obtain ⟨b1,b2,b3,b4⟩:=jI (r:=1) ⟨h1,h2⟩ ⟨h3,h4⟩ (by omega)
  rw [show (true&&inR 1 0 1000000)=true from rfl,cond_true]
  exact ⟨b3,by omega⟩
theorem gE (hN:1073741824≤N) {n:Int} {atoms:List bz} {out xs:List Int} {rs:List dS} {c:Int} (ha:dT atoms) (ho:okI out) (hx:xs.length≤1048576) (hr:∀ v∈xs,kt v) (hrs:rs.length≤1048576) (hc:kt c) :
  ∃ b,cG N n atoms out xs rs c=some b∧bi N n atoms out xs rs c=some b:=by
 obtain ⟨⟨ws,d⟩,s1,s2,s3⟩:=i7 (N:=N) hN hrs
 obtain ⟨⟨p,pb⟩,p1,p2,p3,p4⟩:=jU (N:=N) hN (xs:=xs) (ks:=ws) hx (fun v hv=>(hr v hv).2)
 obtain ⟨⟨y,yb⟩,y1,y2,y3,y4,y5⟩:=gT (N:=N) hN (n:=c) (k:=d) hc.2
 obtain ⟨⟨f,fb⟩,f1,f2,f3,_,_⟩:=gT (N:=N) hN (n:=fU n atoms out 1) (k:=d) kd.2
 obtain ⟨⟨z,zb⟩,z1,z2,z3⟩:=g8 (N:=N) hN (a:=p) (b:=f) p3 f3
 obtain ⟨q,q1,q2⟩:=mz (N:=N) hN (a:=y) (b:=z) y3 (by have h:z.length≤60:=z3;omega)
 unfold cG bi
 rw [ep hN ha ho,eu hN ha ho,ef hN ha ho,cX hN ha ho,s1]
 simp only [bs]
 rw [p1,y1,f1]
 simp only [bs]
 rw [z1]
 simp only [bs]
 rw [q1]
 simp only [bs]
 have hW:bN N xs rs c (fU n atoms out 1)=some (decide (0<d)&&(pb&&(yb&&(fb&&(zb&&decide (q≤0)))))):=by
  unfold bN
  rw [s2]
  simp only [bs]
  by_cases hcn:c<0
  ·rw [decide_eq_true hcn,cond_true]
   have:yb=false:=y4 hcn
   subst this;simp
  rw [decide_eq_false hcn,cond_false]
  by_cases hd:d<1
  ·rw [decide_eq_true hd,cond_true,decide_eq_false (by omega:¬ 0<d)];rfl
  rw [decide_eq_false hd,cond_false]
  by_cases hd2:100<d
  ·rw [decide_eq_true hd2,cond_true]
   have:yb=false:=y5 hd2
   subst this;simp
  rw [decide_eq_false hd2,cond_false,mN hN hx,bs]
  cases hall:xs.all (fun v=>!decide (v<0)) with
  | false =>
   have:pb=false:=by
    rw [← Bool.not_eq_true]
    intro hpb
    have h5:=p4 hpb
    rw [← Bool.not_eq_true,List.all_eq_true] at hall
    exact hall fun v hv=>by have:=h5 v hv;simp;omega
   subst this
   rw [cond_false,h8];simp
  | true =>
   rw [cond_true,gF,y2,bs,p2,bs,f2,bs,z2,bs,decide_eq_true (by omega:0<d)]
   simp only [q2,bs]
   cases yb <;> cases pb <;> cases fb <;> cases zb <;> rfl
 rw [hW]
 cases c9 n atoms out with
 | false =>
  refine ⟨false,?_,rfl⟩
  cases decide (0<d) <;> cases pb <;> cases yb <;> cases fb <;> cases zb <;> rfl
 | true =>
  refine ⟨_,?_,rfl⟩
  cases decide (0<d) <;> cases pb <;> cases yb <;> cases fb <;> cases zb <;> rfl
end
def vB:List Int→Int
 | []=>0
 | x :: xs=>x+10*vB xs
theorem p10 (n:Nat):(10:Int) ^ (n+1)=10*10 ^ n:=by rw [Int.pow_succ,Int.mul_comm]
theorem jM:∀ n:Nat,(0:Int)<10 ^ n
 | 0=>by decide
 | n+1=>by rw [p10];have:=jM n;omega
theorem gX {m n:Nat} (h:m≤n):(10:Int) ^ m≤10 ^ n:=by
 induction n with
 | zero =>
  have:m=0:=by omega
  subst this;exact Int.le_refl _
 | succ n ih =>
  by_cases e:m=n+1
  ·subst e;exact Int.le_refl _
  ·have:=ih (by omega)
   have:=jM n
   rw [p10];omega
theorem jl:∀ a b:List Int,vB (a++b)=vB a+10 ^ a.length*vB b
 | [],b=>by show vB b=0+10 ^ 0*vB b;rw [show (10:Int) ^ 0=1 from rfl];omega
 | x :: a,b=>by
  show x+10*vB (a++b)=x+10*vB a+10 ^ (a.length+1)*vB b
  rw [jl a b,p10,Int.mul_add,Int.mul_assoc];omega
theorem lV:∀ (s:List Int) (k:Nat) (h:k<s.length) (c:Int),vB (s.set k (s[k]+c))=vB s+c*10 ^ k
 | [],k,h,_=>by simp at h
 | x :: s,0,_,c=>by show x+c+10*vB s=x+10*vB s+c*10 ^ 0;rw [show (10:Int) ^ 0=1 from rfl];omega
 | x :: s,k+1,h,c=>by
  have hk:k<s.length:=by simpa using h
  have:=lV s k hk c
  show x+10*vB (s.set k (s[k]+c))=x+10*vB s+c*10 ^ (k+1)
  rw [this,p10,Int.mul_add]
  have e:c*(10*10 ^ k)=10*(c*(10:Int) ^ k):=by ac_rfl
  rw [e];omega
def e9 (xs:List Int):Prop:=∀ v∈xs,0≤v∧v≤9
def Cn (xs:List Int):Prop:=e9 xs∧(xs=[]∨xs.getD (xs.length-1) 0≠0)
theorem lg:∀ {xs:List Int},e9 xs→0≤vB xs
 | [],_=>Int.le_refl _
 | x :: xs,h=>by
  have h1:=h x List.mem_cons_self
  have:=lg (xs:=xs) fun v hv=>h v (List.mem_cons_of_mem _ hv)
  show 0≤x+10*vB xs;omega
theorem iu:∀ {xs:List Int},e9 xs→vB xs<10 ^ xs.length
 | [],_=>by decide
 | x :: xs,h=>by
  have h1:=h x List.mem_cons_self
  have:=iu (xs:=xs) fun v hv=>h v (List.mem_cons_of_mem _ hv)
  show x+10*vB xs<10 ^ (xs.length+1);rw [p10];omega
theorem mQ:∀ {xs:List Int},e9 xs→xs≠[]→xs.getD (xs.length-1) 0≠0→10 ^ (xs.length-1)≤vB xs
 | [],_,h,_=>absurd rfl h
 | [x],h,_,h2=>by
  have h1:=h x List.mem_cons_self
  have:x≠0:=by simpa using h2
  show (10:Int) ^ 0≤x+10*0
  rw [show (10:Int) ^ 0=1 from rfl];omega
 | x :: y :: xs,h,_,h2=>by
  have h1:=h x List.mem_cons_self
  have:=mQ (xs:=y :: xs) (fun v hv=>h v (List.mem_cons_of_mem _ hv)) (by simp) (by simpa using h2)
  simp only [List.length_cons,Nat.add_sub_cancel] at this ⊢
  show (10:Int) ^ (xs.length+1)≤x+10*vB (y :: xs)
  rw [p10];omega
theorem Cn.ge {xs:List Int} (h:Cn xs) (hn:xs≠[]):10 ^ (xs.length-1)≤vB xs:=by
 rcases h.2 with e | e
 ·exact absurd e hn
 ·exact mQ h.1 hn e
theorem Cn.len {xs:List Int} (h:Cn xs) {n:Nat} (hv:vB xs<10 ^ n):xs.length≤n:=by
 by_cases hn:xs=[]
 ·subst hn;exact Nat.zero_le _
 ·have:=h.ge hn
  by_cases hl:xs.length≤n
  ·exact hl
  ·have:=gX (show n≤xs.length-1 by omega)
   omega
section
variable {N:Nat}
theorem ir {xs:List Int} (h:Cn xs) (hl:xs.length≤60):vF xs=some true:=by
 unfold vF
 have h1:xs.all (fun v=>inR v 0 9)=true:=List.all_eq_true.2 fun v hv=>cp.2 (h.1 v hv)
 rw [h1,cond_true,decide_eq_true (by omega),cond_true]
 by_cases h0:xs.length=0
 ·rw [show ((xs.length:Int) == 0)=true by simp [h0],cond_true]
 ·rw [show ((xs.length:Int) == 0)=false by simp;simpa using h0,cond_false,dk (by omega) (by omega),bs,show (xs.length:Int)-1=((xs.length-1:Nat):Int) by omega,aH (by omega),bs]
  rcases h.2 with e | e
  ·rw [e] at h0;simp at h0
  ·rw [fB (by omega)] at e
   simp [e]
theorem iS {x:Int} (h:0≤x):x.tmod 10=x % 10:=Int.tmod_eq_emod_of_nonneg h
theorem oV:∀ (m k:Nat) (x:Int) (a b:List Int),0≤x→x≤9223372036854775807→x<10 ^ m→m<k→b.length+m≤1048576→∃ y ds,aS N k x a b=some (y,b++ds)∧vB ds=x∧e9 ds∧ds.length≤m∧(x=0→ds=[])∧(0<x→ds≠[]∧ds.getD (ds.length-1) 0≠0):=by
 intro m
 induction m with
 | zero =>
  intro k x a b h0 hm h1 hk hb
  obtain ⟨k,rfl⟩:∃ k',k=k'+1:=⟨k-1,by omega⟩
  have hx:x=0:=by simp at h1;omega
  rw [aS,decide_eq_false (by omega),cond_false]
  exact ⟨x,[],by simp,hx.symm,by intro v hv;simp at hv,by simp,fun _=>rfl,fun h=>by omega⟩
 | succ m ih =>
  intro k x a b h0 hm h1 hk hb
  obtain ⟨k,rfl⟩:∃ k',k=k'+1:=⟨k-1,by omega⟩
  rw [aS]
  by_cases hx:0<x
  ·have hd:x / 10<10 ^ m:=by rw [Int.pow_succ] at h1;omega
   rw [decide_eq_true hx,cond_true,jA,bs,de (by decide) (by simp;omega),bs,jw h0 hm,bs]
   obtain ⟨y,ds,e,v1,v2,v3,v4,v5⟩:=ih k (x / 10) a (b++[x.tmod 10]) (by omega) (by omega) hd (by omega) (by rw [List.length_append,List.length_singleton];omega)
   refine ⟨y,x.tmod 10 :: ds,by rw [e,List.append_assoc];rfl,?_,?_,by simp;omega,fun h=>by omega,fun _=>⟨by simp,?_⟩⟩
   ·show x.tmod 10+10*vB ds=x
    rw [v1,iS h0];omega
   ·intro v hv
    rcases List.mem_cons.1 hv with rfl | hv
    ·rw [iS h0];omega
    ·exact v2 v hv
   ·by_cases hq:0<x / 10
    ·obtain ⟨w1,w2⟩:=v5 hq
     obtain ⟨d,t,rfl⟩:=List.exists_cons_of_ne_nil w1
     simpa using w2
    ·have:=v4 (by omega)
     subst this
     rw [iS h0]
     show x % 10≠0
     omega
  ·have hx0:x=0:=by omega
   rw [decide_eq_false hx,cond_false]
   exact ⟨x,[],by simp,hx0.symm,by intro v hv;simp at hv,by simp,fun _=>rfl,fun h=>by omega⟩
theorem kQ (hN:1073741824≤N) {n:Int} (h0:0≤n) (h1:n≤9223372036854775807):∃ b,bm N n=some b∧b.length≤19∧vB b=n∧Cn b:=by
 have hp:(10:Int) ^ 19=10000000000000000000:=by decide
 obtain ⟨y,b,e,v1,v2,v3,v4,v5⟩:=oV (N:=N) 19 N n [] [] h0 h1 (by rw [hp];omega) (by omega) (by rw [List.length_nil];omega)
 refine ⟨b,?_,v3,v1,v2,?_⟩
 ·unfold bm;rw [e,bs,lpB];rfl
 ·by_cases h:0<n
  ·exact .inr (v5 h).2
  ·exact .inl (v4 (by omega))
theorem oJ {a b:List Int}:∀ (m k:Nat) (c:Int) (out:List Int) (i:Nat),a.length≤i→0≤c→c≤1000000000→c<10 ^ m→m<k→out.length+m≤1048576→i+m≤1048576→∃ ds y z,aN N k a b out c (i:Int)=some (out++ds,y,z)∧ds.length≤m∧vB ds=c∧e9 ds:=by
 intro m
 induction m with
 | zero =>
  intro k c out i hi h0 hm h1 hk hb hi2
  obtain ⟨k,rfl⟩:∃ k',k=k'+1:=⟨k-1,by omega⟩
  have hc:c=0:=by simp at h1;omega
  rw [aN,dge (by omega),cond_false,decide_eq_false (by omega),cond_false]
  exact ⟨[],c,_,by rw [List.append_nil],by simp,hc.symm,by intro v hv;simp at hv⟩
 | succ m ih =>
  intro k c out i hi h0 hm h1 hk hb hi2
  obtain ⟨k,rfl⟩:∃ k',k=k'+1:=⟨k-1,by omega⟩
  rw [aN,dge (by omega),cond_false]
  by_cases hx:0<c
  ·have hd:c / 10<10 ^ m:=by rw [Int.pow_succ] at h1;omega
   rw [decide_eq_true hx,cond_true,jA,bs,de (by decide) (by simp;omega),bs,jw h0 (by omega),bs,ad1 (by omega),bs]
   obtain ⟨ds,y,z,e,hl,hv,hd2⟩:=ih k (c / 10) (out++[c.tmod 10]) (i+1) (by omega) (by omega) (by omega) hd (by omega) (by rw [List.length_append,List.length_singleton];omega) (by omega)
   refine ⟨c.tmod 10 :: ds,y,z,by rw [e,List.append_assoc];rfl,by simp;omega,?_,?_⟩
   ·show c.tmod 10+10*vB ds=c
    rw [hv,iS h0];omega
   ·intro v hv
    rcases List.mem_cons.1 hv with rfl | hv
    ·rw [iS h0];omega
    ·exact hd2 v hv
  ·have hc:c=0:=by omega
   rw [decide_eq_false hx,cond_false]
   exact ⟨[],c,_,by rw [List.append_nil],by simp,hc.symm,by intro v hv;simp at hv⟩
theorem oN {a b:List Int} (ha:a.length≤1000) (hv:∀ v∈a,0≤v∧v≤1000000):∀ (m k:Nat) (c:Int) (out:List Int) (i:Nat),i+m=a.length→0≤c→c≤1000000→m+20<k→out.length≤i→∃ ds y z,aN N k a b out c (i:Int)=some (out++ds,y,z)∧ds.length≤m+7∧vB ds=c+vB (a.drop i)∧e9 ds:=by
 intro m
 induction m with
 | zero =>
  intro k c out i hi h0 h1 hk hb
  have hp:(10:Int) ^ 7=10000000:=by decide
  obtain ⟨ds,y,z,e,hl,h3,h4⟩:=oJ (N:=N) (a:=a) (b:=b) 7 k c out i (by omega) h0 (by omega) (by rw [hp];omega) (by omega) (by omega) (by omega)
  refine ⟨ds,y,z,e,by omega,?_,h4⟩
  rw [h3,List.drop_of_length_le (by omega)]
  show c=c+0;omega
 | succ m ih =>
  intro k c out i hi h0 h1 hk hb
  obtain ⟨k,rfl⟩:∃ k',k=k'+1:=⟨k-1,by omega⟩
  have h:i<a.length:=by omega
  have hx:=hv _ (List.getElem_mem h)
  rw [aN,dlt h,cond_true,aH h,bs,dP (by omega) (by omega),bs,jA,bs,de (by decide) (by simp;omega),bs,jw (by omega) (by omega),bs,ad1 (by omega),bs]
  obtain ⟨ds,y,z,e,hl,h3,h4⟩:=ih k ((c+a[i]) / 10) (out++[(c+a[i]).tmod 10]) (i+1) (by omega) (by omega) (by omega) (by omega) (by rw [List.length_append,List.length_singleton];omega)
  refine ⟨(c+a[i]).tmod 10 :: ds,y,z,by rw [e,List.append_assoc];rfl,by simp;omega,?_,?_⟩
  ·rw [fA h]
   show (c+a[i]).tmod 10+10*vB ds=c+(a[i]+10*vB (a.drop (i+1)))
   rw [h3,iS (by omega)];omega
  ·intro v hv
   rcases List.mem_cons.1 hv with rfl | hv
   ·rw [iS (by omega)];omega
   ·exact h4 v hv
theorem jT {xs:List Int}:∀ m,m≤xs.length→vB (xs.take (bU xs m))=vB (xs.take m)∧(bU xs m=0∨xs.getD (bU xs m-1) 0≠0)
 | 0,_=>⟨rfl,.inl rfl⟩
 | m+1,h=>by
  obtain ⟨h1,h2⟩:=jT (xs:=xs) m (by omega)
  unfold bU
  by_cases e:xs.getD m 0=0
  ·rw [if_pos e]
   refine ⟨?_,h2⟩
   rw [h1,List.take_succ_eq_append_getElem (show m<xs.length by omega),jl]
   rw [fB (by omega)] at e
   rw [e]
   show _=_+_*(0+10*0)
   rw [show (0:Int)+10*0=0 from rfl,Int.mul_zero,Int.add_zero]
  ·rw [if_neg e];exact ⟨rfl,.inr (by simpa using e)⟩
theorem lp (hN:1073741824≤N) {a:List Int} (ha:a.length≤1000) (hv:∀ v∈a,0≤v∧v≤1000000):∃ r:List Int × Bool,cF N a=some r∧(r.2=true→vB r.1=vB a∧Cn r.1∧r.1.length≤60)∧(r.2=true↔vB a<10 ^ 60):=by
 obtain ⟨o,y,z,e,hl,h3,h4⟩:=oN (N:=N) (b:=[]) ha hv a.length N 0 [] 0 (by omega) (by omega) (by omega) (by omega) (by simp)
 have e':aN N N a [] [] 0 0=some (o,y,z):=e
 have h3:vB o=vB a:=by rw [h3,List.drop_zero];omega
 have s1:=ma (N:=N) (b:=[]) (xs:=o) (by omega) o.length N (Nat.le_refl _) (by omega)
 obtain ⟨g1,g2⟩:=jT (xs:=o) o.length (Nat.le_refl _)
 rw [List.take_length] at g1
 have hle:=ib o o.length
 have hlen:(o.take (bU o o.length)).length=bU o o.length:=by rw [List.length_take];omega
 have hC:Cn (o.take (bU o o.length)):=by
  refine ⟨fun v hv=>h4 v (List.mem_of_mem_take hv),?_⟩
  rw [hlen]
  rcases g2 with g2 | g2
  ·exact .inl (by rw [g2];rfl)
  ·by_cases hz:bU o o.length=0
   ·exact .inl (by rw [hz];rfl)
   ·right
    rw [List.getD_eq_getElem?_getD,List.getElem?_take,if_pos (by omega),← List.getD_eq_getElem?_getD];exact g2
 have hI:cF N a=bif decide (60<((bU o o.length:Nat):Int)) then some ([],false) else some (o.take (bU o o.length),true):=by
  unfold cF
  rw [e',bs,lpB]
  simp only []
  rw [s1,bs,lpB,show (0:Int)=((0:Nat):Int) from rfl,hZ (Nat.zero_le _) (by omega),bs,List.drop_zero]
 rw [hI]
 by_cases h:60<bU o o.length
 ·rw [decide_eq_true (by omega),cond_true]
  refine ⟨_,rfl,(fun h=>nomatch h),⟨(fun h=>nomatch h),fun hlt=>?_⟩⟩
  rw [← h3,← g1] at hlt
  have:=hC.len hlt
  omega
 ·rw [decide_eq_false (by omega),cond_false]
  refine ⟨_,rfl,fun _=>⟨by show vB (o.take _)=_;rw [g1,h3],hC,by show (o.take _).length≤60;omega⟩,fun _=>?_,fun _=>rfl⟩
  rw [← h3,← g1]
  have h1:=iu hC.1
  have h2:=gX (show (o.take (bU o o.length)).length≤60 by omega)
  omega
theorem nu {a b:List Int} (ha:a.length≤60) (hb:b.length≤60) (da:e9 a) (db:e9 b) {i:Nat} (hi:i<a.length) {C:Int} (hC:C≤500000):∀ (m j k:Nat) (s:List Int),j+m=b.length→m<k→s.length=a.length+b.length→(∀ x∈s,0≤x∧x≤C+81*(j:Int)) →
  ∃ s',a9 N k b [] s (i:Int) a[i] a (a.length:Int) (i:Int) b (b.length:Int) (j:Int)=some (s',(b.length:Int))∧s'.length=a.length+b.length∧(∀ x∈s',0≤x∧x≤C+4860)∧vB s'=vB s+a[i]*10 ^ (i+j)*vB (b.drop j):=by
 have hai:=da _ (List.getElem_mem hi)
 intro m
 induction m with
 | zero =>
  intro j k s hj hk hs hx
  obtain ⟨k,rfl⟩:∃ k',k=k'+1:=⟨k-1,by omega⟩
  obtain rfl:j=b.length:=by omega
  rw [a9,dge (by omega),cond_false]
  refine ⟨s,rfl,hs,fun x h=>by have:=hx x h;omega,?_⟩
  rw [List.drop_length]
  show _=_+_*0
  rw [Int.mul_zero,Int.add_zero]
 | succ m ih =>
  intro j k s hj hk hs hx
  obtain ⟨k,rfl⟩:∃ k',k=k'+1:=⟨k-1,by omega⟩
  have hjb:j<b.length:=by omega
  have hbj:=db _ (List.getElem_mem hjb)
  obtain ⟨m1,m2⟩:=kN hai hbj
  have hij:i+j<s.length:=by omega
  have hsv:=hx _ (List.getElem_mem hij)
  rw [a9,dlt hjb,cond_true,aH hjb,bs,adN (by omega),bs,aH hij,bs,d7 (by omega) (by omega),bs,dP (by omega) (by omega),bs,bs,fC hij,bs,ad1 (by omega),bs]
  obtain ⟨s',e1,e2,e3,e4⟩:=ih (j+1) k (s.set (i+j) (s[i+j]+a[i]*b[j])) (by omega) (by omega) (by simpa using hs) fun x h=>by
   rcases List.mem_or_eq_of_mem_set h with h | rfl
   ·have:=hx x h;omega
   ·omega
  refine ⟨s',e1,e2,e3,?_⟩
  rw [e4,lV,fA hjb]
  show _=vB s+a[i]*10 ^ (i+j)*(b[j]+10*vB (b.drop (j+1)))
  rw [show i+(j+1)=(i+j)+1 by omega,p10]
  have e:a[i]*10 ^ (i+j)*(b[j]+10*vB (b.drop (j+1)))=a[i]*b[j]*10 ^ (i+j)+a[i]*(10*10 ^ (i+j))*vB (b.drop (j+1)):=by
   rw [Int.mul_add]
   congr 1 <;> ac_rfl
  rw [e];omega
theorem mo (hN:1073741824≤N) {a b:List Int} (ha:a.length≤60) (hb:b.length≤60) (da:e9 a) (db:e9 b):∀ (m i k:Nat) (s:List Int),i+m=a.length→m<k→s.length=a.length+b.length→(∀ x∈s,0≤x∧x≤4860*(i:Int)) →
  ∃ s',ba N k b [] s a (a.length:Int) (i:Int)=some (s',(a.length:Int))∧s'.length=a.length+b.length∧(∀ x∈s',0≤x∧x≤500000)∧vB s'=vB s+10 ^ i*vB (a.drop i)*vB b:=by
 intro m
 induction m with
 | zero =>
  intro i k s hi hk hs hx
  obtain ⟨k,rfl⟩:∃ k',k=k'+1:=⟨k-1,by omega⟩
  obtain rfl:i=a.length:=by omega
  rw [ba,dge (by omega),cond_false]
  refine ⟨s,rfl,hs,fun x h=>by have:=hx x h;omega,?_⟩
  rw [List.drop_length]
  show _=_+_*0*_
  rw [Int.mul_zero,Int.zero_mul,Int.add_zero]
 | succ m ih =>
  intro i k s hi hk hs hx
  obtain ⟨k,rfl⟩:∃ k',k=k'+1:=⟨k-1,by omega⟩
  have h:i<a.length:=by omega
  obtain ⟨s1,e1,e2,e3,e4⟩:=nu (N:=N) ha hb da db h (C:=4860*(i:Int)) (by omega) b.length 0 N s (by omega) (by omega) hs fun x hx'=>by have:=hx x hx';omega
  obtain ⟨s',f1,f2,f3,f4⟩:=ih (i+1) k s1 (by omega) (by omega) e2 fun x hx'=>by have:=e3 x hx';omega
  have e1':a9 N N b [] s (i:Int) a[i] a (a.length:Int) (i:Int) b (b.length:Int) 0=_:=e1
  rw [ba,dlt h,cond_true,aH h,bs,e1',bs,lpB]
  dsimp only
  rw [ad1 (by omega),bs]
  refine ⟨s',f1,f2,f3,?_⟩
  rw [f4,e4,List.drop_zero,Nat.add_zero,fA h]
  show _=vB s+10 ^ i*(a[i]+10*vB (a.drop (i+1)))*vB b
  have e:10 ^ i*(a[i]+10*vB (a.drop (i+1)))*vB b=a[i]*10 ^ i*vB b+10*10 ^ i*vB (a.drop (i+1))*vB b:=by
   rw [Int.mul_add,Int.add_mul]
   congr 1 <;> ac_rfl
  rw [p10,e];omega
theorem kj:∀ n:Nat,vB (List.replicate n 0)=0
 | 0=>rfl
 | n+1=>by rw [List.replicate_succ];show 0+10*vB (List.replicate n 0)=0;rw [kj n];rfl
theorem kP (hN:1073741824≤N) {a b:List Int} (ha:Cn a) (hb:Cn b) (la:a.length≤60) (lb:b.length≤60):∃ r:List Int × Bool,bV N a b=some r∧(r.2=true→vB r.1=vB a*vB b∧Cn r.1∧r.1.length≤60)∧(r.2=true↔vB a*vB b<10 ^ 60):=by
 unfold bV
 rw [fo hN (by omega),fo hN (by omega),ir ha la,ir hb lb,bs,cond_true,bs,cond_true,adN (by omega),bs,j0 (by decide) (by omega),bs]
 obtain ⟨s,e1,e2,e3,e4⟩:=mo hN la lb ha.1 hb.1 a.length 0 N (List.replicate (a.length+b.length) 0) (by omega) (by omega) (by simp) (fun v hv=>by rw [List.eq_of_mem_replicate hv];omega)
 have e1':ba N N b [] (List.replicate (a.length+b.length) 0) a (a.length:Int) 0=_:=e1
 obtain ⟨r,c1,c2,c3⟩:=lp hN (a:=s) (by omega) (fun x hx=>by have:=e3 x hx;omega)
 have hv:vB s=vB a*vB b:=by
  rw [e4,kj,List.drop_zero,show (10:Int) ^ 0=1 from rfl,Int.one_mul,Int.zero_add]
 rw [hv] at c2 c3
 rw [e1',bs,lpB]
 dsimp only
 rw [c1,bs]
 exact ⟨_,rfl,c2,c3⟩
theorem kK (hN:1073741824≤N) {n:Int} (h0:0≤n) (h1:n≤9223372036854775807) {d:Nat} (hd:d≤100):∃ r:List Int × Bool,cr N n (d:Int)=some r∧(r.2=true→vB r.1=n ^ d∧Cn r.1∧r.1.length≤60)∧(r.2=true↔∀ j,j<d→n ^ (j+1)<10 ^ 60):=by
 obtain ⟨o,eo,ho,vo,co⟩:=kQ (N:=N) hN (n:=1) (by omega) (by omega)
 obtain ⟨c,ec,hc,vc,cc⟩:=kQ (N:=N) hN h0 h1
 have key:∀ (m i k:Nat) (s:List Int),i+m=d→m<k→Cn s→s.length≤60→vB s=n ^ i →
   (∃ s',aM N k n (d:Int) [] s (i:Int)=some (.inr (s',(d:Int)))∧Cn s'∧s'.length≤60∧vB s'=n ^ d∧∀ j,i≤j→j<d→n ^ (j+1)<10 ^ 60) ∨
   (aM N k n (d:Int) [] s (i:Int)=some (.inl ([],false))∧∃ j,i≤j∧j<d∧¬ n ^ (j+1)<10 ^ 60):=by
  intro m
  induction m with
  | zero =>
   intro i k s hi hk h1 h2 h3
   obtain ⟨k,rfl⟩:∃ k',k=k'+1:=⟨k-1,by omega⟩
   obtain rfl:i=d:=by omega
   left
   rw [aM,dge (by omega),cond_false]
   exact ⟨s,rfl,h1,h2,h3,fun j a b=>by omega⟩
  | succ m ih =>
   intro i k s hi hk k1 k2 k3
   obtain ⟨k,rfl⟩:∃ k',k=k'+1:=⟨k-1,by omega⟩
   obtain ⟨r,m1,m2,m3⟩:=kP hN k1 cc k2 (by omega)
   have hp:vB s*vB c=n ^ (i+1):=by rw [k3,vc,Int.pow_succ]
   rw [hp] at m2 m3
   rw [aM,dlt (by omega),cond_true,ec,bs,m1,bs]
   cases hb:r.2 with
   | true =>
    obtain ⟨q1,q2,q3⟩:=m2 hb
    rw [cond_true,ad1 (by omega),bs]
    rcases ih (i+1) k r.1 (by omega) (by omega) q2 q3 q1 with ⟨s',a1,a2,a3,a4,a5⟩ | ⟨a1,j,a2,a3,a4⟩
    ·refine .inl ⟨s',a1,a2,a3,a4,fun j b1 b2=>?_⟩
     by_cases e:j=i
     ·rw [e];exact m3.1 hb
     ·exact a5 j (by omega) b2
    ·exact .inr ⟨a1,j,by omega,a3,a4⟩
   | false =>
    rw [cond_false]
    refine .inr ⟨rfl,i,Nat.le_refl _,by omega,fun h=>?_⟩
    rw [m3.2 h] at hb;cases hb
 unfold cr
 rw [decide_eq_false (by omega),cond_false,cJ,bs,show inR (d:Int) 0 100=true from cp.2 (by omega),cond_true,eo,bs]
 rcases key d 0 N o (by omega) (by omega) co (by omega) (by rw [vo,Int.pow_zero]) with ⟨s',a1,a2,a3,a4,a5⟩ | ⟨a1,j,a2,a3,a4⟩
 ·have a1':aM N N n (d:Int) [] o 0=_:=a1
  rw [a1',bs,gF]
  exact ⟨_,rfl,fun _=>⟨a4,a2,a3⟩,fun _ j hj=>a5 j (by omega) hj,fun _=>rfl⟩
 ·have a1':aM N N n (d:Int) [] o 0=_:=a1
  rw [a1',bs,h8]
  exact ⟨_,rfl,(fun h=>nomatch h),⟨(fun h=>nomatch h),fun h=>absurd (h j a3) a4⟩⟩
theorem n7 {a b:List Int} (hl:a.length=b.length) (da:e9 a) (db:e9 b) (ha:a.length≤1048576):∀ m k,m≤a.length→m<k →
  (∃ q,aU N k a b ((m:Int)-1)=some (.inl q)∧(q<0∧vB (a.take m)<vB (b.take m)∨0<q∧vB (b.take m)<vB (a.take m)))∨(∃ z,aU N k a b ((m:Int)-1)=some (.inr z))∧vB (a.take m)=vB (b.take m):=by
 intro m
 induction m with
 | zero =>
  intro k hm hk
  obtain ⟨k,rfl⟩:∃ k',k=k'+1:=⟨k-1,by omega⟩
  rw [aU,decide_eq_false (by omega),cond_false]
  exact .inr ⟨⟨_,rfl⟩,rfl⟩
 | succ m ih =>
  intro k hm hk
  obtain ⟨k,rfl⟩:∃ k',k=k'+1:=⟨k-1,by omega⟩
  have h1:m<a.length:=by omega
  have h2:m<b.length:=by omega
  have hm1:((m+1:Nat):Int)-1=(m:Int):=by omega
  have ea:vB (a.take (m+1))=vB (a.take m)+10 ^ m*a[m]:=by
   rw [List.take_succ_eq_append_getElem h1,jl,List.length_take,Nat.min_eq_left (by omega)]
   show _+10 ^ m*(a[m]+10*0)=_
   rw [Int.mul_zero,Int.add_zero]
  have eb:vB (b.take (m+1))=vB (b.take m)+10 ^ m*b[m]:=by
   rw [List.take_succ_eq_append_getElem h2,jl,List.length_take,Nat.min_eq_left (by omega)]
   show _+10 ^ m*(b[m]+10*0)=_
   rw [Int.mul_zero,Int.add_zero]
  have dta:e9 (a.take m):=fun v hv=>da v (List.mem_of_mem_take hv)
  have dtb:e9 (b.take m):=fun v hv=>db v (List.mem_of_mem_take hv)
  have la:=iu dta
  have lb:=iu dtb
  rw [List.length_take,Nat.min_eq_left (by omega)] at la lb
  have na:=lg dta
  have nb:=lg dtb
  have key:∀ x y:Int,x<y→(10:Int) ^ m*x+10 ^ m≤10 ^ m*y:=fun x y h=>by
   have:=Int.mul_le_mul_of_nonneg_left (show x+1≤y by omega) (Int.le_of_lt (jM m))
   rw [Int.mul_add,Int.mul_one] at this;exact this
  rw [hm1,aU,decide_eq_true (by omega),cond_true,aH h1,aH h2]
  simp only [bs,eU]
  rcases Int.lt_trichotomy a[m] b[m] with h | h | h
  ·rw [show (a[m] != b[m])=true by simp;omega,cond_true,ic,if_pos h]
   have:=key _ _ h
   exact .inl ⟨_,rfl,.inl ⟨by decide,by omega⟩⟩
  ·rw [show (a[m] != b[m])=false by simp [h],cond_false,dk (by omega) (by omega),bs]
   rw [ea,eb,h]
   rcases ih k (by omega) (by omega) with ⟨q,q1,q2⟩ | ⟨q1,q2⟩
   ·exact .inl ⟨q,q1,by omega⟩
   ·exact .inr ⟨q1,by omega⟩
  ·rw [show (a[m] != b[m])=true by simp;omega,cond_true,ic,if_neg (by omega),if_pos h]
   have:=key _ _ h
   exact .inl ⟨_,rfl,.inr ⟨by decide,by omega⟩⟩
theorem kM (hN:1073741824≤N) {a b:List Int} (ha:Cn a) (hb:Cn b) (la:a.length≤60) (lb:b.length≤60):∃ q,cm N a b=some q∧(q≤0↔vB a≤vB b):=by
 unfold cm
 rw [fo hN (by omega),fo hN (by omega),ir ha la,ir hb lb,bs,cond_true,bs,cond_true]
 by_cases hl:a.length=b.length
 ·rw [show ((a.length:Int) != (b.length:Int))=false by simp [hl],cond_false,dk (by omega) (by omega),bs]
  rcases n7 (N:=N) hl ha.1 hb.1 (by omega) a.length N (Nat.le_refl _) (by omega) with ⟨q,q1,q2⟩ | ⟨⟨z,q1⟩,q2⟩
  ·rw [List.take_length,show b.take a.length=b by rw [hl,List.take_length]] at q2
   rw [q1,bs,h8]
   exact ⟨q,rfl,by omega⟩
  ·rw [List.take_length,show b.take a.length=b by rw [hl,List.take_length]] at q2
   rw [q1,bs,gF]
   exact ⟨0,rfl,by omega⟩
 ·rw [show ((a.length:Int) != (b.length:Int))=true by simp;omega,cond_true,eU,bs]
  unfold ic
  by_cases h:(a.length:Int)<(b.length:Int)
  ·rw [if_pos h]
   have hbn:b≠[]:=fun e=>by have:=congrArg List.length e;rw [List.length_nil] at this;omega
   have h1:=hb.ge hbn
   have h2:=iu ha.1
   have h3:=gX (show a.length≤b.length-1 by omega)
   exact ⟨-1,rfl,by omega⟩
  ·rw [if_neg h,if_pos (by omega)]
   have han:a≠[]:=fun e=>by have:=congrArg List.length e;rw [List.length_nil] at this;omega
   have h1:=ha.ge han
   have h2:=iu hb.1
   have h3:=gX (show b.length≤a.length-1 by omega)
   exact ⟨1,rfl,by omega⟩
end
theorem jB (a:Int) {m:Nat} (hm:m≤4611686018427387904):0≤dg a (m:Int)∧dg a (m:Int)≤(m:Int):=by
 have h1:(BitVec.ofInt IntKind.i64.bits a &&& BitVec.ofInt IntKind.i64.bits (m:Int)).toNat≤m:=by
  rw [BitVec.toNat_and]
  refine Nat.le_trans Nat.and_le_right ?_
  rw [BitVec.toNat_ofInt]
  have:IntKind.i64.bits=64:=rfl
  rw [this]
  omega
 unfold dg
 rw [ew (gl (by omega) (by omega))]
 omega
theorem kJ (a:Int) {b:Nat}:∃ v,sr a (b:Int)=some v:=by unfold sr;rw [if_pos (by omega)];exact ⟨_,rfl⟩
abbrev d9 (a:List Int):Prop:=a.length≤1048576∧∀ v∈a,0≤v∧v≤255
def bP (a:List Int) (p:Int):Prop:=0≤p∧p≤(a.length:Int)
section
variable {N:Nat}
theorem nJ (a:List Int) (ha:d9 a):∀ (m i k:Nat) (h:Int),i+m=4000→m<k→0≤h→h≤1073741823→∃ v,dB N k a h (i:Int)=some v:=by
 intro m
 induction m with
 | zero =>
  intro i k h hi hk _ _
  obtain ⟨k,rfl⟩:∃ g,k=g+1:=⟨k-1,by omega⟩
  rw [dB,decide_eq_false (show ¬ (i:Int)<4000 by omega)]
  cases decide ((i:Int)<(a.length:Int)) <;> exact ⟨_,rfl⟩
 | succ m ih =>
  intro i k h hi hk h0 h1
  obtain ⟨k,rfl⟩:∃ g,k=g+1:=⟨k-1,by omega⟩
  rw [dB]
  by_cases hl:i<a.length
  ·have hb:=ha.2 _ (List.getElem_mem hl)
   rw [dlt hl,cond_true,decide_eq_true (show (i:Int)<4000 by omega),cond_true,d7 (by omega) (by omega),bs,aH hl,bs,ew (gl (by omega) (by omega)),dP (by omega) (by omega),bs,dP (by omega) (by omega),bs,ad1 (by omega),bs]
   have hi':=jB (h*131+a[i]+7) (m:=1073741823) (by decide)
   exact ih (i+1) k _ (by omega) (by omega) hi'.1 hi'.2
  ·rw [dge hl,cond_false];exact ⟨_,rfl⟩
theorem kW (hN:1073741824≤N) {a:List Int} (ha:d9 a):∃ h,eY N a=some (0,h):=by
 have hl:=ha.1
 obtain ⟨v,hv⟩:=nJ (N:=N) a ha 4000 0 N (10101+(a.length:Int)) (by omega) (by omega) (by omega) (by omega)
 unfold eY
 rw [dP (by omega) (by omega),bs]
 have hv':dB N N a (10101+(a.length:Int)) 0=some v:=hv
 rw [hv',bs]
 exact ⟨_,rfl⟩
theorem fj {a:List Int} (ha:d9 a) {p h:Int} (hc:bP a p):∃ x q g,dl N a p h=some (x,q,g)∧0≤x∧x≤255∧bP a q:=by
 have hl:=ha.1
 have h0:=hc.1;have h1:=hc.2
 unfold dl
 obtain ⟨x1,e1⟩:=kJ (IntKind.i64.wrap ((IntKind.i64.wrap (h*6364136223846793005))+1442695040888963407)) (b:=33)
 obtain ⟨x2,e2⟩:=kJ (IntKind.i64.wrap ((IntKind.i64.wrap (h*6364136223846793005))+1442695040888963407)) (b:=45)
 have e1':sr (IntKind.i64.wrap ((IntKind.i64.wrap (h*6364136223846793005))+1442695040888963407)) 33=some x1:=e1
 have e2':sr (IntKind.i64.wrap ((IntKind.i64.wrap (h*6364136223846793005))+1442695040888963407)) 45=some x2:=e2
 rw [e1',bs,e2',bs]
 by_cases hp:p<(a.length:Int)
 ·rw [decide_eq_true hp,cond_true,iU h0 hp,bs]
  have hb:=jB (IntKind.i64.wrap ((dg (eR x1 x2) 255)+(IntKind.i64.wrap a[p.toNat]))) (m:=255) (by decide)
  refine ⟨_,_,_,rfl,hb.1,hb.2,?_⟩
  rw [ew (gl (by omega) (by omega))]
  exact ⟨by omega,by omega⟩
 ·rw [decide_eq_false hp,cond_false]
  have hb:=jB (eR x1 x2) (m:=255) (by decide)
  exact ⟨_,_,_,rfl,hb.1,hb.2,hc⟩
theorem bR {a:List Int} (ha:d9 a) {p h n:Int} (hc:bP a p):∃ x q g,bf N a p h n=some (x,q,g)∧0≤x∧(0<n→x<n)∧(n≤0→x=0)∧bP a q:=by
 unfold bf
 by_cases h0:n≤0
 ·rw [decide_eq_true h0,cond_true]
  exact ⟨_,_,_,rfl,Int.le_refl _,fun h=>by omega,fun _=>rfl,hc⟩
 ·rw [decide_eq_false h0,cond_false]
  by_cases h1:n≤256
  ·obtain ⟨x,q,g,e,b0,b1,hc'⟩:=fj (N:=N) ha (h:=h) hc
   rw [decide_eq_true h1,cond_true,e,bs,j6 (by omega),bs]
   have:=jt b0 (show 0<n by omega)
   exact ⟨_,_,_,rfl,this.1,fun _=>this.2,fun h=>by omega,hc'⟩
  ·rw [decide_eq_false h1,cond_false]
   obtain ⟨x,q,g,e,b0,b1,hc1⟩:=fj (N:=N) ha (h:=h) hc
   rw [e,bs]
   obtain ⟨y,q2,g2,e2,c0,c1,hc2⟩:=fj (N:=N) ha (h:=g) hc1
   dsimp only
   rw [e2,bs]
   obtain ⟨z,q3,g3,e3,d0,d1,hc3⟩:=fj (N:=N) ha (h:=g2) hc2
   dsimp only
   rw [e3,bs]
   obtain ⟨w,q4,g4,e4,f0,f1,hc4⟩:=fj (N:=N) ha (h:=g3) hc3
   dsimp only
   rw [e4,bs]
   dsimp only
   rw [d7 (by omega) (by omega),bs,d7 (by omega) (by omega),bs,dP (by omega) (by omega),bs,d7 (by omega) (by omega),bs,dP (by omega) (by omega),bs,dP (by omega) (by omega),bs,j6 (by omega),bs]
   have:=jt (show 0≤x*16777216+y*65536+z*256+w by omega) (show 0<n by omega)
   exact ⟨_,_,_,rfl,this.1,fun _=>this.2,fun h=>by omega,hc4⟩
theorem cj {a l:List Int} (ha:d9 a) {p h:Int} (hc:bP a p) (hl:0<l.length):∃ x q g,aZ N a p h l=some (x,q,g)∧x∈l∧bP a q:=by
 obtain ⟨x,q,g,e,b0,b1,_,hc'⟩:=bR (N:=N) ha (h:=h) (n:=(l.length:Int)) hc
 have b2:=b1 (by omega)
 unfold aZ
 rw [e,bs]
 dsimp only
 rw [iU b0 b2,bs]
 exact ⟨_,_,_,rfl,List.getElem_mem _,hc'⟩
end
abbrev jK:=List (List Int)
section
variable {N:Nat}
def mO (r:Int × jK):Prop:=(-1≤r.1∧r.1≤6)∧r.2.length≤7∧∀ w∈r.2,w.length≤6∧∀ v∈w,-1≤v∧v≤100
end
def jz (a b:List eF):Prop:=∃ t,b=a++t
theorem jz.trans {a b c:List eF} (h:jz a b) (k:jz b c):jz a c:=by
 obtain ⟨t,rfl⟩:=h;obtain ⟨u,rfl⟩:=k;exact ⟨t++u,by simp⟩
theorem jz.len {a b:List eF} (h:jz a b):a.length≤b.length:=by
 obtain ⟨t,rfl⟩:=h;simp
structure QFor (ts:List f7) (n:Nat) (atoms:List bz) (order:List Int):Prop where
 n1:1≤n
 n5:n≤5
 ol:order.length=n
 os:eO order n=true
 a1:1≤atoms.length
 a4:atoms.length≤4
 al:∀ a∈atoms,a.2.length≤5∧1≤a.2.length∧∀ v∈a.2,0≤v∧v<n
 af:∀ a∈atoms,(mL ts a.1).2=true∧(mL ts a.1).1.1=(a.2.length:Int)
 cov:∀ v:Int,0≤v→v<n→∃ a∈atoms,v∈a.2
abbrev ld (xs:List Int):Prop:=xs.Pairwise (·<·)
abbrev Nxt:=List Int→List Int × Int
structure NxtOk (f:Nxt):Prop where
 len:∀ p,(f p).1.length≤16
 asc:∀ p,ld (f p).1
 val:∀ p,∀ v∈(f p).1,0≤v∧v≤99
 st0:∀ p,0≤(f p).2
 st1:∀ p,(f p).2≤1000
def k9 (Ls:jK) (A:List Nat) (k:Nat):Int:=(Ls.getD k []).getD (A.getD k 0) 0
structure LInv (Ls:jK) (A:List Nat) (most:Int) (out:List Int) (s:Nat):Prop where
 pos:0<Ls.length
 len:A.length=Ls.length
 asc:∀ l∈Ls,ld l
 lt:∀ k,k<Ls.length→A.getD k 0<(Ls.getD k []).length
 cyc:∀ i j,i≤j→j<Ls.length→k9 Ls A ((s+i) % Ls.length)≤k9 Ls A ((s+j) % Ls.length)
 top:k9 Ls A ((s+(Ls.length-1)) % Ls.length)=most
 oasc:ld out
 olt:∀ x∈out,x<most
 ocom:∀ x∈out,∀ l∈Ls,x∈l
 all:∀ x,(∀ l∈Ls,x∈l)→x∈out∨∀ k,k<Ls.length→k9 Ls A k≤x
def oQ (l:List Int):Int:=l.getD 0 0
def hdI (ls:jK) (j:Int):Int:=oQ (ls.getD j.toNat [])
def leI (a b:Int):Prop:=a≤b
structure OrdOk (ls:jK) (O:List Int) (i:Nat):Prop where
 len:O.length=i
 nd:O.Nodup
 bd:∀ j∈O,0≤j∧j<i
 so:(O.map (hdI ls)).Pairwise leI
def oe (ns:List eF):Nat→Int→Int
 | 0,_=>0
 | f+1,nd=>if nd=0 then 0 else oe ns f ((ns.getD nd.toNat ([],[])).2.getD 0 0)+1
def dep (ns:List eF) (nd:Int):Int:=oe ns ns.length nd
structure NodeOk (ns:List eF) (i:Nat):Prop where
 lens:(ns.getD i ([],[])).1.length=(ns.getD i ([],[])).2.length
 vals:gA (ns.getD i ([],[])).1=true
 asc:ld (ns.getD i ([],[])).1
 ne:(ns.getD i ([],[])).1≠[]
 chs:∀ c∈(ns.getD i ([],[])).2,dep ns c=dep ns ((ns.getD i ([],[])).2.getD 0 0)
 new:∀ j,1≤j→j<i→ns.getD j ([],[])≠ns.getD i ([],[])
abbrev gk:=Int × List bz × List Int
def QGd (q:gk):Prop:=(1≤q.1∧q.1≤5)∧(1≤q.2.1.length∧q.2.1.length≤4)∧(∀ a∈q.2.1,a.1.size≤4∧1≤a.2.length∧a.2.length≤5)∧q.2.2.length≤5
def QSm (q:gk):Prop:=(0≤q.1∧q.1≤6)∧q.2.1.length≤5∧(∀ a∈q.2.1,a.1.size≤4∧a.2.length≤5)∧q.2.2.length≤6
theorem QGd.sm {q:gk} (h:QGd q):QSm q:=⟨⟨by have:=h.1;omega,by have:=h.1;omega⟩,by have:=h.2.1;omega,fun a ha=>⟨(h.2.2.1 a ha).1,(h.2.2.1 a ha).2.2⟩,by have:=h.2.2.2;omega⟩
theorem QSm.atoms {q:gk} (h:QSm q):dT q.2.1:=⟨by have:=h.2.1;omega,fun a ha=>⟨by have:=(h.2.2.1 a ha).1;omega,by have:=(h.2.2.1 a ha).2;omega,fun _ _=>trivial⟩⟩
theorem QSm.out {q:gk} (h:QSm q):okI q.2.2:=⟨by have:=h.2.2.2;omega,fun _ _=>trivial⟩
section
variable {N:Nat}
abbrev md:List ByteArray:=[(⟨#[40,88,89,90,41,61,114,40,88,89,41,44,115,40,89,90,41,44,116,40,90,88,41]⟩:ByteArray),(⟨#[40,88,89,90,85,41,61,114,40,88,89,41,44,115,40,89,90,41,44,116,40,90,85,41,44,117,40,85,88,41]⟩:ByteArray),(⟨#[40,88,89,90,41,61,114,40,88,89,41,44,115,40,89,90,41]⟩:ByteArray),(⟨#[40,88,41,61,114,40,88,89,41,44,115,40,89,90,41,44,116,40,90,85,41]⟩:ByteArray),(⟨#[40,88,89,90,41,61,118,40,88,89,90,41,44,114,40,88,89,41]⟩:ByteArray),(⟨#[40,88,89,41,61,114,40,88,89,41,44,114,40,89,88,41]⟩:ByteArray),(⟨#[40,88,89,90,85,41,61,118,40,88,89,90,41,44,115,40,90,85,41,44,116,40,85,88,41]⟩:ByteArray),(⟨#[40,88,41,61,114,40,88,88,41]⟩:ByteArray),(⟨#[40,88,89,41,61,114,40,88,90,41,44,115,40,90,89,41,44,114,40,88,85,41,44,115,40,85,89,41]⟩:ByteArray),(⟨#[40,41,61,114,40,88,89,41,44,115,40,89,88,41]⟩:ByteArray),(⟨#[40,88,89,90,85,86,41,61,114,40,88,89,41,44,115,40,89,90,41,44,116,40,90,85,41,44,117,40,85,86,41]⟩:ByteArray)]
theorem nm (M:Nat):aX (M+100) (⟨#[40,88,89,90,41,61,114,40,88,89,41,44,115,40,89,90,41,44,116,40,90,88,41]⟩:ByteArray)=some ((3,[((⟨#[114]⟩:ByteArray),[0,1]),((⟨#[115]⟩:ByteArray),[1,2]),((⟨#[116]⟩:ByteArray),[2,0])],[0,1,2]),true):=by kernel_rfl
theorem mV (M:Nat):aX (M+100) (⟨#[40,88,89,90,85,41,61,114,40,88,89,41,44,115,40,89,90,41,44,116,40,90,85,41,44,117,40,85,88,41]⟩:ByteArray)=some ((4,[((⟨#[114]⟩:ByteArray),[0,1]),((⟨#[115]⟩:ByteArray),[1,2]),((⟨#[116]⟩:ByteArray),[2,3]),((⟨#[117]⟩:ByteArray),[3,0])],[0,1,2,3]),true):=by kernel_rfl
theorem m8 (M:Nat):aX (M+100) (⟨#[40,88,89,90,41,61,114,40,88,89,41,44,115,40,89,90,41]⟩:ByteArray)=some ((3,[((⟨#[114]⟩:ByteArray),[0,1]),((⟨#[115]⟩:ByteArray),[1,2])],[0,1,2]),true):=by kernel_rfl
theorem mY (M:Nat):aX (M+100) (⟨#[40,88,41,61,114,40,88,89,41,44,115,40,89,90,41,44,116,40,90,85,41]⟩:ByteArray)=some ((4,[((⟨#[114]⟩:ByteArray),[0,1]),((⟨#[115]⟩:ByteArray),[1,2]),((⟨#[116]⟩:ByteArray),[2,3])],[0]),true):=by kernel_rfl
theorem nc (M:Nat):aX (M+100) (⟨#[40,88,89,90,41,61,118,40,88,89,90,41,44,114,40,88,89,41]⟩:ByteArray)=some ((3,[((⟨#[118]⟩:ByteArray),[0,1,2]),((⟨#[114]⟩:ByteArray),[0,1])],[0,1,2]),true):=by kernel_rfl
theorem np (M:Nat):aX (M+100) (⟨#[40,88,89,41,61,114,40,88,89,41,44,114,40,89,88,41]⟩:ByteArray)=some ((2,[((⟨#[114]⟩:ByteArray),[0,1]),((⟨#[114]⟩:ByteArray),[1,0])],[0,1]),true):=by kernel_rfl
theorem mZ (M:Nat):aX (M+100) (⟨#[40,88,89,90,85,41,61,118,40,88,89,90,41,44,115,40,90,85,41,44,116,40,85,88,41]⟩:ByteArray)=some ((4,[((⟨#[118]⟩:ByteArray),[0,1,2]),((⟨#[115]⟩:ByteArray),[2,3]),((⟨#[116]⟩:ByteArray),[3,0])],[0,1,2,3]),true):=by kernel_rfl
theorem m9 (M:Nat):aX (M+100) (⟨#[40,88,41,61,114,40,88,88,41]⟩:ByteArray)=some ((1,[((⟨#[114]⟩:ByteArray),[0,0])],[0]),true):=by kernel_rfl
theorem nA (M:Nat):aX (M+100) (⟨#[40,88,89,41,61,114,40,88,90,41,44,115,40,90,89,41,44,114,40,88,85,41,44,115,40,85,89,41]⟩:ByteArray)=some ((4,[((⟨#[114]⟩:ByteArray),[0,2]),((⟨#[115]⟩:ByteArray),[2,1]),((⟨#[114]⟩:ByteArray),[0,3]),((⟨#[115]⟩:ByteArray),[3,1])],[0,1]),true):=by kernel_rfl
theorem m4 (M:Nat):aX (M+100) (⟨#[40,41,61,114,40,88,89,41,44,115,40,89,88,41]⟩:ByteArray)=some ((2,[((⟨#[114]⟩:ByteArray),[0,1]),((⟨#[115]⟩:ByteArray),[1,0])],[]),true):=by kernel_rfl
theorem mn (M:Nat):aX (M+100) (⟨#[40,88,89,90,85,86,41,61,114,40,88,89,41,44,115,40,89,90,41,44,116,40,90,85,41,44,117,40,85,86,41]⟩:ByteArray)=some ((5,[((⟨#[114]⟩:ByteArray),[0,1]),((⟨#[115]⟩:ByteArray),[1,2]),((⟨#[116]⟩:ByteArray),[2,3]),((⟨#[117]⟩:ByteArray),[3,4])],[0,1,2,3,4]),true):=by kernel_rfl
theorem kB (hN:1073741824≤N):∀ s∈md,∃ q,aX N s=some (q,true)∧QGd q:=by
 obtain ⟨M,rfl⟩:∃ M,N=M+100:=⟨N-100,by omega⟩
 intro s hs
 simp only [List.mem_cons,List.not_mem_nil,or_false] at hs
 rcases hs with rfl | rfl | rfl | rfl | rfl | rfl | rfl | rfl | rfl | rfl | rfl
 ·exact ⟨_,nm M,by unfold QGd;decide⟩
 ·exact ⟨_,mV M,by unfold QGd;decide⟩
 ·exact ⟨_,m8 M,by unfold QGd;decide⟩
 ·exact ⟨_,mY M,by unfold QGd;decide⟩
 ·exact ⟨_,nc M,by unfold QGd;decide⟩
 ·exact ⟨_,np M,by unfold QGd;decide⟩
 ·exact ⟨_,mZ M,by unfold QGd;decide⟩
 ·exact ⟨_,m9 M,by unfold QGd;decide⟩
 ·exact ⟨_,nA M,by unfold QGd;decide⟩
 ·exact ⟨_,m4 M,by unfold QGd;decide⟩
 ·exact ⟨_,mn M,by unfold QGd;decide⟩
theorem iF {a:List Int} {l:List ByteArray} (ha:d9 a) {p h:Int} (hc:bP a p) (hl:0<l.length):∃ x q g,eB N a p h l=some (x,q,g)∧x∈l∧bP a q:=by
 obtain ⟨x,q,g,e,b0,b1,_,hc'⟩:=bR (N:=N) ha (h:=h) (n:=(l.length:Int)) hc
 have b2:=b1 (by omega)
 unfold eB
 rw [e,bs]
 dsimp only
 rw [iU b0 b2,bs]
 exact ⟨_,_,_,rfl,List.getElem_mem _,hc'⟩
theorem fT {a:List Int} (ha:d9 a) {p h n:Int} (hc:bP a p):∃ b q g,dI N a p h n=some (b,q,g)∧bP a q:=by
 obtain ⟨x,q,g,e,_,_,_,hc'⟩:=bR (N:=N) ha (h:=h) (n:=n) hc
 unfold dI
 rw [e,bs]
 exact ⟨_,_,_,rfl,hc'⟩
theorem kU {a:List Int} (ha:d9 a) {z1 z7 z9 n:Int} {z2 z5 z8:List bz} {z3 z6 z10:List Int} {s:ByteArray}:∀ (d k:Nat) (acc:List Int) (p h m:Int),bP a p→m.toNat=d→m≤10→d<k→acc.length+d≤100 →
  ∃ q g vs m',dw N k a p h z1 z2 z3 z7 z5 z6 n z8 z10 z9 s acc m=some (q,g,vs,m')∧bP a q∧vs.length=acc.length+d:=by
 intro d
 induction d with
 | zero =>
  intro k acc p h m hc hd _ hk _
  obtain ⟨k,rfl⟩:∃ g,k=g+1:=⟨k-1,by omega⟩
  rw [dw,decide_eq_false (show ¬ 0<m by omega),cond_false]
  exact ⟨_,_,_,_,rfl,hc,by omega⟩
 | succ d ih =>
  intro k acc p h m hc hd hm hk hl
  obtain ⟨k,rfl⟩:∃ g,k=g+1:=⟨k-1,by omega⟩
  obtain ⟨x,q,g,e,_,_,_,hc'⟩:=bR (N:=N) ha (h:=h) (n:=n) hc
  rw [dw,decide_eq_true (show 0<m by omega),cond_true,e,bs]
  dsimp only
  rw [de (by decide) (by simp;omega),bs,dk (by omega) (by omega),bs]
  obtain ⟨q',g',vs,m',e',k1,k2⟩:=ih k (acc++[x]) q g (m-1) hc' (by omega) (by omega) (by omega) (by simp;omega)
  exact ⟨q',g',vs,m',e',k1,by simp at k2;omega⟩
theorem li (hN:1073741824≤N) {a:List Int} (ha:d9 a) {z1 z4 n:Int} {z2 z5:List bz} {z3 z6 z7:List Int}:∀ (d k:Nat) (acc:List bz) (p h m:Int),bP a p→m.toNat=d→m≤10→d<k→acc.length+d≤100→(∀ x∈acc,x.1.size≤4∧1≤x.2.length∧x.2.length≤5) →
  ∃ q g ats m',dx N k a p h z1 z2 z3 z4 z5 z6 n acc z7 m=some (q,g,ats,m')∧bP a q∧ats.length=acc.length+d∧∀ x∈ats,x.1.size≤4∧1≤x.2.length∧x.2.length≤5:=by
 intro d
 induction d with
 | zero =>
  intro k acc p h m hc hd _ hk _ hx
  obtain ⟨k,rfl⟩:∃ g,k=g+1:=⟨k-1,by omega⟩
  rw [dx,decide_eq_false (show ¬ 0<m by omega),cond_false]
  exact ⟨_,_,_,_,rfl,hc,by omega,hx⟩
 | succ d ih =>
  intro k acc p h m hc hd hm hk hl hx
  obtain ⟨k,rfl⟩:∃ g,k=g+1:=⟨k-1,by omega⟩
  obtain ⟨x,q,g,e,b0,b1,_,hc'⟩:=bR (N:=N) ha (h:=h) (n:=5) hc
  have b1:=b1 (by decide)
  rw [dx,decide_eq_true (show 0<m by omega),cond_true,e,bs]
  dsimp only
  have hi:x<(([(⟨#[114]⟩:ByteArray),(⟨#[115]⟩:ByteArray),(⟨#[116]⟩:ByteArray),(⟨#[117]⟩:ByteArray),(⟨#[118]⟩:ByteArray)]:List ByteArray).length:Int):=b1
  rw [iU b0 hi,bs,j5 b0 (by decide) (by omega),bs]
  have ht:0≤x.tdiv 4∧x.tdiv 4≤1:=by
   rw [Int.tdiv_eq_ediv_of_nonneg b0];omega
  rw [dP (by omega) (by omega),bs]
  have hs:∀ s∈([(⟨#[114]⟩:ByteArray),(⟨#[115]⟩:ByteArray),(⟨#[116]⟩:ByteArray),(⟨#[117]⟩:ByteArray),(⟨#[118]⟩:ByteArray)]:List ByteArray),s.size≤4:=by decide
  have hs':=hs _ (List.getElem_mem (l:=([(⟨#[114]⟩:ByteArray),(⟨#[115]⟩:ByteArray),(⟨#[116]⟩:ByteArray),(⟨#[117]⟩:ByteArray),(⟨#[118]⟩:ByteArray)]:List ByteArray)) (n:=x.toNat) (by omega))
  obtain ⟨q',g',vs,m',e',k1,k2⟩:=kU (N:=N) ha (z1:=z1) (z2:=z2) (z3:=z3) (z7:=z4) (z5:=z5) (z6:=z6) (n:=n) (z8:=acc) (z10:=z7) (z9:=m) (s:=([(⟨#[114]⟩:ByteArray),(⟨#[115]⟩:ByteArray),(⟨#[116]⟩:ByteArray),(⟨#[117]⟩:ByteArray),(⟨#[118]⟩:ByteArray)]:List ByteArray)[x.toNat]) (2+x.tdiv 4).toNat N [] q g (2+x.tdiv 4) hc' rfl (by omega) (by omega) (by simp;omega)
  rw [e',bs]
  unfold lpB
  dsimp only
  rw [de (by decide) (by simp;omega),bs,dk (by omega) (by omega),bs]
  simp only [List.length_nil,Nat.zero_add] at k2
  obtain ⟨q2,g2,ats,m2,e2,j1,j2,j3⟩:=ih k (acc++[(_,vs)]) q' g' (m-1) k1 (by omega) (by omega) (by omega) (by simp;omega) (fun y hy=>by
   rcases List.mem_append.1 hy with h | h
   ·exact hx y h
   ·rw [List.mem_singleton] at h;rw [h]
    exact ⟨hs',by show 1≤vs.length;omega,by show vs.length≤5;omega⟩)
  exact ⟨q2,g2,ats,m2,e2,j1,by simp at j2;omega,j3⟩
theorem k6 {a:List Int} (ha:d9 a) {z1 z4:Int} {n:Nat} {z2 z5 z8:List bz} {z3 z6:List Int} (hn:n≤10):∀ (d k:Nat) (acc:List Int) (p h:Int) (i:Nat),bP a p→i+d=n→d<k→acc.length≤i →
  ∃ q g out v,cA N k a p h z1 z2 z3 z4 z5 z6 (n:Int) z8 acc (i:Int)=some (q,g,out,v)∧bP a q∧out.length≤n:=by
 intro d
 induction d with
 | zero =>
  intro k acc p h i hc hd hk hl
  obtain ⟨k,rfl⟩:∃ g,k=g+1:=⟨k-1,by omega⟩
  rw [cA,decide_eq_false (show ¬ (i:Int)<(n:Int) by omega),cond_false]
  exact ⟨_,_,_,_,rfl,hc,by omega⟩
 | succ d ih =>
  intro k acc p h i hc hd hk hl
  obtain ⟨k,rfl⟩:∃ g,k=g+1:=⟨k-1,by omega⟩
  obtain ⟨b,q,g,e,hc'⟩:=fT (N:=N) ha (h:=h) (n:=2) hc
  rw [cA,decide_eq_true (show (i:Int)<(n:Int) by omega),cond_true,e,bs]
  dsimp only
  cases b with
  | true =>
   rw [cond_true,de (by decide) (by simp;omega),bs,ad1 (by omega),bs]
   exact ih k _ q g (i+1) hc' (by omega) (by omega) (by simp;omega)
  | false =>
   rw [cond_false,ad1 (by omega),bs]
   exact ih k _ q g (i+1) hc' (by omega) (by omega) (by omega)
theorem kl (hN:1073741824≤N) {a:List Int} (ha:d9 a) {p h:Int} (hc:bP a p):∃ r q g,eK N a p h=some (r,q,g)∧bP a q∧QGd r:=by
 unfold eK
 obtain ⟨s,q,g,e,hs,hc1⟩:=iF (N:=N) ha (h:=h) (l:=md) hc (by decide)
 obtain ⟨r,er,hr⟩:=kB hN s hs
 rw [e,bs]
 dsimp only
 rw [er,bs]
 obtain ⟨b,q2,g2,e2,hc2⟩:=fT (N:=N) ha (h:=g) (n:=3) hc1
 rw [e2,bs]
 dsimp only
 cases b with
 | false=>rw [cond_false];exact ⟨_,_,_,rfl,hc2,hr⟩
 | true =>
  obtain ⟨x,q3,g3,e3,b0,b1,_,hc3⟩:=bR (N:=N) ha (h:=g2) (n:=4) hc2
  have b1:=b1 (by decide)
  rw [cond_true,e3,bs]
  dsimp only
  obtain ⟨y,q4,g4,e4,c0,c1,_,hc4⟩:=bR (N:=N) ha (h:=g3) (n:=4) hc3
  have c1:=c1 (by decide)
  rw [dP (by omega) (by omega),bs,e4,bs]
  dsimp only
  rw [dP (by omega) (by omega),bs]
  obtain ⟨q5,g5,ats,m5,e5,hc5,l5,a5⟩:=li hN ha (z1:=0) (z2:=[]) (z3:=[]) (z4:=r.1) (z5:=r.2.1) (z6:=r.2.2) (n:=1+x) (z7:=[]) (1+y).toNat N [] q4 g4 (1+y) hc4 rfl (by omega) (by omega) (by simp;omega) (by simp)
  rw [e5,bs]
  unfold lpB
  dsimp only
  have hx:((x.toNat+1:Nat):Int)=1+x:=by omega
  obtain ⟨q6,g6,out,v6,e6,hc6,l6⟩:=k6 (N:=N) ha (z1:=0) (z2:=[]) (z3:=[]) (z4:=r.1) (z5:=r.2.1) (z6:=r.2.2) (n:=x.toNat+1) (z8:=ats) (by omega) (x.toNat+1) N [] q5 g5 0 hc5 (by omega) (by omega) (by simp)
  rw [hx] at e6
  have e6':cA N N a q5 g5 0 [] [] r.1 r.2.1 r.2.2 (1+x) ats [] 0=some (q6,g6,out,v6):=e6
  simp only [List.length_nil,Nat.zero_add] at l5
  have hq:QGd (1+x,ats,out):=⟨⟨by show 1≤1+x;omega,by show 1+x≤5;omega⟩,⟨by show 1≤ats.length;omega,by show ats.length≤4;omega⟩,a5,by show out.length≤5;omega⟩
  rw [e6',bs]
  dsimp only
  rw [eu hN (QSm.atoms hq.sm) (QSm.out hq.sm),bs]
  cases c9 (1+x) ats out with
  | true=>rw [cond_true];exact ⟨_,_,_,rfl,hc6,hq⟩
  | false=>rw [cond_false];exact ⟨_,_,_,rfl,hc6,hr⟩
theorem k7 (hN:1073741824≤N) {a:List Int} (ha:d9 a) {p h:Int} (hc:bP a p):∃ r q g,eV N a p h=some (r,q,g)∧bP a q∧QSm r:=by
 obtain ⟨⟨n,ats,out⟩,q,g,e,hc1,hr⟩:=kl hN ha (h:=h) hc
 obtain ⟨x,q2,g2,e2,_,_,_,hc2⟩:=bR (N:=N) ha (h:=g) (n:=14) hc1
 unfold eV
 rw [e,bs]
 dsimp only
 rw [e2,bs]
 dsimp only
 have hn:=hr.1;have ha1:=hr.2.1;have ha2:=hr.2.2.1;have ho:=hr.2.2.2
 dsimp only at hn ha1 ha2 ho
 have hsm:=hr.sm
 cases h0:(x == 0) with
 | true =>
  rw [cond_true,dP (by omega) (by omega),bs]
  obtain ⟨y,q3,g3,e3,hy,hc3⟩:=cj (N:=N) ha (h:=g2) (l:=[0,6,n+1]) hc2 (Nat.zero_lt_succ _)
  rw [e3,bs]
  refine ⟨_,_,_,rfl,hc3,⟨?_,hsm.2⟩⟩
  simp only [List.mem_cons,List.not_mem_nil,or_false] at hy
  show 0≤y∧y≤6
  omega
 | false =>
 rw [cond_false]
 cases h1:(x == 1) with
 | true =>
  rw [cond_true]
  obtain ⟨y,q3,g3,e3,hy,hc3⟩:=iF (N:=N) ha (h:=g2) (l:=[ByteArray.empty,(⟨#[119]⟩:ByteArray),(⟨#[114]⟩:ByteArray)]) hc2 (by decide)
  have hys:∀ s∈[ByteArray.empty,(⟨#[119]⟩:ByteArray),(⟨#[114]⟩:ByteArray)],s.size≤4:=by decide
  rw [e3,bs,de (by decide) (by simp;omega),bs]
  refine ⟨_,_,_,rfl,hc3,hsm.1,by show (ats++[_]).length≤5;simp;omega,fun b hb=>?_,hsm.2.2.2⟩
  rcases List.mem_append.1 hb with h | h
  ·exact hsm.2.2.1 b h
  ·rw [List.mem_singleton] at h;rw [h];exact ⟨hys y hy,by show ([0]:List Int).length≤5;decide⟩
 | false =>
 rw [cond_false]
 cases h2:(x == 2) with
 | true =>
  rw [cond_true]
  obtain ⟨y,q3,g3,e3,b0,b1,_,hc3⟩:=bR (N:=N) ha (h:=g2) (n:=6) hc2
  have b1:=b1 (by decide)
  rw [e3,bs]
  dsimp only
  rw [dk (by omega) (by omega),bs,de (by decide) (by simp;omega),bs]
  exact ⟨_,_,_,rfl,hc3,hsm.1,hsm.2.1,hsm.2.2.1,by show (out++[_]).length≤6;simp;omega⟩
 | false =>
 rw [cond_false]
 have hl:0<ats.length:=by omega
 have i0:ix ats 0=some ats[0]:=aH hl
 have hm0:=ha2 _ (List.getElem_mem hl)
 cases h3:(x == 3) with
 | true =>
  have s0:sto ats 0 (ats[0].1,[])=some (ats.set 0 (ats[0].1,[])):=fC hl
  rw [cond_true,i0,bs,s0,bs]
  refine ⟨_,_,_,rfl,hc2,hsm.1,by show (ats.set 0 _).length≤5;rw [List.length_set];omega,fun b hb=>?_,hsm.2.2.2⟩
  rcases List.mem_or_eq_of_mem_set hb with h | h
  ·exact hsm.2.2.1 b h
  ·rw [h];exact ⟨hm0.1,Nat.zero_le _⟩
 | false =>
 rw [cond_false]
 cases h4:(x == 4) with
 | true =>
  obtain ⟨y,q3,g3,e3,hy,hc3⟩:=cj (N:=N) ha (h:=g2) (l:=[(-1),5]) hc2 (by decide)
  have hl1:0<ats[0].2.length:=by omega
  have i1:ix ats[0].2 0=some ats[0].2[0]:=aH hl1
  have s1:sto ats[0].2 0 y=some (ats[0].2.set 0 y):=fC hl1
  have s0:sto ats 0 (ats[0].1,ats[0].2.set 0 y)=some (ats.set 0 (ats[0].1,ats[0].2.set 0 y)):=fC hl
  rw [cond_true,i0,bs,e3,bs,i1,bs,s1,bs,s0,bs]
  refine ⟨_,_,_,rfl,hc3,hsm.1,by show (ats.set 0 _).length≤5;rw [List.length_set];omega,fun b hb=>?_,hsm.2.2.2⟩
  rcases List.mem_or_eq_of_mem_set hb with h | h
  ·exact hsm.2.2.1 b h
  ·rw [h];exact ⟨hm0.1,by show (ats[0].2.set 0 y).length≤5;rw [List.length_set];exact hm0.2.2⟩
 | false =>
 rw [cond_false]
 exact ⟨_,_,_,rfl,hc2,hsm⟩
end
def TSm (t:f7):Prop:=t.1.size≤5∧t.2.2.length≤10∧∀ r∈t.2.2,r.length≤6
def DSm (ts:List f7):Prop:=ts.length≤6∧∀ t∈ts,TSm t
section
variable {N:Nat}
theorem mO.t {r:Int × jK} {s:ByteArray} (hs:s.size≤5) (k:mO r):TSm (s,r):=⟨hs,by show r.2.length≤10;have:=k.2.1;omega,fun w hw=>(k.2.2 w hw).1⟩
def JSm (ts:List f7) (r:gk) (o:List Int):Prop:=DSm ts∧QSm r∧o.length≤5
theorem JSm.o {ts:List f7} {r:gk} {o:List Int} (h:JSm ts r o):okI o:=⟨by have:=h.2.2;omega,fun _ _=>trivial⟩
theorem o1 {a:List Int}:bP a 0:=⟨Int.le_refl _,by omega⟩
end
theorem lG {a:Int} (h:0≤a):∀ n:Nat,0≤a ^ n
 | 0=>by rw [Int.pow_zero];decide
 | n+1=>by rw [Int.pow_succ];exact Int.mul_nonneg (lG h n) h
theorem iM {a b:Int} (h0:0≤a) (h:a≤b):∀ n:Nat,a ^ n≤b ^ n
 | 0=>by rw [Int.pow_zero,Int.pow_zero];decide
 | n+1=>by
  rw [Int.pow_succ,Int.pow_succ]
  exact Int.mul_le_mul (iM h0 h n) h h0 (lG (Int.le_trans h0 h) n)
section
variable {N:Nat}
theorem mP {xs:List Int} (h:vF xs=some true):Cn xs∧xs.length≤60:=by
 unfold vF at h
 cases ha:xs.all fun v=>inR v 0 9 with
 | false=>rw [ha,cond_false] at h;cases h
 | true =>
  rw [ha,cond_true] at h
  have hd:e9 xs:=fun v hv=>cp.1 ((List.all_eq_true.1 ha) v hv)
  by_cases h60:(xs.length:Int)≤60
  ·rw [decide_eq_true h60,cond_true] at h
   by_cases h0:xs.length=0
   ·exact ⟨⟨hd,.inl (List.length_eq_zero_iff.1 h0)⟩,by omega⟩
   ·rw [show ((xs.length:Int) == 0)=false by simp;simpa using h0,cond_false,dk (by omega) (by omega),bs,show (xs.length:Int)-1=((xs.length-1:Nat):Int) by omega,aH (by omega),bs] at h
    refine ⟨⟨hd,.inr ?_⟩,by omega⟩
    rw [fB (by omega)]
    simpa using Option.some.inj h
  ·rw [decide_eq_false h60,cond_false] at h;cases h
theorem nN (hN:1073741824≤N) {a b z:List Int} (ha:a.length≤1048576) (hb:b.length≤1048576) (h:bV N a b=some (z,true)):Cn z∧z.length≤60:=by
 have h':=h
 unfold bV at h'
 rw [fo hN ha,fo hN hb] at h'
 obtain ⟨x,ex,_⟩:=gh ha
 obtain ⟨y,ey,_⟩:=gh hb
 rw [ex,ey] at h'
 cases x with
 | false=>rw [bs,cond_false] at h';cases h'
 | true =>
  cases y with
  | false=>rw [bs,cond_true,bs,cond_false] at h';cases h'
  | true =>
   obtain ⟨ca,la⟩:=mP ex
   obtain ⟨cb,lb⟩:=mP ey
   obtain ⟨r,e,h1,_⟩:=kP hN ca cb la lb
   rw [h] at e
   cases e
   exact (h1 rfl).2
theorem kw (hN:1073741824≤N) {xs:List Int} {rs:List dS} {c f:Int} (hx:xs.length≤1048576) (hr:∀ v∈xs,kt v) (hrs:rs.length≤1048576) (h1:1≤c) (h2:c≤1000000) (hf:f≤9223372036854775807) (h:bN N xs rs c f=some true):bN N xs rs (c-1) f=some true:=by
 obtain ⟨⟨ws,d⟩,s1,s2,s3⟩:=i7 (N:=N) hN hrs
 obtain ⟨⟨p,pb⟩,_,p2,p3,_⟩:=jU (N:=N) hN (xs:=xs) (ks:=ws) hx (fun v hv=>(hr v hv).2)
 obtain ⟨⟨g,gb⟩,_,f2,f3,_,_⟩:=gT (N:=N) hN (n:=f) (k:=d) hf
 obtain ⟨⟨z,zb⟩,_,z2,z3⟩:=g8 (N:=N) hN (a:=p) (b:=g) p3 f3
 unfold bN at h ⊢
 rw [s2] at h ⊢
 simp only [bs] at h ⊢
 rw [decide_eq_false (by omega),cond_false] at h ⊢
 by_cases hd:d<1
 ·rw [decide_eq_true hd,cond_true] at h;cases h
 rw [decide_eq_false hd,cond_false] at h ⊢
 by_cases hd2:100<d
 ·rw [decide_eq_true hd2,cond_true] at h;cases h
 rw [decide_eq_false hd2,cond_false,mN hN hx,bs] at h ⊢
 cases hall:xs.all (fun v=>!decide (v<0)) with
 | false=>rw [hall,cond_false,h8] at h;cases h
 | true =>
  obtain ⟨dn,rfl⟩:=Int.eq_ofNat_of_zero_le (show 0≤d by omega)
  obtain ⟨⟨y,yb⟩,y1,y2,y3⟩:=kK hN (n:=c) (by omega) (by omega) (d:=dn) (by omega)
  obtain ⟨⟨x,xb⟩,x1,x2,x3⟩:=kK hN (n:=c-1) (by omega) (by omega) (d:=dn) (by omega)
  rw [hall,cond_true,gF,y1,bs,p2,bs,f2,bs,z2,bs] at h
  rw [cond_true,gF,x1,bs,p2,bs,f2,bs,z2,bs]
  dsimp only at h y2 y3 x2 x3 ⊢
  cases yb with
  | false=>rw [cond_false] at h;cases h
  | true =>
   rw [cond_true] at h
   cases pb with
   | false=>rw [cond_false] at h;cases h
   | true =>
    rw [cond_true] at h
    cases gb with
    | false=>rw [cond_false] at h;cases h
    | true =>
     rw [cond_true] at h
     cases zb with
     | false=>rw [cond_false] at h;cases h
     | true =>
      rw [cond_true] at h
      obtain ⟨cz,lz⟩:=nN hN p3 f3 z2
      obtain ⟨vy,cy,ly⟩:=y2 rfl
      have hxb:xb=true:=x3.2 fun j hj=>Int.lt_of_le_of_lt (iM (by omega) (by omega) _) (y3.1 rfl j hj)
      subst hxb
      obtain ⟨vx,cx,lx⟩:=x2 rfl
      obtain ⟨q,q1,q2⟩:=kM hN cy cz ly lz
      obtain ⟨q',q1',q2'⟩:=kM hN cx cz lx lz
      rw [q1,bs] at h
      have hq:q≤0:=by simpa using Option.some.inj h
      have h5:=q2.1 hq
      have h6:=iM (a:=c-1) (b:=c) (by omega) (by omega) dn
      rw [cond_true,cond_true,cond_true,cond_true,q1',bs,decide_eq_true (q2'.2 (by omega))]
theorem lF (hN:1073741824≤N) {n:Int} {atoms:List bz} {out xs:List Int} {rs:List dS} {c:Int} (ha:dT atoms) (ho:okI out) (hx:xs.length≤1048576) (hr:∀ v∈xs,kt v) (hrs:rs.length≤1048576) (h1:1≤c) (h2:c≤1000000) (h:bi N n atoms out xs rs c=some true):bi N n atoms out xs rs (c-1)=some true:=by
 unfold bi at h ⊢
 rw [ep hN ha ho,bs] at h ⊢
 cases hq:c9 n atoms out with
 | false=>rw [hq,cond_false] at h;cases h
 | true =>
  rw [hq,cond_true,cX hN ha ho,bs] at h
  rw [cond_true,cX hN ha ho,bs]
  cases hw:bN N xs rs c (fU n atoms out 1) with
  | none=>rw [hw] at h;cases h
  | some b =>
   rw [hw,bs] at h
   have:b=true:=by simpa using Option.some.inj h
   subst this
   rw [kw hN hx hr hrs h1 h2 kd.2 hw,bs]
theorem nw {a b:Int} (hb:0<b) (h1:-1000000000≤a) (h2:a≤1000000000):∃ q,qt a b=some q∧-1000000000≤q∧q≤1000000000:=by
 have hbd:-1000000000≤a.tdiv b∧a.tdiv b≤1000000000:=by
  by_cases h:0≤a
  ·have:=gQ h hb;omega
  ·have:=gQ (a:=-a) (by omega) hb
   rw [Int.neg_tdiv] at this;omega
 refine ⟨a.tdiv b,?_,hbd⟩
 unfold qt
 rw [if_pos ⟨by omega,by unfold rng;simp only [Bool.and_eq_true,decide_eq_true_eq];omega⟩]
theorem fw (hN:1073741824≤N) {n d:Int} (h1:-1000000000≤n) (h2:n≤1000000000) (h3:1≤d) (h4:d≤1000000000):∃ r b,cI N n d=some (r,b)∧(-1000000000≤r.1∧r.1≤1000000000)∧(0≤r.2∧r.2≤1000000000):=by
 unfold cI
 rw [show (d == 0)=false by simp;omega,cond_false,dk (by omega) (by omega),bs,dJ,bs,show inR n (0-4000000000000000000) 4000000000000000000=true from cp.2 (by omega),cond_true,bs,dJ,bs,show inR d (0-4000000000000000000) 4000000000000000000=true from cp.2 (by omega),cond_true,decide_eq_false (by omega),cond_false,dk (by omega) (by omega),bs,iN]
 have hab:0≤imx n (0-n):=by unfold imx;split <;> omega
 obtain ⟨g,e,hg⟩:=iJ (N:=N) hN hab (by omega:0≤d) (by omega) (.inr (by omega))
 obtain ⟨q,eq,q1,q2⟩:=nw hg h1 h2
 have hd:=gQ (a:=d) (by omega) hg
 have ed:qt d g=some (d.tdiv g):=j5 (by omega) hg (by omega)
 rw [e,bs,eq,bs,ed,bs,ko]
 obtain ⟨b,eb,_⟩:=iO (N:=N) hN q (d.tdiv g)
 rw [eb,bs]
 cases b with
 | true=>exact ⟨_,_,rfl,⟨q1,q2⟩,by show 0≤d.tdiv g;omega,by show d.tdiv g≤_;omega⟩
 | false=>exact ⟨_,_,rfl,by decide,by decide⟩
theorem lc (hN:1073741824≤N) {a:List Int} (ha:d9 a) {p h:Int} (hc:bP a p):∃ r q g,fH N a p h=some (r,q,g)∧bP a q:=by
 unfold fH gc
 obtain ⟨x,q1,g1,e1,b0,b1,_,hc1⟩:=bR (N:=N) ha (h:=h) (n:=41) hc
 have b1:=b1 (by decide)
 obtain ⟨y,q2,g2,e2,c0,c1,_,hc2⟩:=bR (N:=N) ha (h:=g1) (n:=12) hc1
 have c1:=c1 (by decide)
 obtain ⟨r,b,er,r1,r2⟩:=fw hN (n:=x-20) (d:=1+y) (by omega) (by omega) (by omega) (by omega)
 obtain ⟨o,q3,g3,e3,hc3⟩:=fT (N:=N) ha (h:=g2) (n:=12) hc2
 rw [e1,bs]
 dsimp only
 rw [dk (by omega) (by omega),bs,e2,bs]
 dsimp only
 rw [dP (by omega) (by omega),bs,er,bs,e3,bs]
 have key:∀ (r:Int × Int) (q g:Int),(-1000000000≤r.1∧r.1≤1000000000)→(0≤r.2∧r.2≤1000000000)→bP a q→∃ r' q' g',((some ((r.1,r.2),q,g):Option ((Int × Int) × Int × Int)).bind fun r107=>(bf N a r107.2.1 r107.2.2 14).bind fun r116 =>
   (bif (r116.1 == 0) then (aZ N a r116.2.1 r116.2.2 ([0,(-1),1000000001]:List Int)).bind fun r125=>some ((r107.1.1,r125.1),r125.2.1,r125.2.2)
   else (bif (r116.1 == 1) then (ml 2 r107.1.2).bind fun x132=>(aZ N a r116.2.1 r116.2.2 ([1000000001,(-1000000001),x132]:List Int)).bind fun r137=>some ((r137.1,r107.1.2),r137.2.1,r137.2.2)
    else some ((r107.1.1,r107.1.2),r116.2.1,r116.2.2))))=some (r',q',g')∧bP a q':=fun r q g h1 h2 hq=>by
  obtain ⟨z,q4,g4,e4,_,_,_,hc4⟩:=bR (N:=N) ha (h:=g) (n:=14) hq
  rw [bs]
  dsimp only
  rw [e4,bs]
  dsimp only
  cases z == 0 with
  | true =>
   obtain ⟨w,q5,g5,e5,_,hc5⟩:=cj (N:=N) ha (h:=g4) hc4 (l:=[0,(-1),1000000001]) (by decide)
   rw [cond_true,e5,bs];exact ⟨_,_,_,rfl,hc5⟩
  | false =>
   rw [cond_false]
   cases z == 1 with
   | true =>
    obtain ⟨w,q5,g5,e5,_,hc5⟩:=cj (N:=N) ha (h:=g4) hc4 (l:=[1000000001,(-1000000001),2*r.2]) (by simp)
    rw [cond_true,d7 (by omega) (by omega),bs,e5,bs];exact ⟨_,_,_,rfl,hc5⟩
   | false=>rw [cond_false];exact ⟨_,_,_,rfl,hc4⟩
 cases o with
 | true =>
  dsimp only
  obtain ⟨x5,q5,g5,e5,m5,hc5⟩:=cj (N:=N) ha (h:=g3) hc3 (l:=[1000000000,(-1000000000),999999937,1]) (by decide)
  obtain ⟨x6,q6,g6,e6,m6,hc6⟩:=cj (N:=N) ha (h:=g5) hc5 (l:=[1,1000000000,999999893]) (by decide)
  have b5:-1000000000≤x5∧x5≤1000000000:=by
   simp only [List.mem_cons,List.not_mem_nil,or_false] at m5
   rcases m5 with h | h | h | h <;> omega
  have b6:1≤x6∧x6≤1000000000:=by
   simp only [List.mem_cons,List.not_mem_nil,or_false] at m6
   rcases m6 with h | h | h <;> omega
  obtain ⟨r',b',er',r1',r2'⟩:=fw hN (n:=x5) (d:=x6) b5.1 b5.2 b6.1 b6.2
  rw [cond_true,e5,bs]
  dsimp only
  rw [e6,bs]
  dsimp only
  rw [er',bs]
  exact key r' q6 g6 r1' r2' hc6
 | false =>
  dsimp only
  rw [cond_false]
  exact key r q3 g3 r1 r2 hc3
theorem jW (hN:1073741824≤N) {a:List Int} (ha:d9 a) {p h:Int} (hc:bP a p) {n:Nat} (hn:n≤1000):∃ xs q g,eA N a p h (n:Int)=some (xs,q,g)∧bP a q∧xs.length≤n∧∀ v∈xs,0≤v∧v≤16:=by
 have key:∀ (m k:Nat) (acc:List Int) (p h:Int),bP a p→acc.length+m=n→m<k→(∀ v∈acc,0≤v∧v≤16)→∃ q g xs,c7 N k a p h (n:Int) acc=some (q,g,xs)∧bP a q∧xs.length≤n∧∀ v∈xs,0≤v∧v≤16:=by
  intro m
  induction m with
  | zero =>
   intro k acc p h hc h1 h2 h3
   obtain ⟨k,rfl⟩:∃ g,k=g+1:=⟨k-1,by omega⟩
   rw [c7,decide_eq_false (by omega),cond_false]
   exact ⟨_,_,_,rfl,hc,by omega,h3⟩
  | succ m ih =>
   intro k acc p h hc h1 h2 h3
   obtain ⟨k,rfl⟩:∃ g,k=g+1:=⟨k-1,by omega⟩
   obtain ⟨x,q,g,e,mx,hc'⟩:=cj (N:=N) ha (h:=h) hc (l:=[0,1,2,3,5,9,16]) (by decide)
   have bx:0≤x∧x≤16:=by
    simp only [List.mem_cons,List.not_mem_nil,or_false] at mx
    rcases mx with h | h | h | h | h | h | h <;> omega
   rw [c7,decide_eq_true (by omega),cond_true,e,bs]
   dsimp only
   rw [de (by decide) (by simp;omega),bs]
   refine ih k _ q g hc' (by simp;omega) (by omega) fun v hv=>?_
   rcases List.mem_append.1 hv with h | h
   ·exact h3 v h
   ·rw [List.mem_singleton] at h;rw [h];exact bx
 obtain ⟨q,g,xs,e,h1,h2,h3⟩:=key n N [] p h hc (by simp) (by omega) (by simp)
 unfold eA
 rw [e,bs,lpB]
 exact ⟨_,_,_,rfl,h1,h2,h3⟩
theorem jb (hN:1073741824≤N) {a:List Int} (ha:d9 a) {p h:Int} (hc:bP a p) {n:Nat} (hn:n≤1000):∃ rs q g,dV N a p h (n:Int)=some (rs,q,g)∧bP a q∧rs.length≤n:=by
 have key:∀ (m k:Nat) (acc:List (Int × Int)) (p h:Int),bP a p→acc.length+m=n→m<k→∃ q g xs,cN N k a p h (n:Int) acc=some (q,g,xs)∧bP a q∧xs.length≤n:=by
  intro m
  induction m with
  | zero =>
   intro k acc p h hc h1 h2
   obtain ⟨k,rfl⟩:∃ g,k=g+1:=⟨k-1,by omega⟩
   rw [cN,decide_eq_false (by omega),cond_false]
   exact ⟨_,_,_,rfl,hc,by omega⟩
  | succ m ih =>
   intro k acc p h hc h1 h2
   obtain ⟨k,rfl⟩:∃ g,k=g+1:=⟨k-1,by omega⟩
   obtain ⟨x,q,g,e,b0,b1,_,hc1⟩:=bR (N:=N) ha (h:=h) (n:=4) hc
   have b1:=b1 (by decide)
   obtain ⟨y,q2,g2,e2,my,hc2⟩:=cj (N:=N) ha (h:=g) hc1 (l:=[1,2,2,3]) (by decide)
   have by':1≤y∧y≤3:=by
    simp only [List.mem_cons,List.not_mem_nil,or_false] at my
    rcases my with h | h | h | h <;> omega
   obtain ⟨r,b,er,_,_⟩:=fw hN (n:=x) (d:=y) (by omega) (by omega) (by omega) (by omega)
   rw [cN,decide_eq_true (by omega),cond_true,e,bs]
   dsimp only
   rw [e2,bs]
   dsimp only
   rw [er,bs,de (by decide) (by simp;omega),bs]
   exact ih k _ q2 g2 hc2 (by simp;omega) (by omega)
 obtain ⟨q,g,xs,e,h1,h2⟩:=key n N [] p h hc (by simp) (by omega)
 unfold dV
 rw [e,bs,lpB]
 dsimp only
 by_cases h0:(0:Int)<(xs.length:Int)
 ·obtain ⟨b,q2,g2,e2,hc2⟩:=fT (N:=N) ha (h:=g) (n:=12) h1
  rw [decide_eq_true h0,cond_true,e2,bs]
  cases b with
  | true =>
   obtain ⟨r,q3,g3,e3,hc3⟩:=lc hN ha (h:=g2) hc2
   dsimp only
   rw [cond_true,e3,bs,show (0:Int)=((0:Nat):Int) from rfl,aH (by omega),bs,fC (by omega),bs]
   exact ⟨_,_,_,rfl,hc3,by rw [List.length_set];exact h2⟩
  | false=>exact ⟨_,_,_,rfl,hc2,h2⟩
 ·rw [decide_eq_false h0,cond_false];exact ⟨_,_,_,rfl,h1,h2⟩
end
theorem fZ {N:Nat} (hM:1073742848≤N) {x0:List Int} (_:(jD (fun _=>True) 9223372036854775807) x0) (g0:∀ v∈x0,0≤v∧v≤255):cu N x0=some true:=by
 have hN:1073741824≤N:=by omega
 unfold cu gW
 rw [bs]
 by_cases hb:(1048576:Int)<(x0.length:Int)
 ·rw [decide_eq_true hb];rfl
 ·rw [decide_eq_false hb,cond_false]
  have hc:d9 x0:=⟨by omega,fun v hv=>g0 v hv⟩
  obtain ⟨h,e⟩:=kW (N:=N) hN hc
  obtain ⟨⟨n,ats,out⟩,q1,g1,e1,hc1,hq⟩:=k7 hN hc (h:=h) o1
  have d2:=hq.atoms;have d3:=hq.out
  have hal:=hq.2.1
  dsimp only at d2 d3 hal
  obtain ⟨xs,q2,g2,e2,hc2,hl2,hx⟩:=jW hN hc (h:=g1) hc1 (n:=ats.length) (by omega)
  obtain ⟨rs,q3,g3,e3,hc3,hl3⟩:=jb hN hc (h:=g2) hc2 (n:=ats.length) (by omega)
  obtain ⟨c,q4,g4,e4,mc,_⟩:=cj (N:=N) hc (h:=g3) hc3 (l:=[0,1,30,300,5000,(-1)]) (by decide)
  have bc:-1≤c∧c≤5000:=by
   simp only [List.mem_cons,List.not_mem_nil,or_false] at mc
   rcases mc with h | h | h | h | h | h <;> omega
  obtain ⟨k,q5,g5,e5,_,_⟩:=cj (N:=N) hc (h:=g1) hc1 (l:=[(-1),0,1,7,1000000,1000001]) (by decide)
  have hd1:ce N x0=some ((n,ats,out),xs,rs,c):=by
   unfold ce
   rw [e,bs]
   dsimp only
   rw [e1,bs]
   dsimp only
   rw [e2,bs]
   dsimp only
   rw [e3,bs]
   dsimp only
   rw [e4,bs]
  have hd2:dp N x0=some ((n,ats,out),k):=by
   unfold dp
   rw [e,bs]
   dsimp only
   rw [e1,bs]
   dsimp only
   rw [e5,bs]
  have hr:∀ v∈xs,kt v:=fun v hv=>by have:=hx v hv;exact ⟨by omega,by omega⟩
  obtain ⟨b,b1,b2⟩:=gE hN (n:=n) (out:=out) (rs:=rs) (c:=c) d2 d3 (show xs.length≤1048576 by omega) hr (by omega) ⟨by omega,by omega⟩
  rw [hd1,bs]
  dsimp only
  rw [b2,bs,hd2,bs]
  dsimp only
  rw [b1,bs,beq_self_eq_true,cond_true]
  cases b with
  | false =>
   rw [cond_false,cX hN d2 d3,bs,ef hN d2 d3,bs,beq_self_eq_true]
  | true =>
   rw [cond_true]
   by_cases h1:c<1
   ·rw [decide_eq_true h1,cond_true,cX hN d2 d3,bs,ef hN d2 d3,bs,beq_self_eq_true]
   ·rw [decide_eq_false h1,cond_false,dk (by omega) (by omega),bs,lF hN d2 d3 (by omega) hr (by omega) (by omega) (by omega) b2,bs,cond_true,cX hN d2 d3,bs,ef hN d2 d3,bs,beq_self_eq_true]
section
variable {P:Program} {n:Nat} {Q Q':Exit→Env→World→Prop} {K:Env→World→Prop} {KQ:Env→Prop} {e:Env} {w w0:World} {c y:Code} {x:Exit} {ops:Array Oper} {rest:List Oper}
variable {d:Nat} {op:Op} {ty:TypeId} {pos:String} {af:Array Edge} {o z1 z2 z3:Operand} {v:Value} {q1:Oper}
theorem dt {p:Prop} [Decidable p] (h:decide p=true:=by rfl):p:=of_decide_eq_true h
theorem oB {α β:Type} {C:Prop} {o:Option α} {f:α→Option β} {r:β} (h:o.bind f=some r) (k:∀ x,o=some x→f x=some r→C):C:=by
 obtain ⟨x,h1,h2⟩:=ob h
 exact k x h1 h2
theorem oF {α:Type} {C:Prop} {c:Bool} {x y:Option α} {r:α} (h:(bif c then x else y)=some r) (k1:c=true→x=some r→C) (k2:c=false→y=some r→C):C:=by
 rcases oif h with ⟨h1,h2⟩ | ⟨h1,h2⟩
 ·exact k1 h1 h2
 ·exact k2 h1 h2
theorem oI {α:Type} {a b:α} (h:some a=some b):a=b:=Option.some.inj h
theorem nn {α:Type} {x:α} (h:none=some x):False:=nomatch h
theorem cR {α:Type} {a b:α} (h:a=b) (f:α→Value):Ending.returned (f a)=Ending.returned (f b):=by rw [h]
theorem sP {α:Type} {a b:α} (h:a=b) (f:α→List Asn) (S:Sat w0 w (f a)):Sat w0 w (f b):=by rw [← h];exact S
abbrev pt (b o:Nat):Value:=.pointer (some ⟨b,o,none⟩)
theorem sg (h:∀ Q':Exit→Env→World→Prop,(∀ x e w,thn (fun e w=>CW P n y Q e w) Q x e w→Q' x e w)→CW P n c Q' e w):CW P n (.seq c y) Q e w:=lu (iV h)
theorem sR {id:Nat} {l:List Oper} (h:∀ Q':Exit→Env→World→Prop,(∀ x e w,thn (fun e w=>CW P n y Q e w) Q x e w→Q' x e w)→EL P n l.toArray (fun e w=>Q' .normal e w) l e w):CW P n (.seq (.region id l.toArray false) y) Q e w:=lu (iV fun Q' q=>ai (h Q' q))
theorem gn (h:∀ Q':Exit→Env→World→Prop,(∀ x e w,Q x e w→Q' x e w)→CW P n c Q' e w):CW P n c Q e w:=iV h
theorem bg {i:Nat} (h:∀ Q':Exit→Env→World→Prop,(∀ x e w,inb i Q x e w→Q' x e w)→CW P n c Q' e w):CW P n (.block i c) Q e w:=mv (iV h)
theorem tn (h:∀ x e w,thn K Q x e w→Q' x e w) (k:K e w):Q' .normal e w:=h _ _ _ k
theorem tr (h:∀ x e w,thn K Q x e w→Q' x e w) (k:Q .ret e w):Q' .ret e w:=h _ _ _ k
theorem tx {i:Nat} (h:∀ x e w,thn K Q x e w→Q' x e w) (k:Q (.exit i) e w):Q' (.exit i) e w:=h _ _ _ k
theorem bn {i:Nat} (h:∀ x e w,inb i Q x e w→Q' x e w) (k:Q .normal e w):Q' .normal e w:=h _ _ _ k
theorem br {i:Nat} (h:∀ x e w,inb i Q x e w→Q' x e w) (k:Q .ret e w):Q' .ret e w:=h _ _ _ k
theorem bS {i:Nat} (h:∀ x e w,inb i Q x e w→Q' x e w) (k:Q .normal e w):Q' (.exit i) e w:=h _ _ _ (oO k)
theorem en (h:∀ x e w,thn K Q x e w→Q' x e w) (k:K e w):EL P n ops (fun e w=>Q' .normal e w) [] e w:=ah (h _ _ _ k)
theorem sn (h:∀ x e w,thn K Q x e w→Q' x e w) (k:K e w):CW P n .skip Q' e w:=bF (h _ _ _ k)
theorem pa (v:Value) (hK:EL P n ops K rest (upd e d v) w) (hx:ev e o=v:=by exact rfl) (hd:d<n:=by decide):EL P n ops K (⟨some d,.assign o,ty,pos,af,none⟩ :: rest) e w:=gZ (bL hx) hd hK
theorem pm (v:Value) (hK:EL P n ops K rest (upd e d v) w) (hx:ev e o=v:=by exact rfl) (hd:d<n:=by decide):EL P n ops K (⟨some d,.move o,ty,pos,af,none⟩ :: rest) e w:=gZ (aG hx) hd hK
theorem pM (v:Value) (hx:ev e o=v) (hK:EL P n ops K rest (upd e d v) w) (hd:d<n:=by decide):EL P n ops K (⟨some d,.move o,ty,pos,af,none⟩ :: rest) e w:=gZ (aG hx) hd hK
theorem pe (v:Value) (hp:PV P ⟨some d,op,ty,pos,af,none⟩ e w v) (hK:EL P n ops K rest (upd e d v) w) (hd:d<n:=by decide):EL P n ops K (⟨some d,op,ty,pos,af,none⟩ :: rest) e w:=gZ hp hd hK
theorem qe (v:Value) (hp:PV P ⟨some d,op,ty,pos,af,none⟩ e w v) (hK:QL P n ops w KQ rest (upd e d v)) (hd:d<n:=by decide):QL P n ops w KQ (⟨some d,op,ty,pos,af,none⟩ :: rest) e:=ja hp hd hK
theorem qm (v:Value) (hK:QL P n ops w KQ rest (upd e d v)) (hx:ev e o=v:=by exact rfl) (hd:d<n:=by decide):QL P n ops w KQ (⟨some d,.move o,ty,pos,af,none⟩ :: rest) e:=ja (aG hx) hd hK
theorem qM (v:Value) (hx:ev e o=v) (hK:QL P n ops w KQ rest (upd e d v)) (hd:d<n:=by decide):QL P n ops w KQ (⟨some d,.move o,ty,pos,af,none⟩ :: rest) e:=ja (aG hx) hd hK
theorem eo {j:Nat} {b b' c:Bool} (hc:c=b) (hK:EL P n ops K rest (upd e d undef) w) (h:yld ops e j=some c:=by exact rfl) (hb:(b == b')=false:=by exact rfl) (hd:d<n:=by decide):EL P n ops K (⟨some d,op,ty,pos,af,some (j,b')⟩ :: rest) e w:=nM h hc hb hd hK
theorem qo {j:Nat} {b b' c:Bool} (hc:c=b) (hK:QL P n ops w KQ rest (upd e d undef)) (h:yld ops e j=some c:=by exact rfl) (hb:(b == b')=false:=by exact rfl) (hd:d<n:=by decide):QL P n ops w KQ (⟨some d,op,ty,pos,af,some (j,b')⟩ :: rest) e:=nL h hc hb hd hK
theorem ei {j:Nat} {b c:Bool} {dst:Option Nat} (hc:c=b) (hK:EL P n ops K (⟨dst,op,ty,pos,af,none⟩ :: rest) e w) (h:yld ops e j=some c:=by exact rfl):EL P n ops K (⟨dst,op,ty,pos,af,some (j,b)⟩ :: rest) e w:=oG h hc hK
theorem qi {j:Nat} {b c:Bool} {dst:Option Nat} (hc:c=b) (hK:QL P n ops w KQ (⟨dst,op,ty,pos,af,none⟩ :: rest) e) (h:yld ops e j=some c:=by exact rfl):QL P n ops w KQ (⟨dst,op,ty,pos,af,some (j,b)⟩ :: rest) e:=oH h hc hK
theorem ct {b:Bool} (hb:b=true) (h:CW P n c Q e w) (hc:ev e o=.bool b:=by exact rfl):CW P n (.cond o c y) Q e w:=lZ hc hb h
theorem cf {b:Bool} (hb:b=false) (h:CW P n y Q e w) (hc:ev e o=.bool b:=by exact rfl):CW P n (.cond o c y) Q e w:=lN hc hb h
theorem rB {a b:Bool} {Γ:List Asn} (h:some a=some b) (hS:Sat w0 w Γ):Ending.returned (.bool a)=.returned (.bool b)∧Ext w0 w:=⟨by rw [Option.some.inj h],hS.below⟩
theorem rI {a b:Int} {Γ:List Asn} (h:some a=some b) (hS:Sat w0 w Γ):Ending.returned (.int .i64 a)=.returned (.int .i64 b)∧Ext w0 w:=⟨by rw [Option.some.inj h],hS.below⟩
abbrev i_ (x:Int):Value:=.int .i64 x
abbrev n_:Value:=.slice none 0 0
theorem ec0 {f:FuncId} {args:Array Operand} {tys:Array TypeId} {vals:Array Value} {Γ:List Asn} (hg:Goes P f) (hc:Calls P f vals w fun x w'=>x=.returned v∧Ext w w') (hv:(args.toList.map (ev e)).toArray=vals) (S:Sat w0 w Γ)
  (hK:∀ w',Ext w w'→Sat w0 w' Γ→EL P n ops K rest (upd e d v) w') (hd:d<n:=by decide):EL P n ops K (⟨some d,.call ⟨.value (.func f),args,tys⟩,ty,pos,af,none⟩ :: rest) e w :=
 aD hg hc hv hd (by rintro _ w' ⟨rfl,hx⟩;exact ⟨_,rfl,hK w' hx (S.ext hx)⟩)
theorem ec1 {f:FuncId} {args:Array Operand} {tys:Array TypeId} {vals:Array Value} {Γ:List Asn} {G:Value→Value} {A:Value→Asn} (hg:Goes P f) (hc:Calls P f vals w fun x w'=>∃ v,x=.returned (G v)∧Sat w w' [A v]) (hv:(args.toList.map (ev e)).toArray=vals) (S:Sat w0 w Γ)
  (hK:∀ w' v,Ext w w'→Sat w0 w' (A v :: Γ)→EL P n ops K rest (upd e d (G v)) w') (hd:d<n:=by decide):EL P n ops K (⟨some d,.call ⟨.value (.func f),args,tys⟩,ty,pos,af,none⟩ :: rest) e w :=
 aD hg hc hv hd (by rintro _ w' ⟨v,rfl,S'⟩;exact ⟨_,rfl,hK w' v S'.below (S.call1 S')⟩)
theorem aO {X:List Nat} {C:World→Prop} (i:Nat) {f:Nat} {L:Array Bool} (ho:ops[i]? = some q1)
  (h:EL P n ops (fun e' w'=>(X.contains i=true→C w')∧AL P n ops X C K f (L.setIfInBounds i true) e' w') [q1] e w) (hr:Region.ready .any ops L=[i]:=by kernel_rfl):AL P n ops X C K (f+1) L e w:=nS i hr ho h
theorem aP {X:List Nat} {C:World→Prop} (v:Value) (i:Nat) {f:Nat} {L:Array Bool} (hi:ops[i]? = some q1) (hdst:q1.dst=some d) (hC:C w)
  (hy:SV P n ops C q1 e v) (hK:AL P n ops X C K f (L.setIfInBounds i true) (upd e d v) w) (hsel:iy ops=true:=by kernel_rfl) (hdn:d<n:=by decide) (hf:io ops X L i q1=true:=by kernel_rfl) (hr:(Region.ready .any ops L).contains i=true:=by kernel_rfl):AL P n ops X C K (f+1) L e w:=nP hsel i hi hdst hdn hC hf hr hy hK
theorem ca {α β:Type} {f:α→β} {l:List α} {m:List β} (h:l.map f=m):(l.map f).toArray=m.toArray:=congrArg List.toArray h
theorem Sat.t1 {a0 a1:Asn} {Γ:List Asn} (h:Sat w0 w (a0 :: a1 :: Γ)):Sat w0 w (a1 :: a0 :: Γ):=h.top 1 rfl
theorem Sat.t2 {a0 a1 a2:Asn} {Γ:List Asn} (h:Sat w0 w (a0 :: a1 :: a2 :: Γ)):Sat w0 w (a2 :: a0 :: a1 :: Γ):=h.top 2 rfl
theorem Sat.t3 {a0 a1 a2 a3:Asn} {Γ:List Asn} (h:Sat w0 w (a0 :: a1 :: a2 :: a3 :: Γ)):Sat w0 w (a3 :: a0 :: a1 :: a2 :: Γ):=h.top 3 rfl
theorem Sat.t4 {a0 a1 a2 a3 a4:Asn} {Γ:List Asn} (h:Sat w0 w (a0 :: a1 :: a2 :: a3 :: a4 :: Γ)):Sat w0 w (a4 :: a0 :: a1 :: a2 :: a3 :: Γ):=h.top 4 rfl
theorem Sat.t5 {a0 a1 a2 a3 a4 a5:Asn} {Γ:List Asn} (h:Sat w0 w (a0 :: a1 :: a2 :: a3 :: a4 :: a5 :: Γ)):Sat w0 w (a5 :: a0 :: a1 :: a2 :: a3 :: a4 :: Γ):=h.top 5 rfl
theorem Sat.t6 {a0 a1 a2 a3 a4 a5 a6:Asn} {Γ:List Asn} (h:Sat w0 w (a0 :: a1 :: a2 :: a3 :: a4 :: a5 :: a6 :: Γ)):Sat w0 w (a6 :: a0 :: a1 :: a2 :: a3 :: a4 :: a5 :: Γ):=h.top 6 rfl
theorem Sat.t7 {a0 a1 a2 a3 a4 a5 a6 a7:Asn} {Γ:List Asn} (h:Sat w0 w (a0 :: a1 :: a2 :: a3 :: a4 :: a5 :: a6 :: a7 :: Γ)):Sat w0 w (a7 :: a0 :: a1 :: a2 :: a3 :: a4 :: a5 :: a6 :: Γ):=h.top 7 rfl
theorem Sat.t8 {a0 a1 a2 a3 a4 a5 a6 a7 a8:Asn} {Γ:List Asn} (h:Sat w0 w (a0 :: a1 :: a2 :: a3 :: a4 :: a5 :: a6 :: a7 :: a8 :: Γ)):Sat w0 w (a8 :: a0 :: a1 :: a2 :: a3 :: a4 :: a5 :: a6 :: a7 :: Γ):=h.top 8 rfl
theorem Sat.r0 {a0:Asn} {Γ:List Asn} (h:Sat w0 w (a0 :: Γ)):Sat w0 w (Γ):=h.rem 0 rfl
theorem Sat.r1 {a0 a1:Asn} {Γ:List Asn} (h:Sat w0 w (a0 :: a1 :: Γ)):Sat w0 w (a0 :: Γ):=h.rem 1 rfl
theorem Sat.r2 {a0 a1 a2:Asn} {Γ:List Asn} (h:Sat w0 w (a0 :: a1 :: a2 :: Γ)):Sat w0 w (a0 :: a1 :: Γ):=h.rem 2 rfl
theorem Sat.r3 {a0 a1 a2 a3:Asn} {Γ:List Asn} (h:Sat w0 w (a0 :: a1 :: a2 :: a3 :: Γ)):Sat w0 w (a0 :: a1 :: a2 :: Γ):=h.rem 3 rfl
theorem Sat.r4 {a0 a1 a2 a3 a4:Asn} {Γ:List Asn} (h:Sat w0 w (a0 :: a1 :: a2 :: a3 :: a4 :: Γ)):Sat w0 w (a0 :: a1 :: a2 :: a3 :: Γ):=h.rem 4 rfl
theorem Sat.r5 {a0 a1 a2 a3 a4 a5:Asn} {Γ:List Asn} (h:Sat w0 w (a0 :: a1 :: a2 :: a3 :: a4 :: a5 :: Γ)):Sat w0 w (a0 :: a1 :: a2 :: a3 :: a4 :: Γ):=h.rem 5 rfl
theorem Sat.r6 {a0 a1 a2 a3 a4 a5 a6:Asn} {Γ:List Asn} (h:Sat w0 w (a0 :: a1 :: a2 :: a3 :: a4 :: a5 :: a6 :: Γ)):Sat w0 w (a0 :: a1 :: a2 :: a3 :: a4 :: a5 :: Γ):=h.rem 6 rfl
theorem Sat.r7 {a0 a1 a2 a3 a4 a5 a6 a7:Asn} {Γ:List Asn} (h:Sat w0 w (a0 :: a1 :: a2 :: a3 :: a4 :: a5 :: a6 :: a7 :: Γ)):Sat w0 w (a0 :: a1 :: a2 :: a3 :: a4 :: a5 :: a6 :: Γ):=h.rem 7 rfl
end
abbrev R0_:=au aT 3
abbrev R1_:=au fK 9
abbrev R2_:=iY aT aT
abbrev R4_:=iY fK R0_
abbrev R5_:=au R2_ 114
abbrev R8_:=au R4_ 112
abbrev T0_:=List Int
abbrev T1_:=Int × Int
abbrev T3_:=ByteArray × List Int
abbrev T9_:=Int × List T3_ × List Int
section
set_option maxRecDepth 100000
set_option maxHeartbeats 4000000
theorem kv {w0:World} {u0:Value} {a0:List Int} (ha0:(au u8R 5).rd w0 [u0] a0) {N:Nat} {r:Bool} (F:gW N a0=some r): Calls Try.prog 6 #[u0] w0 fun e w'=>e=.returned (.bool r)∧Ext w0 w' := by
 unfold gW at F;refine aB Try.func6 rfl rfl dt ?_;have S:=Sat.start w0;refine sR fun _ D=>pa (.bool false) (en D (sR fun _ J=>pm u0 (pe (i_ (a0.length:Int)) (az rfl ha0) (pe (.bool (decide (1048576 < (a0.length:Int)))) (cg rfl rfl) (pa (.bool (decide (1048576 < (a0.length:Int)))) (en J (ag (ay rfl rfl ?_))))))));exact rB F S
theorem hD {w0:World} {u0:Value} {a0:List Int} (ha0:(au u8R 5).rd w0 [u0] a0) {N:Nat} {r:Int × Int} (F:eY N a0=some r): Calls Try.prog 34 #[u0] w0 fun e w'=>∃ (q0:Nat),e=.returned (pt q0 0)∧Sat w0 w' [Box q0 101 [u0,i_ r.1,i_ r.2]] := by
 unfold eY at F;refine aB Try.func34 rfl rfl dt ?_;have S:=Sat.start w0;refine sR fun _ pw=>pa (.pointer none) (en pw (sR fun _ px=>pm u0 (pe (i_ (a0.length:Int)) (az rfl ha0) (oB F fun o8 pk F=>pe (i_ o8) (aA rfl rfl pk) (pa (i_ o8) (en px (sg fun _ pg=>sR fun _ py=>pa (i_ 0) (en py (bg fun _ ph=>?_)))))))));obtain ⟨pz,hL,pf⟩:=ob F;refine aC (fun k e w=>∃ (D:Int),∃ (J:Int),e 0=u0∧e 3=i_ D∧e 4=i_ J∧Sat w0 w []∧dB N k a0 D J=some pz) N ?_ ?_ ?_
 ·exact ⟨o8,0,rfl,rfl,rfl,S,hL⟩
 ·rintro e w ⟨_,_,_,_,_,_,hz⟩; exact nn hz
 rintro k pJ pK ⟨D,J,Y,o3,Z,S,F⟩;refine gn fun _ o9=>sg fun _ pc=>sR fun _ pi=>pM (i_ J) Z (pM u0 Y (pe (i_ (a0.length:Int)) (az rfl ha0) (pe (.bool (decide (J < (a0.length:Int)))) (aF rfl rfl) (pm (.bool (decide (J < (a0.length:Int)))) (oF F (fun U F=>?_) fun U F=>?_)))))
 ·refine ei U (pM (i_ J) Z (ei U (pe (.bool (decide (J < 4000))) (aF rfl rfl) (pe (.bool (decide (J < 4000))) (aq rfl U rfl) (en pi (oF F (fun o4 F=>?_) fun o4 F=>?_))))))
  ·refine ct o4 (sn pc (sg fun _ pA=>bg fun _ pB=>ai (pM (i_ D) o3 (oB F fun pC pn F=>pe (i_ pC) (dm rfl rfl pn) (pM u0 Y (pM (i_ J) Z (oB F fun pj po F=>?_)))))));refine aR (wA:=w0) rfl ha0 rfl dt rfl po dt ?_;intro pL pG pN pp pq;obtain rfl:=pp;refine pe (.int .u8 pj) (ab rfl ((ax S.below pq) 0 _ rfl)) (pe (i_ (IntKind.i64.wrap pj)) (kh Try.underlying5 Try.underlying3 rfl) (oB F fun pD pr F=>pe (i_ pD) (aA rfl rfl pr) (oB F fun o5 pu F=>pe (i_ o5) (aA rfl rfl pu) (pe (i_ (dg o5 1073741823)) (kg rfl rfl) (pa (i_ (dg o5 1073741823)) (ah (bn pB (tn pA (ai (pM (i_ J) Z (oB F fun pd pv F=>pe (i_ pd) (aA rfl rfl pv) (pa (i_ pd) (en o9 ?_)))))))))))));replace S:=S.keep 0;exact ⟨(dg o5 1073741823),pd,Y,rfl,rfl,S,F⟩
  refine cf o4 (aE (tx pc (tx o9 ?_)));replace F:=exB F pf;refine bS ph (tn pg (sR fun _ pE=>pM u0 Y (pM (i_ D) o3 (pe (.agg #[u0,i_ 0,i_ D]) (aJ [(0,[u0]),(2,[i_ D])] [u0,i_ 0,i_ D] (dG (bq rfl (oc ha0)) (dG rfl rfl)) rfl) ?_))));refine cw [u0,i_ 0,i_ D] rfl S dt ?_;intro pO o6 S pH;refine pa (pt o6 0) (en pE (ag (ay rfl rfl ?_)));have hr:=oI F;exact ⟨o6,cR hr fun r=>.pointer (some ⟨o6,0,none⟩),sP hr (fun r=>[Box o6 101 [u0,i_ r.1,i_ r.2]]) (S.keep 1)⟩
 refine eo U (eo U (pe (.bool false) (am rfl U rfl) (en pi (cf rfl (aE (tx pc (tx o9 ?_)))))));replace F:=exB F pf;refine bS ph (tn pg (sR fun _ pF=>pM u0 Y (pM (i_ D) o3 (pe (.agg #[u0,i_ 0,i_ D]) (aJ [(0,[u0]),(2,[i_ D])] [u0,i_ 0,i_ D] (dG (bq rfl (oc ha0)) (dG rfl rfl)) rfl) ?_))));refine cw [u0,i_ 0,i_ D] rfl S dt ?_;intro pP o7 S pI;refine pa (pt o7 0) (en pF (ag (ay rfl rfl ?_)));have hr:=oI F;exact ⟨o7,cR hr fun r=>.pointer (some ⟨o7,0,none⟩),sP hr (fun r=>[Box o7 101 [u0,i_ r.1,i_ r.2]]) (S.keep 1)⟩
theorem el {w0:World} {Y:World} {G0:List Asn} {b0:Nat} {u0:Value} {a0:List Int} {a1:Int} {a2:Int} (ha0:(au u8R 5).rd Y [u0] a0) (S:Sat Y w0 (Box b0 101 [u0,i_ a1,i_ a2] :: G0)) {N:Nat} {r:Int × Int × Int} (F:dl N a0 a1 a2=some r): Calls Try.prog 108 #[.pointer (some ⟨b0,0,none⟩)] w0 fun e w'=>e=.returned (i_ r.1)∧Sat Y w' (Box b0 101 [u0,i_ r.2.1,i_ r.2.2] :: G0) := by
 unfold dl at F;refine aB Try.func108 rfl rfl dt ?_;refine sR fun _ pg=>pa (i_ 0) (en pg (sR fun _ ph=>pm (pt b0 0) (pm (pt b0 0) (pe (pt b0 0) (cP rfl) (pe (pt b0 (0 + 2)) (aa rfl) (pe (i_ a2) (ab rfl ((S.boxAt 0 rfl) 2 _ rfl)) (pe (i_ (IntKind.i64.wrap (a2 * 6364136223846793005))) (mX rfl rfl) (pe (i_ (IntKind.i64.wrap ((IntKind.i64.wrap (a2 * 6364136223846793005)) + 1442695040888963407))) (jF rfl rfl) (pe (pt b0 0) (cP rfl) (pe (pt b0 (0 + 2)) (aa rfl) ?_))))))))));refine ae (S.top 0 rfl) rfl [i_ (IntKind.i64.wrap ((IntKind.i64.wrap (a2 * 6364136223846793005)) + 1442695040888963407))] rfl rfl dt (all_cons rfl rfl) ?_;intro pi S;replace S:Sat Y pi (Box b0 101 [u0,i_ a1,i_ (IntKind.i64.wrap ((IntKind.i64.wrap (a2 * 6364136223846793005)) + 1442695040888963407))] :: G0):=S;refine en ph (sg fun _ pj=>?_);refine cD (by kernel_rfl) (by kernel_rfl) ?_;refine qm (pt b0 0) (qe (pt b0 0) (cP rfl) (qe (pt b0 (0 + 2)) (aa rfl) (qe (i_ (IntKind.i64.wrap ((IntKind.i64.wrap (a2 * 6364136223846793005)) + 1442695040888963407))) (ab rfl ((S.boxAt 0 rfl) 2 _ rfl)) (oB F fun D o5 F=>qe (i_ D) (lX rfl rfl o5) (qm (pt b0 0) (qe (pt b0 0) (cP rfl) (qe (pt b0 (0 + 2)) (aa rfl) (qe (i_ (IntKind.i64.wrap ((IntKind.i64.wrap (a2 * 6364136223846793005)) + 1442695040888963407))) (ab rfl ((S.boxAt 0 rfl) 2 _ rfl)) (oB F fun J o6 F=>qe (i_ J) (lX rfl rfl o6) (qe (i_ (eR D J)) (n6 rfl rfl) (qe (i_ (dg (eR D J) 255)) (kg rfl rfl) (qe (i_ (dg (eR D J) 255)) (bL rfl) (b9 ?_)))))))))))));intro pu o7;replace S:=S.ext o7;refine tn pj (sg fun _ o3=>sg fun _ pk=>?_);refine cD (by kernel_rfl) (by kernel_rfl) ?_;refine qm (pt b0 0) (qe (pt b0 0) (cP rfl) (qe (pt b0 (0 + 1)) (aa rfl) (qe (i_ a1) (ab rfl ((S.boxAt 0 rfl) 1 _ rfl)) (qm (pt b0 0) (qe (pt b0 0) (cP rfl) (qe (pt b0 (0 + 0)) (aa rfl) (qe u0 (ab rfl ((S.boxAt 0 rfl) 0 _ rfl)) (qe (i_ (a0.length:Int)) (az rfl ha0) (qe (.bool (decide (a1 < (a0.length:Int)))) (aF rfl rfl) (b9 ?_))))))))));intro pn o8;replace S:=S.ext o8;refine tn pk (oF F (fun Z F=>?_) fun Z F=>?_)
 ·refine ct Z (sg fun _ po=>?_);refine cD (by kernel_rfl) (by kernel_rfl) ?_;refine qm (i_ (dg (eR D J) 255)) (qm (pt b0 0) (qe (pt b0 0) (cP rfl) (qe (pt b0 (0 + 0)) (aa rfl) (qe u0 (ab rfl ((S.boxAt 0 rfl) 0 _ rfl)) (qm (pt b0 0) (qe (pt b0 0) (cP rfl) (qe (pt b0 (0 + 1)) (aa rfl) (qe (i_ a1) (ab rfl ((S.boxAt 0 rfl) 1 _ rfl)) (oB F fun U o9 F=>?_)))))))));refine b8 (wA:=Y) rfl ha0 rfl dt rfl o9 dt ?_;intro pv pr pw pc pd;obtain rfl:=pc;refine qe (.int .u8 U) (ab rfl ((ax S.below pd) 0 _ rfl)) (qe (i_ (IntKind.i64.wrap U)) (kh Try.underlying5 Try.underlying3 rfl) (qe (i_ (IntKind.i64.wrap ((dg (eR D J) 255) + (IntKind.i64.wrap U)))) (jF rfl rfl) (qe (i_ (dg (IntKind.i64.wrap ((dg (eR D J) 255) + (IntKind.i64.wrap U))) 255)) (kg rfl rfl) (qe (i_ (dg (IntKind.i64.wrap ((dg (eR D J) 255) + (IntKind.i64.wrap U))) 255)) (bL rfl) (b9 ?_)))));intro px pf;replace S:=S.ext pf;refine tn po (ai (pm (pt b0 0) (pm (pt b0 0) (pe (pt b0 0) (cP rfl) (pe (pt b0 (0 + 1)) (aa rfl) (pe (i_ a1) (ab rfl ((S.boxAt 0 rfl) 1 _ rfl)) (pe (i_ (IntKind.i64.wrap (a1 + 1))) (jF rfl rfl) (pe (pt b0 0) (cP rfl) (pe (pt b0 (0 + 1)) (aa rfl) ?_)))))))));refine ae (S.top 0 rfl) rfl [i_ (IntKind.i64.wrap (a1 + 1))] rfl rfl dt (all_cons rfl rfl) ?_;intro o4 S;replace S:Sat Y o4 (Box b0 101 [u0,i_ (IntKind.i64.wrap (a1 + 1)),i_ (IntKind.i64.wrap ((IntKind.i64.wrap (a2 * 6364136223846793005)) + 1442695040888963407))] :: G0):=S;refine en o3 (sR fun _ pp=>pm (i_ (dg (IntKind.i64.wrap ((dg (eR D J) 255) + (IntKind.i64.wrap U))) 255)) (pa (i_ (dg (IntKind.i64.wrap ((dg (eR D J) 255) + (IntKind.i64.wrap U))) 255)) (en pp (ag (ay rfl rfl ?_)))));have hr:=oI F;exact ⟨(cR hr fun r=>i_ r.1 :),Eq.mp (congrArg (fun (r:Int × Int × Int)=>Sat Y o4 (Box b0 101 [u0,i_ r.2.1,i_ r.2.2] :: G0)) hr :) S⟩
 refine cf Z (sn o3 (sR fun _ pq=>pm (i_ (dg (eR D J) 255)) (pa (i_ (dg (eR D J) 255)) (en pq (ag (ay rfl rfl ?_))))));have hr:=oI F;exact ⟨(cR hr fun r=>i_ r.1 :),Eq.mp (congrArg (fun (r:Int × Int × Int)=>Sat Y pn (Box b0 101 [u0,i_ r.2.1,i_ r.2.2] :: G0)) hr :) S⟩
theorem bp {w0:World} {D:World} {G0:List Asn} {b0:Nat} {u0:Value} {a0:List Int} {a1:Int} {a2:Int} {a3:Int} (ha0:(au u8R 5).rd D [u0] a0) (S:Sat D w0 (Box b0 101 [u0,i_ a1,i_ a2] :: G0)) {N:Nat} {r:Int × Int × Int} (F:bf N a0 a1 a2 a3=some r): Calls Try.prog 67 #[.pointer (some ⟨b0,0,none⟩),i_ a3] w0 fun e w'=>e=.returned (i_ r.1)∧Sat D w' (Box b0 101 [u0,i_ r.2.1,i_ r.2.2] :: G0) := by
 unfold bf at F;refine aB Try.func67 rfl rfl dt ?_;refine sR fun _ pw=>pa (i_ 0) (en pw (sg fun _ o5=>sR fun _ px=>pm (i_ a3) (pe (.bool (decide (a3 ≤ 0))) (f6 rfl rfl) (en px (oF F (fun J F=>?_) fun J F=>?_)))))
 ·refine ct J (sR fun _ py=>pa (i_ 0) (en py (ag (tr o5 (ay rfl rfl ?_)))));have hr:=oI F;exact ⟨(cR hr fun r=>i_ r.1 :),Eq.mp (congrArg (fun (r:Int × Int × Int)=>Sat D w0 (Box b0 101 [u0,i_ r.2.1,i_ r.2.2] :: G0)) hr :) S⟩
 refine cf J (sn o5 (sg fun _ o6=>sR fun _ pz=>pm (i_ a3) (pe (.bool (decide (a3 ≤ 256))) (f6 rfl rfl) (en pz (oF F (fun U F=>?_) fun U F=>?_)))))
 ·refine ct U (sR fun _ pA=>pm (pt b0 0) (oB F fun o7 pf F=>?_));refine aD gJ (el ha0 S pf) (ca (ac rfl rfl)) dt ?_;rintro _ o8 ⟨rfl,S⟩;refine ⟨_,rfl,?_⟩;replace S:Sat D o8 (Box b0 101 [u0,i_ o7.2.1,i_ o7.2.2] :: G0):=S;refine pm (i_ a3) (oB F fun o9 pg F=>pe (i_ o9) (fg rfl rfl pg) (pa (i_ o9) (en pA (ag (tr o6 (ay rfl rfl ?_))))));have hr:=oI F;exact ⟨(cR hr fun r=>i_ r.1 :),Eq.mp (congrArg (fun (r:Int × Int × Int)=>Sat D o8 (Box b0 101 [u0,i_ r.2.1,i_ r.2.2] :: G0)) hr :) S⟩
 refine cf U (sn o6 (sR fun _ pB=>pm (pt b0 0) (oB F fun Y ph F=>?_)));refine aD gJ (el ha0 S ph) (ca (ac rfl rfl)) dt ?_;rintro _ pC ⟨rfl,S⟩;refine ⟨_,rfl,?_⟩;replace S:Sat D pC (Box b0 101 [u0,i_ Y.2.1,i_ Y.2.2] :: G0):=S;refine pa (i_ Y.1) (en pB (sR fun _ pD=>pm (pt b0 0) (oB F fun Z pi F=>?_)));refine aD gJ (el ha0 S pi) (ca (ac rfl rfl)) dt ?_;rintro _ pE ⟨rfl,S⟩;refine ⟨_,rfl,?_⟩;replace S:Sat D pE (Box b0 101 [u0,i_ Z.2.1,i_ Z.2.2] :: G0):=S;refine pa (i_ Z.1) (en pD (sR fun _ pF=>pm (pt b0 0) (oB F fun o3 pj F=>?_)));refine aD gJ (el ha0 S pj) (ca (ac rfl rfl)) dt ?_;rintro _ pG ⟨rfl,S⟩;refine ⟨_,rfl,?_⟩;replace S:Sat D pG (Box b0 101 [u0,i_ o3.2.1,i_ o3.2.2] :: G0):=S;refine pa (i_ o3.1) (en pF (sR fun _ pH=>pm (pt b0 0) (oB F fun o4 pk F=>?_)));refine aD gJ (el ha0 S pk) (ca (ac rfl rfl)) dt ?_;rintro _ pc ⟨rfl,S⟩;refine ⟨_,rfl,?_⟩;replace S:Sat D pc (Box b0 101 [u0,i_ o4.2.1,i_ o4.2.2] :: G0):=S;refine pa (i_ o4.1) (en pH (sR fun _ pI=>pm (i_ Y.1) (oB F fun pJ pn F=>pe (i_ pJ) (dm rfl rfl pn) (pm (i_ Z.1) (oB F fun pK po F=>pe (i_ pK) (dm rfl rfl po) (oB F fun pL pp F=>pe (i_ pL) (aA rfl rfl pp) (pm (i_ o3.1) (oB F fun pN pq F=>pe (i_ pN) (dm rfl rfl pq) (oB F fun pO pr F=>pe (i_ pO) (aA rfl rfl pr) (pm (i_ o4.1) (oB F fun pP pu F=>pe (i_ pP) (aA rfl rfl pu) (pm (i_ a3) (oB F fun pd pv F=>pe (i_ pd) (fg rfl rfl pv) (pa (i_ pd) (en pI (ag (ay rfl rfl ?_)))))))))))))))));have hr:=oI F;exact ⟨(cR hr fun r=>i_ r.1 :),Eq.mp (congrArg (fun (r:Int × Int × Int)=>Sat D pc (Box b0 101 [u0,i_ r.2.1,i_ r.2.2] :: G0)) hr :) S⟩
theorem bh {w0:World} {J:World} {G0:List Asn} {b0:Nat} {u0:Value} {a0:List Int} {a1:Int} {a2:Int} {u3:Value} {a3:List Int} (ha0:(au u8R 5).rd J [u0] a0) (S:Sat J w0 (Box b0 101 [u0,i_ a1,i_ a2] :: Own R0_ [u3] a3 :: G0)) {N:Nat} {r:Int × Int × Int} (F:aZ N a0 a1 a2 a3=some r): Calls Try.prog 56 #[.pointer (some ⟨b0,0,none⟩),u3] w0 fun e w'=>e=.returned (i_ r.1)∧Sat J w' (Box b0 101 [u0,i_ r.2.1,i_ r.2.2] :: G0) := by
 unfold aZ at F;refine aB Try.func56 rfl rfl dt ?_;refine sR fun _ o5=>pa (i_ 0) (en o5 (sR fun _ o6=>pm u3 (pm (pt b0 0) (pm u3 (pe (i_ (a3.length:Int)) (az rfl (S.rdAt (R:=R0_) 1 rfl)) (oB F fun U o4 F=>?_))))));refine aD ej (bp ha0 S o4) (ca (ac rfl (ac rfl rfl))) dt ?_;rintro _ Z ⟨rfl,S⟩;refine ⟨_,rfl,?_⟩;replace S:Sat J Z (Box b0 101 [u0,i_ U.2.1,i_ U.2.2] :: Own R0_ [u3] a3 :: G0):=S;refine oB F fun o3 D F=>?_;obtain ⟨o7,o8,Y⟩:=dA 1 S rfl D;refine pe (pt o7 (U.1.toNat * 1)) (c4 (v:=u3) rfl Y rfl D) (pe (i_ o3) (ab rfl (S.ownCell 1 rfl Y D)) (pa (i_ o3) (en o6 (ag (ay rfl rfl ?_)))));have hr:=oI F;replace S:=S.r1;exact ⟨(cR hr fun r=>i_ r.1 :),Eq.mp (congrArg (fun (r:Int × Int × Int)=>Sat J Z (Box b0 101 [u0,i_ r.2.1,i_ r.2.2] :: G0)) hr :) S⟩
theorem bK {w0:World} {a0:Int} {a1:Int} {a2:Int}  {N:Nat} {r:Bool} (F:bM N a0 a1 a2=some r): Calls Try.prog 52 #[i_ a0,i_ a1,i_ a2] w0 fun e w'=>e=.returned (.bool r)∧Ext w0 w' := by
 unfold bM at F;refine aB Try.func52 rfl rfl dt ?_;have S:=Sat.start w0;refine sR fun _ U=>pa (.bool false) (en U (sR fun _ J=>pm (i_ a0) (pm (i_ a1) (pe (.bool (decide (a1 ≤ a0))) (gK rfl rfl) (pm (.bool (decide (a1 ≤ a0))) (oF F (fun D F=>?_) fun D F=>?_))))))
 ·refine ei D (pm (i_ a0) (ei D (pm (i_ a2) (ei D (pe (.bool (decide (a0 ≤ a2))) (f6 rfl rfl) (pe (.bool (decide (a0 ≤ a2))) (aq rfl D rfl) (pa (.bool (decide (a0 ≤ a2))) (en J (ag (ay rfl rfl ?_))))))))));exact rB F S
 refine eo D (eo D (eo D (pe (.bool false) (am rfl D rfl) (pa (.bool false) (en J (ag (ay rfl rfl ?_)))))));exact rB F S
end
section
set_option maxRecDepth 100000
set_option maxHeartbeats 4000000
theorem ci {w0:World} {a0:Int} {a1:Int} {a2:Int}  {N:Nat} {r:Bool} (F:bW N a0 a1 a2=some r): Calls Try.prog 65 #[i_ a0,i_ a1,i_ a2] w0 fun e w'=>e=.returned (.bool r)∧Ext w0 w' := by
 unfold bW at F;refine aB Try.func65 rfl rfl dt ?_;have S:=Sat.start w0;refine sR fun _ U=>pa (.bool false) (en U (sR fun _ J=>pm (i_ a0) (pm (i_ a1) (pe (.bool (decide (a1 ≤ a0))) (gK rfl rfl) (pm (.bool (decide (a1 ≤ a0))) (oF F (fun D F=>?_) fun D F=>?_))))))
 ·refine ei D (pm (i_ a0) (ei D (pm (i_ a2) (ei D (pe (.bool (decide (a0 ≤ a2))) (f6 rfl rfl) (pe (.bool (decide (a0 ≤ a2))) (aq rfl D rfl) (pa (.bool (decide (a0 ≤ a2))) (en J (ag (ay rfl rfl ?_))))))))));exact rB F S
 refine eo D (eo D (eo D (pe (.bool false) (am rfl D rfl) (pa (.bool false) (en J (ag (ay rfl rfl ?_)))))));exact rB F S
theorem fM {w0:World} {a0:Int} {a1:Int}  {N:Nat} {r:Int} (F:dc N a0 a1=some r): Calls Try.prog 73 #[i_ a0,i_ a1] w0 fun e w'=>e=.returned (i_ r)∧Ext w0 w' := by
 unfold dc at F;refine aB Try.func73 rfl rfl dt ?_;have S:=Sat.start w0;refine sR fun _ Z=>pa (i_ 0) (en Z (sg fun _ U=>bg fun _ Y=>sR fun _ o3=>pm (i_ a0) (pm (i_ a1) (pe (.bool (decide (a0 < a1))) (aF rfl rfl) (pa (.bool (decide (a0 < a1))) (en o3 (oF F (fun D F=>?_) fun D F=>?_)))))))
 ·refine ct D (sR fun _ o4=>pa (i_ (-1)) (en o4 (ag (br Y (tr U (ay rfl rfl ?_))))));exact rI F S
 refine cf D (sR fun _ o5=>pm (i_ a0) (pm (i_ a1) (pe (.bool (decide (a1 < a0))) (cg rfl rfl) (pa (.bool (decide (a1 < a0))) (en o5 (oF F (fun J F=>?_) fun J F=>?_))))))
 ·refine ct J (sR fun _ o6=>pa (i_ 1) (en o6 (ag (br Y (tr U (ay rfl rfl ?_))))));exact rI F S
 refine cf J (bF (bn Y (tn U (sR fun _ o7=>pa (i_ 0) (en o7 (ag (ay rfl rfl ?_)))))));exact rI F S
end
section
set_option maxRecDepth 100000
set_option maxHeartbeats 4000000
theorem i5 {w0:World} {u0:Value} {a0:List Int} {a1:Int} (ha0:R0_.rd w0 [u0] a0) {N:Nat} {r:Int} (F:eP N a0 a1=some r): Calls Try.prog 135 #[u0,i_ a1] w0 fun e w'=>e=.returned (i_ r)∧Ext w0 w' := by
 unfold eP at F;refine aB Try.func135 rfl rfl dt ?_;have S:=Sat.start w0;refine sR fun _ pn=>pa (i_ 0) (en pn (sg fun _ o9=>sR fun _ po=>pm u0 (pe (i_ (a0.length:Int)) (az rfl ha0) (pm (i_ 0) (en po (bg fun _ pc=>?_))))));obtain ⟨pp,hL,o5⟩:=ob F;refine aC (fun k e w=>∃ (D:Int),e 1=i_ a1∧e 7=u0∧e 8=i_ (a0.length:Int)∧e 9=i_ D∧Sat w0 w []∧dZ N k a1 a0 (a0.length:Int) D=some pp) N ?_ ?_ ?_
 ·exact ⟨0,rfl,rfl,rfl,rfl,S,hL⟩
 ·rintro e w ⟨_,_,_,_,_,_,hz⟩; exact nn hz
 rintro k py pz ⟨D,o6,o7,o8,J,S,F⟩;refine gn fun _ o3=>sR fun _ pq=>pe (.bool (decide (D < (a0.length:Int)))) (aF J o8) (en pq (sg fun _ pd=>oF F (fun U F=>?_) fun U F=>?_))
 ·refine ct U (sn pd (sg fun _ pf=>bg fun _ pg=>sR fun _ pr=>pM (i_ D) J (oB F fun Y ph F=>?_)));refine aR (wA:=w0) o7 ha0 rfl dt J ph dt ?_;intro pA px pB pi pj;obtain rfl:=pi;refine pe (i_ Y) (ab rfl ((ax S.below pj) 0 _ rfl)) (pa (i_ D) (pa (i_ Y) (en pr (sR fun _ pu=>pm (i_ Y) (pM (i_ a1) o6 (pe (.bool (Y == a1)) (cv rfl rfl) (en pu (oF F (fun Z F=>?_) fun Z F=>?_))))))))
  ·refine ct Z (sR fun _ pv=>pm (i_ D) (pa (i_ D) (en pv (ag (br pg (tr pf (tr o3 (br pc (tr o9 ?_)))))))));replace F:=exL F o5;refine ay rfl rfl ?_;exact rI F S
  refine cf Z (bF (bn pg (tn pf (ai (oB F fun o4 pk F=>pe (i_ o4) (aA J rfl pk) (pm (i_ o4) (en o3 ?_)))))));replace S:=S.keep 0;exact ⟨o4,o6,o7,o8,rfl,S,F⟩
 refine cf U (aE (tx pd (tx o3 ?_)));replace F:=exA F o5;refine bS pc (tn o9 (sR fun _ pw=>pa (i_ (-1)) (en pw (ag (ay rfl rfl ?_)))));exact rI F S
theorem jG {w0:World} {u0:Value} {a0:List Int} {a1:Int} (ha0:R0_.rd w0 [u0] a0) {N:Nat} {r:Bool} (F:ff N a0 a1=some r): Calls Try.prog 118 #[u0,i_ a1] w0 fun e w'=>e=.returned (.bool r)∧Ext w0 w' := by
 unfold ff at F;refine aB Try.func118 rfl rfl dt ?_;have S:=Sat.start w0;refine sR fun _ U=>pa (.bool false) (en U (sR fun _ Y=>pm u0 (pm (i_ a1) (oB F fun D J F=>?_))));refine ec0 nB (i5 (S.up ha0) J) (ca (ac rfl (ac rfl rfl))) S fun o3 Z S=>?_;refine pe (.bool (decide (0 ≤ D))) (gK rfl rfl) (pa (.bool (decide (0 ≤ D))) (en Y (ag (ay rfl rfl ?_))));exact rB F S
theorem i8 {w0:World} {u0:Value} {a0:List Int} {a1:Int} (ha0:R0_.rd w0 [u0] a0) {N:Nat} {r:Bool} (F:eQ N a0 a1=some r): Calls Try.prog 91 #[u0,i_ a1] w0 fun e w'=>e=.returned (.bool r)∧Ext w0 w' := by
 unfold eQ at F;refine aB Try.func91 rfl rfl dt ?_;have S:=Sat.start w0;refine sR fun _ py=>pa (.bool false) (en py (sg fun _ o6=>sR fun _ pz=>pm u0 (pe (i_ (a0.length:Int)) (az rfl ha0) (pm (i_ 0) (en pz (bg fun _ o7=>?_))))));obtain ⟨pA,hL,Y⟩:=ob F;refine aC (fun k e w=>∃ (J:Int),e 0=u0∧e 1=i_ a1∧e 7=u0∧e 8=i_ (a0.length:Int)∧e 9=i_ J∧Sat w0 w []∧cB N k a0 a1 a0 (a0.length:Int) J=some pA) N ?_ ?_ ?_
 ·exact ⟨0,rfl,rfl,rfl,rfl,rfl,S,hL⟩
 ·rintro e w ⟨_,_,_,_,_,_,_,hz⟩; exact nn hz
 rintro k pL pN ⟨J,pd,pf,pg,ph,U,S,F⟩;refine gn fun _ Z=>sR fun _ pB=>pe (.bool (decide (J < (a0.length:Int)))) (aF U ph) (en pB (sg fun _ pi=>oF F (fun o3 F=>?_) fun o3 F=>?_))
 ·refine ct o3 (sn pi (sg fun _ o8=>bg fun _ o9=>sR fun _ pC=>pM (i_ J) U (oB F fun o4 pn F=>?_)));refine aR (wA:=w0) pg ha0 rfl dt U pn dt ?_;intro pO pI pP po pp;obtain rfl:=po;refine pe (i_ o4) (ab rfl ((ax S.below pp) 0 _ rfl)) (pa (i_ J) (pa (i_ o4) (en pC (sR fun _ pj=>pm (i_ o4) (pM (i_ a1) pf (oB F fun pD pq F=>pe (i_ pD) (cT rfl rfl pq) (oB F fun pk pr F=>?_)))))));refine ec0 fq (ci pr) (ca (ac rfl (ac rfl (ac rfl rfl)))) S fun pQ pJ S=>?_;refine pe (.bool (!pk)) (aQ rfl) (pm (.bool (!pk)) (oF F (fun D F=>?_) fun D F=>?_))
  ·refine ei (aj D) (pM u0 pd (ei (aj D) (pm (i_ J) (ei (aj D) (oB F fun pR pu F=>?_)))));refine mj (wA:=w0) rfl rfl ha0 (.inr ⟨rfl,rfl⟩) (.inl (congrArg some rfl)) pu dt ?_;intro pS pv;refine ei (aj D) (pm (i_ o4) (ei (aj D) (oB F fun pE pw F=>?_)));refine ec0 m7 (jG (S.up pv) pw) (ca (ac rfl (ac rfl rfl))) S fun pT pK S=>?_;refine pe (.bool pE) (am rfl (aj D) rfl) (en pj (oF F (fun o5 F=>?_) fun o5 F=>?_))
   ·refine ct o5 (sR fun _ pF=>pa (.bool false) (en pF (ag (br o9 (tr o8 (tr Z (br o7 (tr o6 ?_))))))));replace F:=exL F Y;refine ay rfl rfl ?_;exact rB F S
   refine cf o5 (bF (bn o9 (tn o8 (ai (oB F fun pc px F=>pe (i_ pc) (aA U rfl px) (pm (i_ pc) (en Z ?_)))))));replace S:=S.keep 0;exact ⟨pc,pd,pf,pg,ph,rfl,S,F⟩
  refine eo (ak D) (eo (ak D) (eo (ak D) (eo (ak D) (eo (ak D) (pe (.bool true) (aq rfl (ak D) rfl) (en pj (ct rfl (sR fun _ pG=>pa (.bool false) (en pG (ag (br o9 (tr o8 (tr Z (br o7 (tr o6 ?_)))))))))))))));replace F:=exL F Y;refine ay rfl rfl ?_;exact rB F S
 refine cf o3 (aE (tx pi (tx Z ?_)));replace F:=exA F Y;refine bS o7 (tn o6 (sR fun _ pH=>pa (.bool true) (en pH (ag (ay rfl rfl ?_)))));exact rB F S
end
section
set_option maxRecDepth 100000
set_option maxHeartbeats 4000000
theorem hJ {w0:World} {a0:ByteArray} (_:a0.size ≤ 9223372036854775807) {N:Nat} {r:Bool} (F:dO N a0=some r): Calls Try.prog 103 #[.string a0] w0 fun e w'=>e=.returned (.bool r)∧Ext w0 w' := by
 unfold dO at F;refine aB Try.func103 rfl rfl dt ?_;have S:=Sat.start w0;refine sR fun _ po=>pa (.bool false) (en po (sg fun _ o6=>sR fun _ pp=>pa (i_ 0) (en pp (bg fun _ o7=>?_))));obtain ⟨pq,hL,Z⟩:=ob F;refine aC (fun k e w=>∃ (J:Int),e 0=.string a0∧e 3=i_ J∧Sat w0 w []∧cE N k a0 J=some pq) N ?_ ?_ ?_
 ·exact ⟨0,rfl,rfl,S,hL⟩
 ·rintro e w ⟨_,_,_,_,hz⟩; exact nn hz
 rintro k pz pA ⟨J,U,Y,S,F⟩;refine gn fun _ o3=>sg fun _ pg=>sR fun _ pr=>pM (i_ J) Y (pM (.string a0) U (pe (i_ (a0.size:Int)) (fD Try.underlying9 rfl) (pe (.bool (decide (J < (a0.size:Int)))) (aF rfl rfl) (en pr (oF F (fun o4 F=>?_) fun o4 F=>?_)))))
 ·refine ct o4 (sn pg (sg fun _ o8=>bg fun _ o9=>sR fun _ ph=>pM (.string a0) U (pM (i_ J) Y (oB F fun pc pi F=>pe (.int .u8 pc) (ji Try.underlying9 rfl rfl pi) (pe (.bool (decide (pc < 97))) (aF rfl rfl) (pm (.bool (decide (pc < 97))) (oF F (fun D F=>?_) fun D F=>?_)))))))
  ·refine eo D (eo D (eo D (eo D (pe (.bool true) (aq rfl D rfl) (en ph (ct rfl (sR fun _ pu=>pa (.bool false) (en pu (ag (br o9 (tr o8 (tr o3 (br o7 (tr o6 ?_))))))))))))));replace F:=exL F Z;refine ay rfl rfl ?_;exact rB F S
  refine ei D (pM (.string a0) U (ei D (pM (i_ J) Y (ei D (oB F fun pd pj F=>pe (.int .u8 pd) (ji Try.underlying9 rfl rfl pj) (ei D (pe (.bool (decide (122 < pd))) (cg rfl rfl) (pe (.bool (decide (122 < pd))) (am rfl D rfl) (en ph (oF F (fun o5 F=>?_) fun o5 F=>?_))))))))))
  ·refine ct o5 (sR fun _ pv=>pa (.bool false) (en pv (ag (br o9 (tr o8 (tr o3 (br o7 (tr o6 ?_))))))));replace F:=exL F Z;refine ay rfl rfl ?_;exact rB F S
  refine cf o5 (bF (bn o9 (tn o8 (ai (pM (i_ J) Y (oB F fun pf pk F=>pe (i_ pf) (aA rfl rfl pk) (pa (i_ pf) (en o3 ?_))))))));replace S:=S.keep 0;exact ⟨pf,U,rfl,S,F⟩
 refine cf o4 (aE (tx pg (tx o3 ?_)));replace F:=exA F Z;refine bS o7 (tn o6 (sR fun _ pw=>pM (.string a0) U (pe (i_ (a0.size:Int)) (fD Try.underlying9 rfl) (oB F fun px pn F=>?_))));refine ec0 dX (bK pn) (ca (ac rfl (ac rfl (ac rfl rfl)))) S fun pB py S=>?_;refine pa (.bool px) (en pw (ag (ay rfl rfl ?_)));exact rB F S
theorem gj {w0:World} {a0:ByteArray} {u1:Value} {a1:List Int} {a2:Int} (_:a0.size ≤ 9223372036854775807) (ha1:R0_.rd w0 [u1] a1) {N:Nat} {r:Bool} (F:cM N a0 a1 a2=some r): Calls Try.prog 104 #[.agg #[.string a0,u1],i_ a2] w0 fun e w'=>e=.returned (.bool r)∧Ext w0 w' := by
 unfold cM at F;refine aB Try.func104 rfl rfl dt ?_;have S:=Sat.start w0;refine sR fun _ pn=>?_;refine cw [.string a0,u1] rfl S dt ?_;intro py J S pw;refine pa (.bool false) (en pn (sg fun _ o8=>sR fun _ po=>pa (i_ 0) (en po (bg fun _ o9=>?_))));obtain ⟨pp,hL,o6⟩:=ob F;refine aC (fun k e w=>∃ (D:Int),e 1=i_ a2∧e 2=pt J 0∧e 5=i_ D∧Sat w0 w [Box J 112 [.string a0,u1]]∧aW N k a2 a0 a1 D=some pp) N ?_ ?_ ?_
 ·exact ⟨0,rfl,rfl,rfl,S,hL⟩
 ·rintro e w ⟨_,_,_,_,_,hz⟩; exact nn hz
 rintro k pz pA ⟨D,o7,U,Y,S,F⟩;refine gn fun _ o4=>sg fun _ pc=>sR fun _ pq=>pM (i_ D) Y (pe (pt J (0 + 1)) (aa U) (pe u1 (ab rfl ((S.boxAt 0 rfl) 1 _ rfl)) (pe (i_ (a1.length:Int)) (az rfl ha1) (pe (.bool (decide (D < (a1.length:Int)))) (aF rfl rfl) (en pq (oF F (fun Z F=>?_) fun Z F=>?_))))))
 ·refine ct Z (sn pc (sg fun _ pd=>bg fun _ pf=>sR fun _ pr=>pe (pt J (0 + 1)) (aa U) (pe u1 (ab rfl ((S.boxAt 0 rfl) 1 _ rfl)) (pM (i_ D) Y (oB F fun pg ph F=>?_)))));refine aR (wA:=w0) rfl ha1 rfl dt rfl ph dt ?_;intro pB px pC pi pj;obtain rfl:=pi;refine pe (i_ pg) (ab rfl ((ax S.below pj) 0 _ rfl)) (pM (i_ a2) o7 (pe (.bool (pg == a2)) (cv rfl rfl) (en pr (oF F (fun o3 F=>?_) fun o3 F=>?_))))
  ·refine ct o3 (sg fun _ pu=>?_);replace S:=S.r0;refine ai (pa (.bool true) (en pu (ag (br pf (tr pd (tr o4 (br o9 (tr o8 ?_))))))));replace F:=exL F o6;refine ay rfl rfl ?_;exact rB F S
  refine cf o3 (bF (bn pf (tn pd (ai (pM (i_ D) Y (oB F fun o5 pk F=>pe (i_ o5) (aA rfl rfl pk) (pa (i_ o5) (en o4 ?_))))))));replace S:=S.keep 1;exact ⟨o5,o7,U,rfl,S,F⟩
 refine cf Z (aE (tx pc (tx o4 ?_)));replace F:=exA F o6;refine bS o9 (tn o8 (sg fun _ pv=>?_));replace S:=S.r0;refine ai (pa (.bool false) (en pv (ag (ay rfl rfl ?_))));exact rB F S
theorem jC {w0:World} {u0:Value} {a0:List Int} {a1:Int} (ha0:R0_.rd w0 [u0] a0) {N:Nat} {r:Int} (F:fm N a0 a1=some r): Calls Try.prog 105 #[u0,i_ a1] w0 fun e w'=>e=.returned (i_ r)∧Ext w0 w' := by
 unfold fm at F;refine aB Try.func105 rfl rfl dt ?_;have S:=Sat.start w0;refine sR fun _ pk=>pa (i_ 0) (en pk (sg fun _ o7=>sR fun _ pn=>pa (i_ 0) (en pn (bg fun _ o8=>?_))));obtain ⟨po,hL,o5⟩:=ob F;refine aC (fun k e w=>∃ (D:Int),e 0=u0∧e 1=i_ a1∧e 5=i_ D∧Sat w0 w []∧ek N k a0 a1 D=some po) N ?_ ?_ ?_
 ·exact ⟨0,rfl,rfl,rfl,S,hL⟩
 ·rintro e w ⟨_,_,_,_,_,hz⟩; exact nn hz
 rintro k pw px ⟨D,U,o6,J,S,F⟩;refine gn fun _ o3=>sg fun _ o9=>sR fun _ pp=>pM (i_ D) J (pM u0 U (pe (i_ (a0.length:Int)) (az rfl ha0) (pe (.bool (decide (D < (a0.length:Int)))) (aF rfl rfl) (en pp (oF F (fun Y F=>?_) fun Y F=>?_)))))
 ·refine ct Y (sn o9 (sg fun _ pc=>bg fun _ pd=>sR fun _ pq=>pM u0 U (pM (i_ D) J (oB F fun pf pg F=>?_))));refine aR (wA:=w0) rfl ha0 rfl dt rfl pg dt ?_;intro py pv pz ph pi;obtain rfl:=ph;refine pe (i_ pf) (ab rfl ((ax S.below pi) 0 _ rfl)) (pM (i_ a1) o6 (pe (.bool (pf == a1)) (cv rfl rfl) (en pq (oF F (fun Z F=>?_) fun Z F=>?_))))
  ·refine ct Z (sR fun _ pr=>pM (i_ D) J (pa (i_ D) (en pr (ag (br pd (tr pc (tr o3 (br o8 (tr o7 ?_)))))))));replace F:=exL F o5;refine ay rfl rfl ?_;exact rI F S
  refine cf Z (bF (bn pd (tn pc (ai (pM (i_ D) J (oB F fun o4 pj F=>pe (i_ o4) (aA rfl rfl pj) (pa (i_ o4) (en o3 ?_))))))));replace S:=S.keep 0;exact ⟨o4,U,o6,rfl,S,F⟩
 refine cf Y (aE (tx o9 (tx o3 ?_)));replace F:=exA F o5;refine bS o8 (tn o7 (sR fun _ pu=>pa (i_ (-1)) (en pu (ag (ay rfl rfl ?_)))));exact rI F S
theorem dH {w0:World} {a0:Int} {u1:Value} {a1:List T3_} {u2:Value} {a2:List Int} (ha1:R8_.rd w0 [u1] a1) (ha2:R0_.rd w0 [u2] a2) {N:Nat} {r:Bool} (F:cl N a0 a1 a2=some r): Calls Try.prog 63 #[.agg #[i_ a0,u1,u2]] w0 fun e w'=>e=.returned (.bool r)∧Ext w0 w' := by
 unfold cl at F;refine aB Try.func63 rfl rfl dt ?_;have S:=Sat.start w0;refine sR fun _ rV=>?_;refine cw [i_ a0,u1,u2] rfl S dt ?_;intro td J S sW;refine pa (.bool false) (en rV (sg fun _ pq=>sR fun _ pL=>pe (pt J (0 + 0)) (aa rfl) (pe (i_ a0) (ab rfl ((S.boxAt 0 rfl) 0 _ rfl)) (oB F fun qk qL F=>?_))));refine ec0 dX (bK qL) (ca (ac rfl (ac rfl (ac rfl rfl)))) S fun te sX S=>?_;refine pe (.bool (!qk)) (aQ rfl) (pm (.bool (!qk)) (oF F (fun o3 F=>?_) fun o3 F=>?_))
 ·refine ei (aj o3) (pe (pt J (0 + 1)) (aa rfl) (ei (aj o3) (pe u1 (ab rfl ((S.boxAt 0 rfl) 1 _ rfl)) (ei (aj o3) (pe (i_ (a1.length:Int)) (az rfl ha1) (ei (aj o3) (oB F fun pN qN F=>?_)))))));refine ec0 dX (bK qN) (ca (ac rfl (ac rfl (ac rfl rfl)))) S fun tf sY S=>?_;refine ei (aj o3) (pe (.bool (!pN)) (aQ rfl) (pe (.bool (!pN)) (am rfl (aj o3) rfl) (pm (.bool (!pN)) (oF F (fun Z F=>?_) fun Z F=>?_))))
  ·refine ei (aj Z) (pe (pt J (0 + 2)) (aa rfl) (ei (aj Z) (pe u2 (ab rfl ((S.boxAt 0 rfl) 2 _ rfl)) (ei (aj Z) (pe (i_ (a2.length:Int)) (az rfl ha2) (ei (aj Z) (pe (pt J (0 + 0)) (aa rfl) (ei (aj Z) (pe (i_ a0) (ab rfl ((S.boxAt 0 rfl) 0 _ rfl)) (ei (aj Z) (pe (.bool (decide (a0 < (a2.length:Int)))) (cg rfl rfl) (pe (.bool (decide (a0 < (a2.length:Int)))) (am rfl (aj Z) rfl) (en pL (oF F (fun pr F=>?_) fun pr F=>?_))))))))))))))
   ·refine ct pr (sg fun _ rW=>?_);replace S:=S.r0;refine ai (pa (.bool false) (en rW (ag (tr pq (ay rfl rfl ?_)))));exact rB F S
   refine cf pr (sn pq (sg fun _ pu=>sR fun _ rX=>pa (i_ 0) (en rX (bg fun _ pv=>?_))));obtain ⟨rY,hL,pi⟩:=ob F;refine aC (fun k e w=>∃ (o4:Int),e 1=pt J 0∧e 3=i_ o4∧Sat w0 w [Box J 44 [i_ a0,u1,u2]]∧bu N k a0 a1 a2 o4=some rY) N ?_ ?_ ?_
   ·exact ⟨0,rfl,rfl,S,hL⟩
   ·rintro e w ⟨_,_,_,_,hz⟩; exact nn hz
   rintro k tg th ⟨o4,pd,pj,S,F⟩;refine gn fun _ pp=>sg fun _ ql=>sR fun _ rZ=>pM (i_ o4) pj (pe (pt J (0 + 1)) (aa pd) (pe u1 (ab rfl ((S.boxAt 0 rfl) 1 _ rfl)) (pe (i_ (a1.length:Int)) (az rfl ha1) (pe (.bool (decide (o4 < (a1.length:Int)))) (aF rfl rfl) (en rZ (oF F (fun pw F=>?_) fun pw F=>?_))))))
   ·refine ct pw (sn ql (sg fun _ px=>bg fun _ py=>sg fun _ pO=>sR fun _ qn=>pe (pt J (0 + 1)) (aa pd) (pe u1 (ab rfl ((S.boxAt 0 rfl) 1 _ rfl)) (pM (i_ o4) pj (oB F fun r8 qO F=>?_)))));refine aR (wA:=w0) rfl ha1 rfl dt rfl qO dt ?_;intro r9 qP tj qQ qR;obtain ⟨_,_,rfl,qS,qT⟩:=qQ;obtain ⟨rfl,qU⟩:=qS;obtain ⟨tk,rfl⟩:=c5 qT;refine pe (pt r9 (qP + 0)) (aa rfl) (pe (.string r8.1) (ab rfl ((ax S.below qR) 0 _ rfl)) (oB F fun qp qV F=>?_));refine ec0 mW (hJ qU qV) (ca (ac rfl rfl)) S fun tm sZ S=>?_;refine pe (.bool (!qp)) (aQ rfl) (pm (.bool (!qp)) (oF F (fun U F=>?_) fun U F=>?_))
    ·refine ei (aj U) (pe (pt J (0 + 1)) (aa pd) (ei (aj U) (pe u1 (ab rfl ((S.boxAt 0 rfl) 1 _ rfl)) (ei (aj U) (pM (i_ o4) pj (ei (aj U) (oB F fun sa qW F=>?_)))))));refine aR (wA:=w0) rfl ha1 rfl dt rfl qW dt ?_;intro sc qX tp qY qZ;obtain ⟨_,_,rfl,q7,qa⟩:=qY;obtain ⟨rfl,s4⟩:=q7;obtain ⟨sd,rfl⟩:=c5 qa;refine ei (aj U) (pe (pt sc (qX + 1)) (aa rfl) (ei (aj U) (pe sd (ab rfl ((ax S.below qZ) 1 _ rfl)) (ei (aj U) (pe (i_ (sa.2.length:Int)) (az rfl qa) (ei (aj U) (oB F fun qq q8 F=>?_)))))));refine ec0 dX (bK q8) (ca (ac rfl (ac rfl (ac rfl rfl)))) S fun tq s5 S=>?_;refine ei (aj U) (pe (.bool (!qq)) (aQ rfl) (pe (.bool (!qq)) (am rfl (aj U) rfl) (en qn (oF F (fun pz F=>?_) fun pz F=>?_))))
     ·refine cf (aj pz) (sn pO (sR fun _ se=>pa (i_ 0) (en se (bg fun _ qr=>?_))));obtain ⟨sf,hL,qb⟩:=ob F;refine aC (fun k e w=>∃ (o9:Int),e 1=pt J 0∧e 3=i_ o4∧e 4=i_ o9∧Sat w0 w [Box J 44 [i_ a0,u1,u2]]∧bv N k a0 a1 a2 o4 o9=some sf) N ?_ ?_ ?_
      ·exact ⟨0,pd,pj,rfl,S,hL⟩
      ·rintro e w ⟨_,_,_,_,_,hz⟩; exact nn hz
      rintro k tt tu ⟨o9,pf,pk,pA,S,F⟩;refine gn fun _ pP=>sg fun _ qu=>sR fun _ sh=>pM (i_ o9) pA (pe (pt J (0 + 1)) (aa pf) (pe u1 (ab rfl ((S.boxAt 0 rfl) 1 _ rfl)) (pM (i_ o4) pk (oB F fun qv q9 F=>?_))));refine aR (wA:=w0) rfl ha1 rfl dt rfl q9 dt ?_;intro si ra tv rb rc;obtain ⟨_,_,rfl,re,qc⟩:=rb;obtain ⟨rfl,s6⟩:=re;obtain ⟨sj,rfl⟩:=c5 qc;refine pe (pt si (ra + 1)) (aa rfl) (pe sj (ab rfl ((ax S.below rc) 1 _ rfl)) (pe (i_ (qv.2.length:Int)) (az rfl qc) (pe (.bool (decide (o9 < (qv.2.length:Int)))) (aF rfl rfl) (en sh (oF F (fun pB F=>?_) fun pB F=>?_)))))
      ·refine ct pB (sn qu (sg fun _ qw=>bg fun _ qx=>sg fun _ sk=>?_));refine cD (by kernel_rfl) (by kernel_rfl) ?_;refine qe (pt J (0 + 1)) (aa pf) (qe u1 (ab rfl ((S.boxAt 0 rfl) 1 _ rfl)) (qM (i_ o4) pk (oB F fun tw rf F=>?_)));refine b8 (wA:=w0) rfl ha1 rfl dt rfl rf dt ?_;intro sl rg tz rh ri;obtain ⟨_,_,rfl,rj,qd⟩:=rh;obtain ⟨rfl,s7⟩:=rj;obtain ⟨sp,rfl⟩:=c5 qd;refine qe (pt sl (rg + 1)) (aa rfl) (qe sp (ab rfl ((ax S.below ri) 1 _ rfl)) (qM (i_ o9) pA (oB F fun sq rk F=>?_)));refine b8 (wA:=w0) rfl qd rfl dt rfl rk dt ?_;intro tA s8 tB rl rn;obtain rfl:=rl;refine qe (i_ sq) (ab rfl ((ax S.below rn) 0 _ rfl)) (qe (pt J (0 + 0)) (aa pf) (qe (i_ a0) (ab rfl ((S.boxAt 0 rfl) 0 _ rfl)) (oB F fun ss ro F=>qe (i_ ss) (cT rfl rfl ro) (oB F fun qy rp F=>?_))));refine bZ (.bool qy) dX (fun w' hw'=>bK rp) (ca (ac rfl (ac rfl (ac rfl rfl)))) dt ?_;refine qe (.bool (!qy)) (aQ rfl) (b9 ?_);intro tC rq;replace S:=S.ext rq;refine tn sk (oF F (fun pC F=>?_) fun pC F=>?_)
       ·refine cf (aj pC) (bF (bn qx (tn qw (ai (pM (i_ o9) pA (oB F fun pQ rr F=>pe (i_ pQ) (aA rfl rfl rr) (pa (i_ pQ) (en pP ?_))))))));replace S:=S.keep 1;exact ⟨pQ,pf,pk,rfl,S,F⟩
       refine ct (ak pC) (sg fun _ st=>?_);replace S:=S.r0;refine ai (pa (.bool false) (en st (ag (br qx (tr qw (tr pP (br qr (br py (tr px (tr pp (br pv (tr pu ?_))))))))))));replace F:=exL F qb;replace F:=exL F pi;refine ay rfl rfl ?_;exact rB F S
      refine cf pB (aE (tx qu (tx pP ?_)));replace F:=exA F qb;refine bS qr (bn py (tn px (ai (pM (i_ o4) pk (oB F fun pR rt F=>pe (i_ pR) (aA rfl rfl rt) (pa (i_ pR) (en pp ?_)))))));replace S:=S.keep 1;exact ⟨pR,pf,rfl,S,F⟩
     refine ct (ak pz) (sg fun _ su=>?_);replace S:=S.r0;refine ai (pa (.bool false) (en su (ag (tr pO (br py (tr px (tr pp (br pv (tr pu ?_)))))))));replace F:=exL F pi;refine ay rfl rfl ?_;exact rB F S
    refine eo (ak U) (eo (ak U) (eo (ak U) (eo (ak U) (eo (ak U) (eo (ak U) (eo (ak U) (eo (ak U) (eo (ak U) (pe (.bool true) (aq rfl (ak U) rfl) (en qn (ct rfl (sg fun _ sv=>?_))))))))))));replace S:=S.r0;refine ai (pa (.bool false) (en sv (ag (tr pO (br py (tr px (tr pp (br pv (tr pu ?_)))))))));replace F:=exL F pi;refine ay rfl rfl ?_;exact rB F S
   refine cf pw (aE (tx ql (tx pp ?_)));replace F:=exA F pi;refine bS pv (tn pu (sg fun _ qz=>sR fun _ sw=>pa (i_ 0) (en sw (bg fun _ qA=>?_))));obtain ⟨sx,hL,qf⟩:=ob F;refine aC (fun k e w=>∃ (o5:Int),e 1=pt J 0∧e 5=i_ o5∧Sat w0 w [Box J 44 [i_ a0,u1,u2]]∧bC N k a0 a1 a2 o5=some sx) N ?_ ?_ ?_
   ·exact ⟨0,pd,rfl,S,hL⟩
   ·rintro e w ⟨_,_,_,_,hz⟩; exact nn hz
   rintro k tD tE ⟨o5,pD,qg,S,F⟩;refine gn fun _ pS=>sg fun _ qB=>sR fun _ sy=>pM (i_ o5) qg (pe (pt J (0 + 0)) (aa pD) (pe (i_ a0) (ab rfl ((S.boxAt 0 rfl) 0 _ rfl)) (pe (.bool (decide (o5 < a0))) (aF rfl rfl) (en sy (oF F (fun pE F=>?_) fun pE F=>?_)))))
   ·refine ct pE (sn qB (sg fun _ qC=>bg fun _ qD=>sR fun _ sA=>pa (.bool false) (en sA (sg fun _ sB=>sR fun _ sC=>pa (i_ 0) (en sC (bg fun _ sE=>?_))))));obtain ⟨sF,hL,ru⟩:=ob F;refine aC (fun k e w=>∃ (pc:Bool),∃ (o7:Int),e 1=pt J 0∧e 5=i_ o5∧e 6=.bool pc∧e 7=i_ o7∧Sat w0 w [Box J 44 [i_ a0,u1,u2]]∧bk N k a0 a1 a2 o5 pc o7=some sF) N ?_ ?_ ?_
    ·exact ⟨false,0,pD,qg,rfl,rfl,S,hL⟩
    ·rintro e w ⟨_,_,_,_,_,_,_,hz⟩; exact nn hz
    rintro k tF tG ⟨pc,o7,pg,pn,qh,po,S,F⟩;refine gn fun _ pT=>sg fun _ qE=>sR fun _ sG=>pM (i_ o7) po (pe (pt J (0 + 1)) (aa pg) (pe u1 (ab rfl ((S.boxAt 0 rfl) 1 _ rfl)) (pe (i_ (a1.length:Int)) (az rfl ha1) (pe (.bool (decide (o7 < (a1.length:Int)))) (aF rfl rfl) (en sG (oF F (fun pF F=>?_) fun pF F=>?_))))))
    ·refine ct pF (sn qE (sg fun _ qF=>bg fun _ qG=>ai (pM (.bool pc) qh (pm (.bool pc) (oF F (fun Y F=>?_) fun Y F=>?_)))))
     ·refine eo Y (eo Y (eo Y (eo Y (eo Y (eo Y (eo Y (pe (.bool true) (aq rfl Y rfl) (pa (.bool true) (ah (bn qG (tn qF (ai (pM (i_ o7) po (oB F fun pU rv F=>pe (i_ pU) (aA rfl rfl rv) (pa (i_ pU) (en pT ?_))))))))))))))));replace S:=S.keep 1;exact ⟨true,pU,pg,pn,rfl,rfl,S,F⟩
     refine ei Y (pe (pt J (0 + 1)) (aa pg) (ei Y (pe u1 (ab rfl ((S.boxAt 0 rfl) 1 _ rfl)) (ei Y (pM (i_ o7) po (ei Y (oB F fun qH rx F=>?_)))))));refine aR (wA:=w0) rfl ha1 rfl dt rfl rx dt ?_;intro tH s9 tI ry rz;obtain ⟨_,_,rfl,rA,qj⟩:=ry;obtain ⟨rfl,rC⟩:=rA;obtain ⟨qI,rfl⟩:=c5 qj;refine ei Y (pe (.agg #[.string qH.1,qI]) (ap (cs:=[.string qH.1,qI]) rfl rfl (ax S.below rz)) (ei Y (pM (i_ o5) pn (ei Y (oB F fun pV rD F=>?_)))));refine ec0 nk (gj rC (S.up qj) rD) (ca (ac rfl (ac rfl rfl))) S fun tJ ta S=>?_;refine pe (.bool pV) (am rfl Y rfl) (pa (.bool pV) (ah (bn qG (tn qF (ai (pM (i_ o7) po (oB F fun pW rE F=>pe (i_ pW) (aA rfl rfl rE) (pa (i_ pW) (en pT ?_)))))))));replace S:=S.keep 1;exact ⟨pV,pW,pg,pn,rfl,rfl,S,F⟩
    refine cf pF (aE (tx qE (tx pT ?_)));replace F:=exB F ru;refine bS sE (tn sB (sR fun _ sH=>pM (.bool pc) qh (pe (.bool (!pc)) (aQ rfl) (en sH (oF F (fun pG F=>?_) fun pG F=>?_)))))
    ·refine cf (aj pG) (bF (bn qD (tn qC (ai (pM (i_ o5) pn (oB F fun pX rF F=>pe (i_ pX) (aA rfl rfl rF) (pa (i_ pX) (en pS ?_))))))));replace S:=S.keep 1;exact ⟨pX,pg,rfl,S,F⟩
    refine ct (ak pG) (sg fun _ sI=>?_);replace S:=S.r0;refine ai (pa (.bool false) (en sI (ag (br qD (tr qC (tr pS (br qA (tr qz ?_))))))));replace F:=exL F qf;refine ay rfl rfl ?_;exact rB F S
   refine cf pE (aE (tx qB (tx pS ?_)));replace F:=exA F qf;refine bS qA (tn qz (sg fun _ pY=>sR fun _ sJ=>pa (i_ 0) (en sJ (bg fun _ pZ=>?_))));obtain ⟨sK,hL,pH⟩:=ob F;refine aC (fun k e w=>∃ (o6:Int),e 1=pt J 0∧e 8=i_ o6∧Sat w0 w [Box J 44 [i_ a0,u1,u2]]∧bA N k a0 a1 a2 o6=some sK) N ?_ ?_ ?_
   ·exact ⟨0,pD,rfl,S,hL⟩
   ·rintro e w ⟨_,_,_,_,hz⟩; exact nn hz
   rintro k tK tL ⟨o6,o8,ph,S,F⟩;refine gn fun _ pI=>sg fun _ qJ=>sR fun _ sL=>pM (i_ o6) ph (pe (pt J (0 + 2)) (aa o8) (pe u2 (ab rfl ((S.boxAt 0 rfl) 2 _ rfl)) (pe (i_ (a2.length:Int)) (az rfl ha2) (pe (.bool (decide (o6 < (a2.length:Int)))) (aF rfl rfl) (en sL (oF F (fun pJ F=>?_) fun pJ F=>?_))))))
   ·refine ct pJ (sn qJ (sg fun _ p5=>bg fun _ p6=>sg fun _ qK=>?_));refine cD (by kernel_rfl) (by kernel_rfl) ?_;refine qe (pt J (0 + 2)) (aa o8) (qe u2 (ab rfl ((S.boxAt 0 rfl) 2 _ rfl)) (qM (i_ o6) ph (oB F fun sM rG F=>?_)));refine b8 (wA:=w0) rfl ha2 rfl dt rfl rG dt ?_;intro tM tb tN rH rJ;obtain rfl:=rH;refine qe (i_ sM) (ab rfl ((ax S.below rJ) 0 _ rfl)) (qe (pt J (0 + 0)) (aa o8) (qe (i_ a0) (ab rfl ((S.boxAt 0 rfl) 0 _ rfl)) (oB F fun sN rK F=>qe (i_ sN) (cT rfl rfl rK) (oB F fun p7 rL F=>?_))));refine bZ (.bool p7) dX (fun w' hw'=>bK rL) (ca (ac rfl (ac rfl (ac rfl rfl)))) dt ?_;refine qe (.bool (!p7)) (aQ rfl) (qm (.bool (!p7)) (oF F (fun D F=>?_) fun D F=>?_))
    ·refine qi (aj D) (qe (pt J (0 + 2)) (aa o8) (qi (aj D) (qe u2 (ab rfl ((S.boxAt 0 rfl) 2 _ rfl)) (qi (aj D) (qM (i_ o6) ph (qi (aj D) (oB F fun tO rM F=>?_)))))));refine mg (wA:=w0) rfl rfl ha2 (.inr ⟨rfl,rfl⟩) (.inl (congrArg some rfl)) rM dt ?_;intro tP rN;refine qi (aj D) (qe (pt J (0 + 2)) (aa o8) (qi (aj D) (qe u2 (ab rfl ((S.boxAt 0 rfl) 2 _ rfl)) (qi (aj D) (qM (i_ o6) ph (qi (aj D) (oB F fun sO rO F=>?_)))))));refine b8 (wA:=w0) rfl ha2 rfl dt rfl rO dt ?_;intro tQ tc tR rP rQ;obtain rfl:=rP;refine qi (aj D) (qe (i_ sO) (ab rfl ((ax S.below rQ) 0 _ rfl)) (qi (aj D) (oB F fun p8 rR F=>?_)));refine bZ (i_ p8) nl (fun w' hw'=>jC (cH (S.up rN) hw') rR) (ca (ac rfl (ac rfl rfl))) dt ?_;refine qi (aj D) (qe (.bool (decide (0 ≤ p8))) (gK rfl rfl) (qe (.bool (decide (0 ≤ p8))) (am rfl (aj D) rfl) (b9 ?_)));intro tS rS;replace S:=S.ext rS;refine tn qK (oF F (fun pK F=>?_) fun pK F=>?_)
     ·refine ct pK (sg fun _ sQ=>?_);replace S:=S.r0;refine ai (pa (.bool false) (en sQ (ag (br p6 (tr p5 (tr pI (br pZ (tr pY ?_))))))));replace F:=exL F pH;refine ay rfl rfl ?_;exact rB F S
     refine cf pK (bF (bn p6 (tn p5 (ai (pM (i_ o6) ph (oB F fun p9 rT F=>pe (i_ p9) (aA rfl rfl rT) (pa (i_ p9) (en pI ?_))))))));replace S:=S.keep 1;exact ⟨p9,o8,rfl,S,F⟩
    refine qo (ak D) (qo (ak D) (qo (ak D) (qo (ak D) (qo (ak D) (qo (ak D) (qo (ak D) (qo (ak D) (qo (ak D) (qo (ak D) (qo (ak D) (qe (.bool true) (aq rfl (ak D) rfl) (b9 ?_))))))))))));intro tT rU;replace S:=S.ext rU;refine tn qK (ct rfl (sg fun _ sS=>?_));replace S:=S.r0;refine ai (pa (.bool false) (en sS (ag (br p6 (tr p5 (tr pI (br pZ (tr pY ?_))))))));replace F:=exL F pH;refine ay rfl rfl ?_;exact rB F S
   refine cf pJ (aE (tx qJ (tx pI ?_)));replace F:=exA F pH;refine bS pZ (tn pY (sg fun _ sT=>?_));replace S:=S.r0;refine ai (pa (.bool true) (en sT (ag (ay rfl rfl ?_))));exact rB F S
  refine eo (ak Z) (eo (ak Z) (eo (ak Z) (eo (ak Z) (eo (ak Z) (eo (ak Z) (pe (.bool true) (aq rfl (ak Z) rfl) (en pL (ct rfl (sg fun _ sU=>?_)))))))));replace S:=S.r0;refine ai (pa (.bool false) (en sU (ag (tr pq (ay rfl rfl ?_)))));exact rB F S
 refine eo (ak o3) (eo (ak o3) (eo (ak o3) (eo (ak o3) (eo (ak o3) (pe (.bool true) (aq rfl (ak o3) rfl) (pm (.bool true) (eo rfl (eo rfl (eo rfl (eo rfl (eo rfl (eo rfl (pe (.bool true) (aq rfl rfl rfl) (en pL (ct rfl (sg fun _ sV=>?_))))))))))))))));replace S:=S.r0;refine ai (pa (.bool false) (en sV (ag (tr pq (ay rfl rfl ?_)))));exact rB F S
theorem eW {w0:World} {D:World} {G0:List Asn} {b0:Nat} {u0:Value} {a0:List Int} {a1:Int} {a2:Int} {u3:Value} {a3:List ByteArray} (ha0:(au u8R 5).rd D [u0] a0) (S:Sat D w0 (Box b0 101 [u0,i_ a1,i_ a2] :: Own R1_ [u3] a3 :: G0)) {N:Nat} {r:ByteArray × Int × Int} (F:eB N a0 a1 a2 a3=some r): Calls Try.prog 87 #[.pointer (some ⟨b0,0,none⟩),u3] w0 fun e w'=>e=.returned (.string r.1)∧Sat D w' (Box b0 101 [u0,i_ r.2.1,i_ r.2.2] :: G0)∧r.1.size ≤ 9223372036854775807 := by
 unfold eB at F;refine aB Try.func87 rfl rfl dt ?_;refine sR fun _ o7=>pa (.string ByteArray.empty) (en o7 (sR fun _ o8=>pm u3 (pm (pt b0 0) (pm u3 (pe (i_ (a3.length:Int)) (az rfl (S.rdAt (R:=R1_) 1 rfl)) (oB F fun U Z F=>?_))))));refine aD ej (bp ha0 S Z) (ca (ac rfl (ac rfl rfl))) dt ?_;rintro _ J ⟨rfl,S⟩;refine ⟨_,rfl,?_⟩;replace S:Sat D J (Box b0 101 [u0,i_ U.2.1,i_ U.2.2] :: Own R1_ [u3] a3 :: G0):=S;refine oB F fun Y o3 F=>?_;refine aR (wA:=J) rfl (S.rdAt (R:=R1_) 1 rfl) rfl dt rfl o3 dt ?_;intro pc o9 pd o4 o5;obtain ⟨rfl,o6⟩:=o4;refine pe (.string Y) (ab rfl (o5 0 _ rfl)) (pa (.string Y) (en o8 (ag (ay rfl rfl ?_))));have hr:=oI F;replace S:=S.r1;exact ⟨(cR hr fun r=>.string r.1 :),Eq.mp (congrArg (fun (r:ByteArray × Int × Int)=>Sat D J (Box b0 101 [u0,i_ r.2.1,i_ r.2.2] :: G0)) hr :) S,Eq.mp (congrArg (fun (r:ByteArray × Int × Int)=>r.1.size ≤ 9223372036854775807) hr :) o6⟩
theorem e7 {w0:World} {J:World} {G0:List Asn} {b0:Nat} {u0:Value} {a0:List Int} {a1:Int} {a2:Int} {a3:Int} (ha0:(au u8R 5).rd J [u0] a0) (S:Sat J w0 (Box b0 101 [u0,i_ a1,i_ a2] :: G0)) {N:Nat} {r:Bool × Int × Int} (F:dI N a0 a1 a2 a3=some r): Calls Try.prog 89 #[.pointer (some ⟨b0,0,none⟩),i_ a3] w0 fun e w'=>e=.returned (.bool r.1)∧Sat J w' (Box b0 101 [u0,i_ r.2.1,i_ r.2.2] :: G0) := by
 unfold dI at F;refine aB Try.func89 rfl rfl dt ?_;refine sR fun _ Z=>pa (.bool false) (en Z (sR fun _ o3=>pm (pt b0 0) (pm (i_ a3) (oB F fun D Y F=>?_))));refine aD ej (bp ha0 S Y) (ca (ac rfl (ac rfl rfl))) dt ?_;rintro _ U ⟨rfl,S⟩;refine ⟨_,rfl,?_⟩;replace S:Sat J U (Box b0 101 [u0,i_ D.2.1,i_ D.2.2] :: G0):=S;refine pe (.bool (D.1 == 0)) (cv rfl rfl) (pa (.bool (D.1 == 0)) (en o3 (ag (ay rfl rfl ?_))));have hr:=oI F;exact ⟨(cR hr fun r=>.bool r.1 :),Eq.mp (congrArg (fun (r:Bool × Int × Int)=>Sat J U (Box b0 101 [u0,i_ r.2.1,i_ r.2.2] :: G0)) hr :) S⟩
theorem f9 {w0:World} {a0:ByteArray} {a1:Int} (ha0:a0.size ≤ 9223372036854775807) {N:Nat} {r:(List ByteArray)} (F:fG N a0 a1=some r): Calls Try.prog 131 #[.string a0,.int .u8 a1] w0 fun e w'=>∃ (q0:Value),e=.returned (q0)∧Sat w0 w' [Own R1_ [q0] r] := by
 unfold fG at F;refine aB Try.func131 rfl rfl dt ?_;have S:=Sat.start w0;refine sR fun _ pE=>pa n_ (en pE (sR fun _ pF=>?_));refine cO fK S dt ?_;intro pU pp S pR;refine pa pp (en pF (sR fun _ pG=>pa (i_ 0) (en pG (sg fun _ pH=>sR fun _ pI=>pa (i_ 0) (en pI (bg fun _ pJ=>?_))))));obtain ⟨pK,hL,px⟩:=ob F;refine aC (fun k e w=>∃ (Z:Value),∃ (o3:List ByteArray),∃ (J:Int),∃ (D:Int),e 0=.string a0∧e 1=.int .u8 a1∧e 5=Z∧e 6=i_ J∧e 7=i_ D∧Sat w0 w [Own R1_ [Z] o3]∧fv N k a0 a1 o3 J D=some pK) N ?_ ?_ ?_
 ·exact ⟨pp,[],0,0,rfl,rfl,rfl,rfl,rfl,S,hL⟩
 ·rintro e w ⟨_,_,_,_,_,_,_,_,_,_,hz⟩; exact nn hz
 rintro k pV pW ⟨Z,o3,J,D,U,o4,o5,o6,Y,S,F⟩;refine gn fun _ pc=>sg fun _ pq=>sR fun _ pL=>pM (i_ D) Y (pM (.string a0) U (pe (i_ (a0.size:Int)) (fD Try.underlying9 rfl) (pe (.bool (decide (D < (a0.size:Int)))) (aF rfl rfl) (en pL (oF F (fun o7 F=>?_) fun o7 F=>?_)))))
 ·refine ct o7 (sn pq (sg fun _ pr=>bg fun _ pu=>sR fun _ pN=>pM (.string a0) U (pM (i_ D) Y (oB F fun pv py F=>pe (.int .u8 pv) (ji Try.underlying9 rfl rfl py) (pM (.int .u8 a1) o4 (pe (.bool (pv == a1)) (cv rfl rfl) (en pN (oF F (fun o8 F=>?_) fun o8 F=>?_))))))))
  ·refine ct o8 (sR fun _ pO=>pM Z o5 (pM (.string a0) U (pM (i_ J) o6 (pM (i_ D) Y (oB F fun pd pj F=>pe (.string pd) (ik (l:=J) (h:=D) Try.underlying9 rfl (.inl (congrArg some rfl)) (.inl (congrArg some rfl)) pj) ?_)))));refine aI [.string pd] rfl (by rfl) dt rfl dt S dt ?_;intro pX pY S pS;refine oB F fun pP pz F=>?_;have pn:=S.boxRow 0 rfl;replace S:=S.t1;replace S:=S.str pd (iH ha0 pj);replace S:=S.one;refine bD rfl dt rfl dt S rfl rfl rfl (by simp) pn pz dt ?_;intro pZ pw S;refine pa pw (en pO ?_);replace S:=S.r1;refine ai (pM (i_ D) Y (oB F fun pf pA F=>pe (i_ pf) (aA rfl rfl pA) (pa (i_ pf) (ah (bn pu (tn pr (ai (pM (i_ D) Y (oB F fun pg pB F=>pe (i_ pg) (aA rfl rfl pB) (pa (i_ pg) (en pc ?_)))))))))));replace S:=S.keep 1;exact ⟨pw,pP,pf,pg,U,o4,rfl,rfl,rfl,S,F⟩
  refine cf o8 (bF (bn pu (tn pr (ai (pM (i_ D) Y (oB F fun ph pC F=>pe (i_ ph) (aA rfl rfl pC) (pa (i_ ph) (en pc ?_))))))));replace S:=S.keep 1;exact ⟨Z,o3,J,ph,U,o4,o5,o6,rfl,S,F⟩
 refine cf o7 (aE (tx pq (tx pc ?_)));replace F:=exB F px;refine bS pJ (tn pH (sR fun _ pQ=>pM Z o5 (pM (.string a0) U (pM (i_ J) o6 (oB F fun pi pk F=>pe (.string pi) (ik (l:=J) (h:=(a0.size:Int)) Try.underlying9 rfl (.inl (congrArg some rfl)) (.inr ⟨rfl,rfl⟩) pk) ?_)))));refine aI [.string pi] rfl (by rfl) dt rfl dt S dt ?_;intro p5 p6 S pT;refine oB F fun p7 pD F=>?_;have po:=S.boxRow 0 rfl;replace S:=S.t1;replace S:=S.str pi (iH ha0 pk);replace S:=S.one;refine bD rfl dt rfl dt S rfl rfl rfl (by simp) po pD dt ?_;intro p8 o9 S;refine pa o9 (en pQ (ag (ay rfl rfl ?_)));have hr:=oI F;exact ⟨o9,cR hr fun r=>o9,sP hr (fun r=>[Own R1_ [o9] r]) (S.keep 1)⟩
theorem em {w0:World} {a0:Int}  {N:Nat} {r:ByteArray} (F:dD N a0=some r): Calls Try.prog 133 #[i_ a0] w0 fun e w'=>e=.returned (.string r)∧Ext w0 w'∧r.size ≤ 9223372036854775807 := by
 unfold dD at F;refine aB Try.func133 rfl rfl dt ?_;have S:=Sat.start w0;refine sR fun _ o5=>pa (.string ByteArray.empty) (en o5 (sg fun _ U=>sR fun _ o6=>pm (i_ a0) (oB F fun o7 o3 F=>?_)));refine ec0 dX (bK o3) (ca (ac rfl (ac rfl (ac rfl rfl)))) S fun pd pc S=>?_;refine pe (.bool (!o7)) (aQ rfl) (en o6 (oF F (fun D F=>?_) fun D F=>?_))
 ·refine cf (aj D) (sn U (sR fun _ o8=>pm (i_ a0) (pm (i_ a0) (oB F fun Y o4 F=>pe (i_ Y) (aA rfl rfl o4) (oB F fun Z J F=>pe (.string Z) (ik (l:=a0) (h:=Y) Try.underlying9 rfl (.inl (congrArg some rfl)) (.inl (congrArg some rfl)) J) (pa (.string Z) (en o8 (ag (ay rfl rfl ?_)))))))));have hr:=oI F;exact ⟨cR hr fun r=>.string r,S.below,Eq.mp (congrArg (fun (r:ByteArray)=>r.size ≤ 9223372036854775807) hr :) (iH dt J)⟩
 refine ct (ak D) (sR fun _ o9=>pa (.string ByteArray.empty) (en o9 (ag (tr U (ay rfl rfl ?_)))));have hr:=oI F;exact ⟨cR hr fun r=>.string r,S.below,Eq.mp (congrArg (fun (r:ByteArray)=>r.size ≤ 9223372036854775807) hr :) dt⟩
theorem gM {w0:World} {a0:ByteArray} (_:a0.size ≤ 9223372036854775807) {N:Nat} {r:T0_} (F:fV N a0=some r): Calls Try.prog 132 #[.string a0] w0 fun e w'=>∃ (q0:Value),e=.returned (q0)∧Sat w0 w' [Own R0_ [q0] r] := by
 unfold fV at F;refine aB Try.func132 rfl rfl dt ?_;have S:=Sat.start w0;refine sR fun _ pK=>pa n_ (en pK (sR fun _ pL=>?_));refine cO aT S dt ?_;intro p8 po S p6;refine pa po (en pL (sg fun _ pN=>sR fun _ pO=>pa (i_ 0) (en pO (bg fun _ pP=>?_))));obtain ⟨pQ,hL,pA⟩:=ob F;refine aC (fun k e w=>∃ (U:Value),∃ (o6:List Int),∃ (D:Int),e 0=.string a0∧e 3=U∧e 4=i_ D∧Sat w0 w [Own R0_ [U] o6]∧fS N k a0 o6 D=some pQ) N ?_ ?_ ?_
 ·exact ⟨po,[],0,rfl,rfl,rfl,S,hL⟩
 ·rintro e w ⟨_,_,_,_,_,_,_,hz⟩; exact nn hz
 rintro k p9 qa ⟨U,o6,D,pi,pj,pk,S,F⟩;refine gn fun _ pp=>sg fun _ pq=>sR fun _ pR=>pM (i_ D) pk (pM (.string a0) pi (pe (i_ (a0.size:Int)) (fD Try.underlying9 rfl) (pe (.bool (decide (D < (a0.size:Int)))) (aF rfl rfl) (en pR (oF F (fun o7 F=>?_) fun o7 F=>?_)))))
 ·refine ct o7 (sn pq (sg fun _ pS=>bg fun _ pT=>sR fun _ pU=>pa (i_ 0) (en pU (bg fun _ pV=>?_))));obtain ⟨pW,hL,pB⟩:=ob F;refine aC (fun k e w=>∃ (o3:Value),∃ (o5:List Int),∃ (J:Int),e 0=.string a0∧e 3=o3∧e 4=i_ D∧e 5=i_ J∧Sat w0 w [Own R0_ [o3] o5]∧eZ N k a0 o5 D J=some pW) N ?_ ?_ ?_
  ·exact ⟨U,o6,0,pi,pj,pk,rfl,S,hL⟩
  ·rintro e w ⟨_,_,_,_,_,_,_,_,hz⟩; exact nn hz
  rintro k qb qc ⟨o3,o5,J,o4,o8,Y,Z,S,F⟩;refine gn fun _ pd=>sg fun _ pr=>sR fun _ pX=>pM (i_ J) Z (pe (.bool (decide (J < 5))) (aF rfl rfl) (en pX (oF F (fun o9 F=>?_) fun o9 F=>?_)))
  ·refine ct o9 (sn pr (sg fun _ pu=>bg fun _ pv=>sg fun _ pY=>?_));refine cD (by kernel_rfl) (by kernel_rfl) ?_;refine qM (i_ J) Z (oB F fun pw pC F=>?_);refine bZ (.string pw) jr (fun w' hw'=>(em pC).mono (fun _ _ h=>⟨h.1,h.2.1⟩)) (ca (ac rfl rfl)) dt ?_;refine qM (.string a0) o4 (qM (i_ D) Y (qM (i_ D) Y (oB F fun px pD F=>qe (i_ px) (aA rfl rfl pD) (oB F fun py pE F=>qe (.string py) (ik (l:=D) (h:=px) Try.underlying9 rfl (.inl (congrArg some rfl)) (.inl (congrArg some rfl)) pE) (qe (.bool (eqS pw py)) (jE rfl rfl) (b9 ?_))))));intro qd pF;replace S:=S.ext pF;refine tn pY (oF F (fun pc F=>?_) fun pc F=>?_)
   ·refine ct pc (ai (pM o3 o8 (pM (i_ J) Z ?_)));refine aI [i_ J] rfl (by rfl) dt rfl dt S dt ?_;intro qf qg S p7;refine oB F fun pZ pG F=>?_;have pn:=S.boxRow 0 rfl;replace S:=S.t1;replace S:=S.int J;replace S:=S.one;refine bD rfl dt rfl dt S rfl rfl rfl (by simp) pn pG dt ?_;intro qh pz S;refine pa pz (ah (bn pv (tn pu ?_)));replace S:=S.r1;refine ai (pM (i_ J) Z (oB F fun pf pH F=>pe (i_ pf) (aA rfl rfl pH) (pa (i_ pf) (en pd ?_))));replace S:=S.keep 1;exact ⟨pz,pZ,pf,o4,rfl,Y,rfl,S,F⟩
   refine cf pc (bF (bn pv (tn pu (ai (pM (i_ J) Z (oB F fun pg pI F=>pe (i_ pg) (aA rfl rfl pI) (pa (i_ pg) (en pd ?_))))))));replace S:=S.keep 1;exact ⟨o3,o5,pg,o4,o8,Y,rfl,S,F⟩
  refine cf o9 (aE (tx pr (tx pd ?_)));replace F:=exB F pB;refine bS pV (bn pT (tn pS (ai (pM (i_ D) Y (oB F fun ph pJ F=>pe (i_ ph) (aA rfl rfl pJ) (pa (i_ ph) (en pp ?_)))))));replace S:=S.keep 1;exact ⟨o3,o5,ph,o4,o8,rfl,S,F⟩
 refine cf o7 (aE (tx pq (tx pp ?_)));replace F:=exB F pA;refine bS pP (tn pN (sR fun _ p5=>pM U pj (pa U (en p5 (ag (ay rfl rfl ?_))))));have hr:=oI F;exact ⟨U,cR hr fun r=>U,sP hr (fun r=>[Own R0_ [U] r]) (S.keep 1)⟩
theorem fN {w0:World} {u0:Value} {a0:List Int} (ha0:R0_.rd w0 [u0] a0) {N:Nat} {r:ByteArray} (F:fi N a0=some r): Calls Try.prog 140 #[u0] w0 fun e w'=>e=.returned (.string r)∧Ext w0 w'∧r.size ≤ 9223372036854775807 := by
 unfold fi at F;refine aB Try.func140 rfl rfl dt ?_;have S:=Sat.start w0;refine sR fun _ pn=>pa (.string ByteArray.empty) (en pn (sR fun _ po=>pa (.string (⟨#[40]⟩:ByteArray)) (en po (sg fun _ pp=>sR fun _ pq=>pa (i_ 0) (en pq (bg fun _ pr=>?_))))));obtain ⟨pu,hL,pd⟩:=ob F;refine aC (fun k e w=>∃ (J:ByteArray),∃ (D:Int),e 0=u0∧e 3=.string J∧e 4=i_ D∧Sat w0 w []∧J.size ≤ 9223372036854775807∧fP N k a0 J D=some pu) N ?_ ?_ ?_
 ·exact ⟨(⟨#[40]⟩:ByteArray),0,rfl,rfl,rfl,S,dt,hL⟩
 ·rintro e w ⟨_,_,_,_,_,_,_,hz⟩; exact nn hz
 rintro k pD pE ⟨J,D,U,o5,Y,S,pA,F⟩;refine gn fun _ o8=>sg fun _ o9=>sR fun _ pv=>pM (i_ D) Y (pM u0 U (pe (i_ (a0.length:Int)) (az rfl ha0) (pe (.bool (decide (D < (a0.length:Int)))) (aF rfl rfl) (en pv (oF F (fun Z F=>?_) fun Z F=>?_)))))
 ·refine ct Z (sn o9 (sg fun _ pw=>bg fun _ px=>ai (pM (.string J) o5 (pM u0 U (pM (i_ D) Y (oB F fun py pf F=>?_))))));refine aR (wA:=w0) rfl ha0 rfl dt rfl pf dt ?_;intro pF pB pG pg ph;obtain rfl:=pg;refine pe (i_ py) (ab rfl ((ax S.below ph) 0 _ rfl)) (oB F fun pH pi F=>?_);refine aD jr (em pi) (ca (ac rfl rfl)) dt ?_;rintro _ pI ⟨rfl,pj,pC⟩;refine ⟨_,rfl,?_⟩;replace S:=S.ext pj;refine oB F fun o3 o6 F=>pe (.string o3) (fz rfl rfl o6) (pa (.string o3) (ah (bn px (tn pw (ai (pM (i_ D) Y (oB F fun o4 pk F=>pe (i_ o4) (aA rfl rfl pk) (pa (i_ o4) (en o8 ?_)))))))));replace S:=S.keep 0;exact ⟨o3,o4,U,rfl,rfl,S,(f5 o6),F⟩
 refine cf Z (aE (tx o9 (tx o8 ?_)));replace F:=exB F pd;refine bS pr (tn pp (sR fun _ pz=>pM (.string J) o5 (oB F fun pc o7 F=>pe (.string pc) (fz rfl rfl o7) (pa (.string pc) (en pz (ag (ay rfl rfl ?_)))))));have hr:=oI F;exact ⟨cR hr fun r=>.string r,S.below,Eq.mp (congrArg (fun (r:ByteArray)=>r.size ≤ 9223372036854775807) hr :) (f5 o7)⟩
theorem hQ {w0:World} {a0:Int} {u1:Value} {a1:List T3_} {u2:Value} {a2:List Int} (ha1:R8_.rd w0 [u1] a1) (ha2:R0_.rd w0 [u2] a2) {N:Nat} {r:ByteArray} (F:fx N a0 a1 a2=some r): Calls Try.prog 134 #[.agg #[i_ a0,u1,u2]] w0 fun e w'=>e=.returned (.string r)∧Ext w0 w'∧r.size ≤ 9223372036854775807 := by
 unfold fx at F;refine aB Try.func134 rfl rfl dt ?_;have S:=Sat.start w0;refine sR fun _ qb=>?_;refine cw [i_ a0,u1,u2] rfl S dt ?_;intro qN Y S qF;refine pa (.string ByteArray.empty) (en qb (sg fun _ po=>sR fun _ qc=>pe (.agg #[i_ a0,u1,u2]) (ap (cs:=[i_ a0,u1,u2]) rfl rfl (an (S.boxAt 0 rfl))) (oB F fun qd pv F=>?_)));refine ec0 jp (dH (S.up ha1) (S.up ha2) pv) (ca (ac rfl rfl)) S fun qO qG S=>?_;refine pe (.bool (!qd)) (aQ rfl) (en qc (oF F (fun o3 F=>?_) fun o3 F=>?_))
 ·refine cf (aj o3) (sn po (sR fun _ qf=>pe (pt Y (0 + 2)) (aa rfl) (pe u2 (ab rfl ((S.boxAt 0 rfl) 2 _ rfl)) (oB F fun qP pw F=>?_))));refine aD ju (fN (S.up ha2) pw) (ca (ac rfl rfl)) dt ?_;rintro _ qQ ⟨rfl,px,qH⟩;refine ⟨_,rfl,?_⟩;replace S:=S.ext px;refine oB F fun o7 ph F=>pe (.string o7) (fz rfl rfl ph) (pa (.string o7) (en qf (sg fun _ qg=>sR fun _ qh=>pa (i_ 0) (en qh (bg fun _ qj=>?_)))));obtain ⟨qk,hL,py⟩:=ob F;refine aC (fun k e w=>∃ (Z:ByteArray),∃ (D:Int),e 1=pt Y 0∧e 3=.string Z∧e 4=i_ D∧Sat w0 w [Box Y 44 [i_ a0,u1,u2]]∧Z.size ≤ 9223372036854775807∧dQ N k a0 a1 a2 Z D=some qk) N ?_ ?_ ?_
  ·exact ⟨o7,0,rfl,rfl,rfl,S,(f5 ph),hL⟩
  ·rintro e w ⟨_,_,_,_,_,_,_,hz⟩; exact nn hz
  rintro k qR qS ⟨Z,D,U,o4,J,S,pz,F⟩;refine gn fun _ o8=>sg fun _ pp=>sR fun _ ql=>pM (i_ D) J (pe (pt Y (0 + 1)) (aa U) (pe u1 (ab rfl ((S.boxAt 0 rfl) 1 _ rfl)) (pe (i_ (a1.length:Int)) (az rfl ha1) (pe (.bool (decide (D < (a1.length:Int)))) (aF rfl rfl) (en ql (oF F (fun o5 F=>?_) fun o5 F=>?_))))))
  ·refine ct o5 (sn pp (sg fun _ pq=>bg fun _ pr=>sg fun _ pu=>sR fun _ qn=>pM (i_ D) J (pe (.bool (decide (0 < D))) (cg rfl rfl) (en qn (oF F (fun o6 F=>?_) fun o6 F=>?_)))))
   ·refine ct o6 (ai (pM (.string Z) o4 (oB F fun o9 pA F=>pe (.string o9) (fz rfl rfl pA) (pa (.string o9) (en pu ?_)))));refine cD (by kernel_rfl) (by kernel_rfl) ?_;refine qm (.string o9) (qe (pt Y (0 + 1)) (aa U) (qe u1 (ab rfl ((S.boxAt 0 rfl) 1 _ rfl)) (qM (i_ D) J (oB F fun qp pB F=>?_))));refine b8 (wA:=w0) rfl ha1 rfl dt rfl pB dt ?_;intro qq pC qT pD pE;obtain ⟨_,_,rfl,pF,pG⟩:=pD;obtain ⟨rfl,qI⟩:=pF;obtain ⟨qU,rfl⟩:=c5 pG;refine qe (pt qq (pC + 0)) (aa rfl) (qe (.string qp.1) (ab rfl ((ax S.below pE) 0 _ rfl)) (oB F fun qr pH F=>qe (.string qr) (fz rfl rfl pH) (qe (pt Y (0 + 1)) (aa U) (qe u1 (ab rfl ((S.boxAt 0 rfl) 1 _ rfl)) (qM (i_ D) J (oB F fun qV pI F=>?_))))));refine b8 (wA:=w0) rfl ha1 rfl dt rfl pI dt ?_;intro qu pJ qW pK pL;obtain ⟨_,_,rfl,pN,pi⟩:=pK;obtain ⟨rfl,qJ⟩:=pN;obtain ⟨qv,rfl⟩:=c5 pi;refine qe (pt qu (pJ + 1)) (aa rfl) (qe qv (ab rfl ((ax S.below pL) 1 _ rfl)) (oB F fun qw pO F=>?_));refine bZ (.string qw) ju (fun w' hw'=>(fN (cH (S.up pi) hw') pO).mono (fun _ _ h=>⟨h.1,h.2.1⟩)) (ca (ac rfl rfl)) dt ?_;refine oB F fun pc pj F=>qe (.string pc) (fz rfl rfl pj) (qe (.string pc) (bL rfl) (b9 ?_));intro qX pP;replace S:=S.ext pP;refine bn pr (tn pq (ai (pM (i_ D) J (oB F fun pd pQ F=>pe (i_ pd) (aA rfl rfl pQ) (pa (i_ pd) (en o8 ?_))))));replace S:=S.keep 1;exact ⟨pc,pd,U,rfl,rfl,S,(f5 pj),F⟩
   refine cf o6 (sn pu ?_);refine cD (by kernel_rfl) (by kernel_rfl) ?_;refine qM (.string Z) o4 (qe (pt Y (0 + 1)) (aa U) (qe u1 (ab rfl ((S.boxAt 0 rfl) 1 _ rfl)) (qM (i_ D) J (oB F fun qx pR F=>?_))));refine b8 (wA:=w0) rfl ha1 rfl dt rfl pR dt ?_;intro qy pS qY pT pU;obtain ⟨_,_,rfl,pV,pW⟩:=pT;obtain ⟨rfl,qK⟩:=pV;obtain ⟨qZ,rfl⟩:=c5 pW;refine qe (pt qy (pS + 0)) (aa rfl) (qe (.string qx.1) (ab rfl ((ax S.below pU) 0 _ rfl)) (oB F fun qz pX F=>qe (.string qz) (fz rfl rfl pX) (qe (pt Y (0 + 1)) (aa U) (qe u1 (ab rfl ((S.boxAt 0 rfl) 1 _ rfl)) (qM (i_ D) J (oB F fun q7 pY F=>?_))))));refine b8 (wA:=w0) rfl ha1 rfl dt rfl pY dt ?_;intro qA pZ q8 p5 p6;obtain ⟨_,_,rfl,p7,pk⟩:=p5;obtain ⟨rfl,qL⟩:=p7;obtain ⟨qB,rfl⟩:=c5 pk;refine qe (pt qA (pZ + 1)) (aa rfl) (qe qB (ab rfl ((ax S.below p6) 1 _ rfl)) (oB F fun qC p8 F=>?_));refine bZ (.string qC) ju (fun w' hw'=>(fN (cH (S.up pk) hw') p8).mono (fun _ _ h=>⟨h.1,h.2.1⟩)) (ca (ac rfl rfl)) dt ?_;refine oB F fun pf pn F=>qe (.string pf) (fz rfl rfl pn) (qe (.string pf) (bL rfl) (b9 ?_));intro q9 p9;replace S:=S.ext p9;refine bn pr (tn pq (ai (pM (i_ D) J (oB F fun pg qa F=>pe (i_ pg) (aA rfl rfl qa) (pa (i_ pg) (en o8 ?_))))));replace S:=S.keep 1;exact ⟨pf,pg,U,rfl,rfl,S,(f5 pn),F⟩
  refine cf o5 (aE (tx pp (tx o8 ?_)));replace F:=exB F py;refine bS qj (tn qg (sg fun _ qD=>?_));replace S:=S.r0;refine ai (pM (.string Z) o4 (pa (.string Z) (en qD (ag (ay rfl rfl ?_)))));have hr:=oI F;exact ⟨cR hr fun r=>.string r,S.below,Eq.mp (congrArg (fun (r:ByteArray)=>r.size ≤ 9223372036854775807) hr :) pz⟩
 refine ct (ak o3) (sg fun _ qE=>?_);replace S:=S.r0;refine ai (pa (.string ByteArray.empty) (en qE (ag (tr po (ay rfl rfl ?_)))));have hr:=oI F;exact ⟨cR hr fun r=>.string r,S.below,Eq.mp (congrArg (fun (r:ByteArray)=>r.size ≤ 9223372036854775807) hr :) dt⟩
theorem ie {w0:World} {a0:ByteArray} (ha0:a0.size ≤ 9223372036854775807) {N:Nat} {r:T9_ × Bool} (F:aX N a0=some r): Calls Try.prog 116 #[.string a0] w0 fun e w'=>∃ (q0:Value) (q1:Value),e=.returned (.tuple #[.agg #[i_ r.1.1,q0,q1],.bool r.2])∧Sat w0 w' [Own R8_ [q0] r.1.2.1,Own R0_ [q1] r.1.2.2] := by
 unfold aX at F;refine aB Try.func116 rfl rfl dt ?_;have S:=Sat.start w0;refine sR fun _ ro=>?_;refine aw S dt ?_;intro sF o4 S st;refine pa (.bool false) (en ro (sR fun _ rp=>pm (.string a0) (oB F fun pT qA F=>?_)));refine ec1 jJ (f9 ha0 qA) (ca (ac rfl (ac rfl rfl))) S fun rq pA su S=>?_;refine pa pA (en rp (sg fun _ qh=>sR fun _ rr=>pm pA (pe (i_ (pT.length:Int)) (az rfl (S.rdAt (R:=R1_) 0 rfl)) (pe (.bool ((pT.length:Int) != 2)) (ft rfl rfl) (en rr (oF F (fun pD F=>?_) fun pD F=>?_))))))
 ·refine ct pD (sg fun _ rt=>?_);replace S:=S.r0;refine ai (pe (.agg #[i_ 0,n_,n_]) (aJ [] [i_ 0,n_,n_] rfl rfl) ?_);refine ae (S.top 0 rfl) rfl [i_ 0,n_,n_] rfl rfl dt (all_cons rfl (all_cons rfl (all_cons rfl rfl))) ?_;intro ru S;replace S:Sat w0 ru [Box o4 44 [i_ 0,n_,n_]]:=S;refine pa (.bool false) (en rt (ag (tr qh ?_)));replace S:=S.nil R4_ 112;replace S:=S.nil aT 3;refine bo (cs:=[i_ 0,n_,n_]) rfl rfl rfl (an (S.boxAt 2 rfl)) rfl ?_;replace S:=S.t1;have hr:=oI F;exact ⟨n_,n_,cR hr fun r=>.tuple #[.agg #[i_ r.1.1,n_,n_],.bool r.2],sP hr (fun r=>[Own R8_ [n_] r.1.2.1,Own R0_ [n_] r.1.2.2]) (S.keep 2)⟩
 refine cf pD (sn qh (sR fun _ rv=>pm pA (oB F fun rx qB F=>?_)));refine aR (wA:=rq) rfl (S.rdAt (R:=R1_) 0 rfl) rfl dt rfl qB dt ?_;intro sG sv sH qC pj;obtain ⟨rfl,qD⟩:=qC;refine pe (.string rx) (ab rfl (pj 0 _ rfl)) (oB F fun o8 qE F=>?_);refine ec1 kG (gM qD qE) (ca (ac rfl rfl)) S fun sI D qF S=>?_;have pj:=ax qF pj;refine pe (.agg #[i_ 0,n_,D]) (aJ [(2,[D])] [i_ 0,n_,D] (dG (bq rfl (oc (S.rdAt (R:=R0_) 0 rfl))) rfl) rfl) ?_;refine aw S dt ?_;intro sJ Y S qG;have pj:=ax qG pj;refine ae (S.top 0 rfl) rfl [i_ 0,n_,D] rfl rfl dt (all_cons rfl (all_cons rfl (all_cons (oc (S.rdAt (R:=R0_) 1 rfl)) rfl))) ?_;intro qj S;replace S:Sat w0 qj [Box Y 44 [i_ 0,n_,D],Own R0_ [D] o8,Own R1_ [pA] pT,Box o4 44 [i_ 0,n_,n_]]:=S;refine en rv (sR fun _ ry=>pm pA (oB F fun rz qH F=>?_));refine aR (wA:=qj) rfl (S.rdAt (R:=R1_) 2 rfl) rfl dt rfl qH dt ?_;intro sK sw sL qI pE;obtain ⟨rfl,qJ⟩:=qI;refine pe (.string rz) (ab rfl (pE 0 _ rfl)) (oB F fun o6 qK F=>?_);refine ec1 jJ (f9 qJ qK) (ca (ac rfl (ac rfl rfl))) S fun sM U qL S=>?_;have pE:=ax qL pE;refine pa U (en ry (sg fun _ rA=>sg fun _ rC=>?_));replace S:=S.r3;refine ai (pa (i_ 0) (en rC (bg fun _ rD=>?_)));replace S:=S.nil R4_ 112;obtain ⟨rE,hL,qN⟩:=ob F;refine aC (fun k e w=>∃ (o3:Int),∃ (J:Value),∃ (pF:List T3_),∃ (Z:Int),e 0=.string a0∧e 2=pt o4 0∧e 5=pt Y 0∧e 6=U∧e 7=i_ Z∧Sat w0 w [Own R8_ [J] pF,Own R1_ [U] o6,Box Y 44 [i_ o3,J,D],Own R0_ [D] o8,Box o4 44 [i_ 0,n_,n_]]∧eM N k a0 0 [] [] o3 pF o8 o6 Z=some rE) N ?_ ?_ ?_
 ·exact ⟨0,n_,[],0,rfl,rfl,rfl,rfl,rfl,S,hL⟩
 ·rintro e w ⟨_,_,_,_,_,_,_,_,_,_,hz⟩; exact nn hz
 rintro k sN rF ⟨o3,J,pF,Z,pG,pc,pk,pr,pu,S,F⟩;refine gn fun _ qk=>sg fun _ ql=>sR fun _ rG=>pM (i_ Z) pu (pM U pr (pe (i_ (o6.length:Int)) (az rfl (S.rdAt (R:=R1_) 1 rfl)) (pe (.bool (decide (Z < (o6.length:Int)))) (aF rfl rfl) (en rG (oF F (fun pH F=>?_) fun pH F=>?_)))))
 ·refine ct pH (sn ql (sg fun _ rH=>bg fun _ rJ=>sR fun _ rK=>pM U pr (pM (i_ Z) pu (oB F fun rL qO F=>?_))));refine aR (wA:=rF) rfl (S.rdAt (R:=R1_) 1 rfl) rfl dt rfl qO dt ?_;intro sO sx sQ qP o5;obtain ⟨rfl,qQ⟩:=qP;refine pe (.string rL) (ab rfl (o5 0 _ rfl)) (oB F fun pU qR F=>?_);refine ec1 jJ (f9 qQ qR) (ca (ac rfl (ac rfl rfl))) S fun sS pq qS S=>?_;have o5:=ax qS o5;refine pa pq (en rK (sg fun _ rM=>?_));obtain ⟨C,hCd⟩:∃ C:World → Prop,∀ w,C w ↔ ∃ G,Sat w0 w ([Box Y 44 [i_ o3,J,D],Own R1_ [pq] pU,Own R1_ [U] o6] ++ G):=⟨_,fun _=>Iff.rfl⟩;refine di [0,1,2,3,4,5,6,7,8,9,10,11,12,13] C (by kernel_rfl) ?_;intro rN p7;replace S:=S.ext p7;have o5:=ax p7 o5;replace S:=S.t2.t1.t3;have hC:=(hCd _).2 ⟨_,S⟩;refine aP (pt Y (0 + 1)) 0 rfl rfl hC (av rfl (fun w' hw'=>by obtain ⟨_,S⟩:=(hCd _).1 hw'; exact (aa pk))) ?_;refine aP J 1 rfl rfl hC (av rfl (fun w' hw'=>by obtain ⟨_,S⟩:=(hCd _).1 hw'; exact (ab rfl ((S.boxAt 0 rfl) 1 _ rfl)))) ?_;refine aP pq 2 rfl rfl hC (av rfl (fun w' hw'=>by obtain ⟨_,S⟩:=(hCd _).1 hw'; exact (aG rfl))) ?_;refine oB F fun pg pv F=>?_;obtain ⟨rO,sq,p8⟩:=(by obtain ⟨_,S⟩:=(hCd _).1 hC; exact dA 1 S rfl pv:∃ g cap,(pq:Value)=.slice (some ⟨g,0,none⟩) (pU).length cap);have qT:=(by obtain ⟨_,S⟩:=(hCd _).1 hC; exact lE 1 S rfl pv:(pg:ByteArray).size ≤ 9223372036854775807);refine aP (pt rO ((0:Int).toNat * 1)) 3 rfl rfl hC (av rfl (fun w' hw'=>by obtain ⟨_,S⟩:=(hCd _).1 hw'; exact (c4 (v:=pq) rfl p8 rfl pv))) ?_;refine aP (.string pg) 4 rfl rfl hC (av rfl (fun w' hw'=>by obtain ⟨_,S⟩:=(hCd _).1 hw'; exact (ab rfl (S.ownCell 1 rfl p8 pv)))) ?_;refine aP U 5 rfl rfl hC (av rfl (fun w' hw'=>by obtain ⟨_,S⟩:=(hCd _).1 hw'; exact (aG pr))) ?_;refine aO 6 rfl ?_;refine pM (i_ Z) pu (ah ?_);refine ⟨fun _=>hC,?_⟩;refine aO 7 rfl ?_;refine oB F fun rP qU F=>?_;refine aR (wA:=rN) rfl (S.rdAt (R:=R1_) 2 rfl) rfl dt rfl qU dt ?_;intro sT sy sU qV pn;obtain ⟨rfl,qW⟩:=qV;refine ah ?_;refine ⟨fun _=>hC,?_⟩;refine aO 8 rfl ?_;refine pe (.string rP) (ab rfl (pn 0 _ rfl)) (ah ?_);refine ⟨fun _=>hC,?_⟩;refine aO 9 rfl ?_;refine oB F fun sV qX F=>?_;refine ec1 kG (gM qW qX) (ca (ac rfl rfl)) S fun sW pB p9 S=>?_;have o5:=ax p9 o5;have pn:=ax p9 pn;refine ah ?_;replace S:=S.t3.t3.t3;have hC:=(hCd _).2 ⟨_,S⟩;refine ⟨fun _=>hC,?_⟩;refine aO 10 rfl ?_;refine pe (.agg #[.string pg,pB]) (aJ [(0,[.string pg]),(1,[pB])] [.string pg,pB] (dG rfl (dG (bq rfl (oc (S.rdAt (R:=R0_) 3 rfl))) rfl)) rfl) (ah ?_);refine ⟨fun _=>hC,?_⟩;refine aO 11 rfl ?_;refine aI [.string pg,pB] rfl (by rfl) dt rfl dt S dt ?_;intro sX rQ S qa;have o5:=ax qa o5;have pn:=ax qa pn;refine ah ?_;replace S:=S.t3.t3.t3;have hC:=(hCd _).2 ⟨_,S⟩;refine ⟨fun _=>hC,?_⟩;refine aO 12 rfl ?_;refine oB F fun pi qY F=>?_;have qg:=S.boxRow 3 rfl;replace S:=S.t5;replace S:=S.t5;replace S:=S.str pg qT;replace S:=S.pair;replace S:=S.one;refine bD rfl dt rfl dt S rfl rfl rfl (by simp) qg qY dt ?_;intro sY o9 S;refine ah ?_;replace S:=S.t3.t3.t3;have hC:=(hCd _).2 ⟨_,S⟩;refine ⟨fun _=>hC,?_⟩;refine aO 13 rfl ?_;refine pe (pt Y (0 + 1)) (aa pk) (ah ?_);refine ⟨fun _=>hC,?_⟩;refine aO 14 rfl ?_;refine ae (S.top 0 rfl) rfl [o9] (bq rfl (oc (S.rdAt (R:=R8_) 3 rfl))) rfl dt (all_cons (oc (S.rdAt (R:=R8_) 3 rfl)) rfl) ?_;intro rR S;replace S:Sat w0 rR [Box Y 44 [i_ o3,o9,D],Own R1_ [pq] pU,Own R1_ [U] o6,Own R8_ [o9] pi,Box rQ 112 [.string pg,pB],Own R0_ [D] o8,Box o4 44 [i_ 0,n_,n_]]:=S;refine ah ?_;refine ⟨fun h=>(nomatch (show false=true from h)),?_⟩;refine cd (by kernel_rfl) ?_;refine tn rM (sg fun _ rS=>?_);replace S:=S.r4.r1;refine ai (pa (i_ 0) (en rS (bg fun _ rT=>?_)));obtain ⟨rU,hL,qZ⟩:=ob F;refine aC (fun k e w=>∃ (ph:Int),∃ (o7:Int),e 0=.string a0∧e 2=pt o4 0∧e 5=pt Y 0∧e 6=U∧e 7=i_ Z∧e 9=i_ o7∧Sat w0 w [Box Y 44 [i_ ph,o9,D],Own R1_ [U] o6,Own R8_ [o9] pi,Own R0_ [D] o8,Box o4 44 [i_ 0,n_,n_]]∧eI N k a0 0 [] [] ph pi o8 o6 Z o7=some rU) N ?_ ?_ ?_
  ·exact ⟨o3,0,pG,pc,pk,pr,pu,rfl,S,hL⟩
  ·rintro e w ⟨_,_,_,_,_,_,_,_,_,hz⟩; exact nn hz
  rintro k sZ rV ⟨ph,o7,qb,qc,pI,pJ,pK,qd,S,F⟩;refine gn fun _ qn=>sg fun _ qp=>sR fun _ rW=>pM (i_ o7) qd (pM U pJ (pM (i_ Z) pK (oB F fun pV q7 F=>?_)));refine aR (wA:=rV) rfl (S.rdAt (R:=R1_) 1 rfl) rfl dt rfl q7 dt ?_;intro s4 sA s5 q8 q9;obtain ⟨rfl,sB⟩:=q8;refine pe (.string pV) (ab rfl (q9 0 _ rfl)) (pe (i_ (pV.size:Int)) (fD Try.underlying9 rfl) (pe (.bool (decide (o7 < (pV.size:Int)))) (aF rfl rfl) (en rW (oF F (fun pL F=>?_) fun pL F=>?_))))
  ·refine ct pL (sn qp (sg fun _ rX=>bg fun _ rY=>sR fun _ rZ=>pe (pt Y (0 + 0)) (aa pI) (pe (i_ ph) (ab rfl ((S.boxAt 0 rfl) 0 _ rfl)) (pa (i_ ph) (en rZ (bg fun _ r8=>?_))))));obtain ⟨r9,hL,ra⟩:=ob F;refine aC (fun k e w=>∃ (pC:Int),∃ (pd:Int),e 0=.string a0∧e 2=pt o4 0∧e 5=pt Y 0∧e 6=U∧e 7=i_ Z∧e 9=i_ o7∧e 10=i_ pd∧Sat w0 w [Box Y 44 [i_ pC,o9,D],Own R1_ [U] o6,Own R8_ [o9] pi,Own R0_ [D] o8,Box o4 44 [i_ 0,n_,n_]]∧d4 N k a0 0 [] [] pC pi o8 o6 Z o7 pd=some r9) N ?_ ?_ ?_
   ·exact ⟨ph,ph,qb,qc,pI,pJ,pK,qd,rfl,S,hL⟩
   ·rintro e w ⟨_,_,_,_,_,_,_,_,_,_,hz⟩; exact nn hz
   rintro k s6 s7 ⟨pC,pd,pN,pO,pw,px,py,po,pp,S,F⟩;refine gn fun _ pW=>sg fun _ qq=>sR fun _ sa=>pM (i_ pd) pp (pe (.bool (decide (pd < 5))) (aF rfl rfl) (en sa (oF F (fun pP F=>?_) fun pP F=>?_)))
   ·refine ct pP (sn qq (sg fun _ qr=>bg fun _ qu=>sg fun _ sc=>?_));refine cD (by kernel_rfl) (by kernel_rfl) ?_;refine qM (i_ pd) pp (oB F fun qv rb F=>?_);refine bZ (.string qv) jr (fun w' hw'=>(em rb).mono (fun _ _ h=>⟨h.1,h.2.1⟩)) (ca (ac rfl rfl)) dt ?_;refine qM U px (qM (i_ Z) py (oB F fun sd pz F=>?_));obtain ⟨se,ss,qf⟩:=dA 1 S rfl pz;have sC:=lE 1 S rfl pz;refine qe (pt se (Z.toNat * 1)) (c4 (v:=U) rfl qf rfl pz) (qe (.string sd) (ab rfl (S.ownCell 1 rfl qf pz)) (qM (i_ o7) po (qM (i_ o7) po (oB F fun qw rc F=>qe (i_ qw) (aA rfl rfl rc) (oB F fun qx re F=>qe (.string qx) (ik (l:=o7) (h:=qw) Try.underlying9 rfl (.inl (congrArg some rfl)) (.inl (congrArg some rfl)) re) (qe (.bool (eqS qv qx)) (jE rfl rfl) (b9 ?_)))))));intro s8 rf;replace S:=S.ext rf;refine tn sc (oF F (fun pQ F=>?_) fun pQ F=>?_)
    ·refine ct pQ (ai (pM (i_ pd) pp (oB F fun pR rg F=>pe (i_ pR) (aA rfl rfl rg) (pe (pt Y (0 + 0)) (aa pw) ?_))));refine ae (S.top 0 rfl) rfl [i_ pR] rfl rfl dt (all_cons rfl rfl) ?_;intro sf S;replace S:Sat w0 sf [Box Y 44 [i_ pR,o9,D],Own R1_ [U] o6,Own R8_ [o9] pi,Own R0_ [D] o8,Box o4 44 [i_ 0,n_,n_]]:=S;refine ah (bn qu (tn qr (ai (pM (i_ pd) pp (oB F fun pX rh F=>pe (i_ pX) (aA rfl rfl rh) (pa (i_ pX) (en pW ?_)))))));replace S:=S.keep 5;exact ⟨pR,pX,pN,pO,pw,px,py,po,rfl,S,F⟩
    refine cf pQ (bF (bn qu (tn qr (ai (pM (i_ pd) pp (oB F fun pY ri F=>pe (i_ pY) (aA rfl rfl ri) (pa (i_ pY) (en pW ?_))))))));replace S:=S.keep 5;exact ⟨pC,pY,pN,pO,pw,px,py,po,rfl,S,F⟩
   refine cf pP (aE (tx qq (tx pW ?_)));replace F:=exB F ra;refine bS r8 (bn rY (tn rX (ai (pM (i_ o7) po (oB F fun pZ rj F=>pe (i_ pZ) (aA rfl rfl rj) (pa (i_ pZ) (en qn ?_)))))));replace S:=S.keep 5;exact ⟨pC,pZ,pN,pO,pw,px,py,rfl,S,F⟩
  refine cf pL (aE (tx qp (tx qn ?_)));replace F:=exB F qZ;refine bS rT (bn rJ (tn rH (ai (pM (i_ Z) pK (oB F fun p5 rk F=>pe (i_ p5) (aA rfl rfl rk) (pa (i_ p5) (en qk ?_)))))));replace S:=S.t4.t4.t2.t3.t4;replace S:=S.keep 5;exact ⟨ph,o9,pi,p5,qb,qc,pI,pJ,rfl,S,F⟩
 refine cf pH (aE (tx ql (tx qk ?_)));replace F:=exB F qN;refine bS rD (tn rA (sg fun _ p6=>sg fun _ qy=>?_));replace S:=S.r1;refine ai (pe (.agg #[i_ o3,J,D]) (ap (cs:=[i_ o3,J,D]) pk rfl (an (S.boxAt 1 rfl))) (oB F fun qz rl F=>?_));refine aD nf (hQ (S.rdAt (R:=R8_) 0 rfl) (S.rdAt (R:=R0_) 2 rfl) rl) (ca (ac rfl rfl)) dt ?_;rintro _ s9 ⟨rfl,rn,sE⟩;refine ⟨_,rfl,?_⟩;replace S:=S.ext rn;refine pM (.string a0) pG (pe (.bool (!(eqS qz a0))) (nj rfl rfl) (pm (.bool (!(eqS qz a0))) (oF F (fun pf F=>?_) fun pf F=>?_)))
 ·refine ei (aj pf) (pM (.string a0) pG (ei (aj pf) (pe (.bool (eqS a0 ByteArray.empty)) (jE rfl rfl) (pe (.bool (eqS a0 ByteArray.empty)) (am rfl (aj pf) rfl) (en qy (oF F (fun pS F=>?_) fun pS F=>?_))))))
  ·refine ct pS (sg fun _ sh=>?_);replace S:=S.r2.r1.r0;refine ai (pe (.agg #[i_ 0,n_,n_]) (aJ [] [i_ 0,n_,n_] rfl rfl) ?_);refine ae (S.top 0 rfl) pc [i_ 0,n_,n_] rfl rfl dt (all_cons rfl (all_cons rfl (all_cons rfl rfl))) ?_;intro si S;replace S:Sat w0 si [Box o4 44 [i_ 0,n_,n_]]:=S;refine pa (.bool false) (en sh (ag (tr p6 ?_)));replace S:=S.nil R4_ 112;replace S:=S.nil aT 3;refine bo (cs:=[i_ 0,n_,n_]) rfl pc rfl (an (S.boxAt 2 rfl)) rfl ?_;replace S:=S.t1;have hr:=oI F;exact ⟨n_,n_,cR hr fun r=>.tuple #[.agg #[i_ r.1.1,n_,n_],.bool r.2],sP hr (fun r=>[Own R8_ [n_] r.1.2.1,Own R0_ [n_] r.1.2.2]) (S.keep 2)⟩
  refine cf pS (sn p6 (sR fun _ sj=>pe (.agg #[i_ o3,J,D]) (ap (cs:=[i_ o3,J,D]) pk rfl (an (S.boxAt 1 rfl))) ?_));refine ae (S.top 3 rfl) pc [i_ o3,J,D] rfl rfl dt (all_cons rfl (all_cons (oc (S.rdAt (R:=R8_) 0 rfl)) (all_cons (oc (S.rdAt (R:=R0_) 2 rfl)) rfl))) ?_;intro sk S;replace S:Sat w0 sk [Box o4 44 [i_ o3,J,D],Own R8_ [J] pF,Box Y 44 [i_ o3,J,D],Own R0_ [D] o8]:=S;refine pa (.bool true) (en sj (ag ?_));refine bo (cs:=[i_ o3,J,D]) rfl pc rfl (an (S.boxAt 0 rfl)) rfl ?_;replace S:=S.t3.t2;have hr:=oI F;exact ⟨J,D,cR hr fun r=>.tuple #[.agg #[i_ r.1.1,J,D],.bool r.2],sP hr (fun r=>[Own R8_ [J] r.1.2.1,Own R0_ [D] r.1.2.2]) (S.keep 2)⟩
 refine eo (ak pf) (eo (ak pf) (pe (.bool true) (aq rfl (ak pf) rfl) (en qy (ct rfl (sg fun _ sl=>?_)))));replace S:=S.r2.r1.r0;refine ai (pe (.agg #[i_ 0,n_,n_]) (aJ [] [i_ 0,n_,n_] rfl rfl) ?_);refine ae (S.top 0 rfl) pc [i_ 0,n_,n_] rfl rfl dt (all_cons rfl (all_cons rfl (all_cons rfl rfl))) ?_;intro sp S;replace S:Sat w0 sp [Box o4 44 [i_ 0,n_,n_]]:=S;refine pa (.bool false) (en sl (ag (tr p6 ?_)));replace S:=S.nil R4_ 112;replace S:=S.nil aT 3;refine bo (cs:=[i_ 0,n_,n_]) rfl pc rfl (an (S.boxAt 2 rfl)) rfl ?_;replace S:=S.t1;have hr:=oI F;exact ⟨n_,n_,cR hr fun r=>.tuple #[.agg #[i_ r.1.1,n_,n_],.bool r.2],sP hr (fun r=>[Own R8_ [n_] r.1.2.1,Own R0_ [n_] r.1.2.2]) (S.keep 2)⟩
end
section
set_option maxRecDepth 100000
set_option maxHeartbeats 4000000
theorem i3 {w0:World} {o7:World} {G0:List Asn} {b0:Nat} {u0:Value} {a0:List Int} {a1:Int} {a2:Int} (ha0:(au u8R 5).rd o7 [u0] a0) (S:Sat o7 w0 (Box b0 101 [u0,i_ a1,i_ a2] :: G0)) {N:Nat} {r:T9_ × Int × Int} (F:eK N a0 a1 a2=some r): Calls Try.prog 86 #[.pointer (some ⟨b0,0,none⟩)] w0 fun e w'=>∃ (q0:Value) (q1:Value),e=.returned (.agg #[i_ r.1.1,q0,q1])∧Sat o7 w' (Own R8_ [q0] r.1.2.1 :: Own R0_ [q1] r.1.2.2 :: Box b0 101 [u0,i_ r.2.1,i_ r.2.2] :: G0) := by
 unfold eK at F;refine aB Try.func86 rfl rfl dt ?_;refine sR fun _ ri=>?_;refine aw S dt ?_;intro sC o4 S sl;refine en ri (sR fun _ rj=>?_);refine aY (R:=fK) (xs:=([(⟨#[40,88,89,90,41,61,114,40,88,89,41,44,115,40,89,90,41,44,116,40,90,88,41]⟩:ByteArray),(⟨#[40,88,89,90,85,41,61,114,40,88,89,41,44,115,40,89,90,41,44,116,40,90,85,41,44,117,40,85,88,41]⟩:ByteArray),(⟨#[40,88,89,90,41,61,114,40,88,89,41,44,115,40,89,90,41]⟩:ByteArray),(⟨#[40,88,41,61,114,40,88,89,41,44,115,40,89,90,41,44,116,40,90,85,41]⟩:ByteArray),(⟨#[40,88,89,90,41,61,118,40,88,89,90,41,44,114,40,88,89,41]⟩:ByteArray),(⟨#[40,88,89,41,61,114,40,88,89,41,44,114,40,89,88,41]⟩:ByteArray),(⟨#[40,88,89,90,85,41,61,118,40,88,89,90,41,44,115,40,90,85,41,44,116,40,85,88,41]⟩:ByteArray),(⟨#[40,88,41,61,114,40,88,88,41]⟩:ByteArray),(⟨#[40,88,89,41,61,114,40,88,90,41,44,115,40,90,89,41,44,114,40,88,85,41,44,115,40,85,89,41]⟩:ByteArray),(⟨#[40,41,61,114,40,88,89,41,44,115,40,89,88,41]⟩:ByteArray),(⟨#[40,88,89,90,85,86,41,61,114,40,88,89,41,44,115,40,89,90,41,44,116,40,90,85,41,44,117,40,85,86,41]⟩:ByteArray)]:List ByteArray)) [.string (⟨#[40,88,89,90,41,61,114,40,88,89,41,44,115,40,89,90,41,44,116,40,90,88,41]⟩:ByteArray),.string (⟨#[40,88,89,90,85,41,61,114,40,88,89,41,44,115,40,89,90,41,44,116,40,90,85,41,44,117,40,85,88,41]⟩:ByteArray),.string (⟨#[40,88,89,90,41,61,114,40,88,89,41,44,115,40,89,90,41]⟩:ByteArray),.string (⟨#[40,88,41,61,114,40,88,89,41,44,115,40,89,90,41,44,116,40,90,85,41]⟩:ByteArray),.string (⟨#[40,88,89,90,41,61,118,40,88,89,90,41,44,114,40,88,89,41]⟩:ByteArray),.string (⟨#[40,88,89,41,61,114,40,88,89,41,44,114,40,89,88,41]⟩:ByteArray),.string (⟨#[40,88,89,90,85,41,61,118,40,88,89,90,41,44,115,40,90,85,41,44,116,40,85,88,41]⟩:ByteArray),.string (⟨#[40,88,41,61,114,40,88,88,41]⟩:ByteArray),.string (⟨#[40,88,89,41,61,114,40,88,90,41,44,115,40,90,89,41,44,114,40,88,85,41,44,115,40,85,89,41]⟩:ByteArray),.string (⟨#[40,41,61,114,40,88,89,41,44,115,40,89,88,41]⟩:ByteArray),.string (⟨#[40,88,89,90,85,86,41,61,114,40,88,89,41,44,115,40,89,90,41,44,116,40,90,85,41,44,117,40,85,86,41]⟩:ByteArray)] rfl rfl rfl rfl (by rfl) (g7 (xs:=[(⟨#[40,88,89,90,41,61,114,40,88,89,41,44,115,40,89,90,41,44,116,40,90,88,41]⟩:ByteArray),(⟨#[40,88,89,90,85,41,61,114,40,88,89,41,44,115,40,89,90,41,44,116,40,90,85,41,44,117,40,85,88,41]⟩:ByteArray),(⟨#[40,88,89,90,41,61,114,40,88,89,41,44,115,40,89,90,41]⟩:ByteArray),(⟨#[40,88,41,61,114,40,88,89,41,44,115,40,89,90,41,44,116,40,90,85,41]⟩:ByteArray),(⟨#[40,88,89,90,41,61,118,40,88,89,90,41,44,114,40,88,89,41]⟩:ByteArray),(⟨#[40,88,89,41,61,114,40,88,89,41,44,114,40,89,88,41]⟩:ByteArray),(⟨#[40,88,89,90,85,41,61,118,40,88,89,90,41,44,115,40,90,85,41,44,116,40,85,88,41]⟩:ByteArray),(⟨#[40,88,41,61,114,40,88,88,41]⟩:ByteArray),(⟨#[40,88,89,41,61,114,40,88,90,41,44,115,40,90,89,41,44,114,40,88,85,41,44,115,40,85,89,41]⟩:ByteArray),(⟨#[40,41,61,114,40,88,89,41,44,115,40,89,88,41]⟩:ByteArray),(⟨#[40,88,89,90,85,86,41,61,114,40,88,89,41,44,115,40,89,90,41,44,116,40,90,85,41,44,117,40,85,86,41]⟩:ByteArray)]) dt) S dt ?_;intro sE qk S sp;refine pa qk (en rj (sR fun _ rk=>pm (pt b0 0) (pm qk ?_)));replace S:=S.t2;refine oB F fun pA qE F=>?_;refine aD iW (eW ha0 S qE) (ca (ac rfl (ac rfl rfl))) dt ?_;rintro _ rl ⟨rfl,S,qF⟩;refine ⟨_,rfl,?_⟩;replace S:Sat o7 rl (Box b0 101 [u0,i_ pA.2.1,i_ pA.2.2] :: Box o4 44 [i_ 0,n_,n_] :: G0):=S;refine oB F fun D qG F=>?_;refine aD nh (ie qF qG) (ca (ac rfl rfl)) dt ?_;rintro _ sF ⟨J,U,rfl,S'⟩;refine ⟨_,rfl,?_⟩;have sq:=S'.below;replace S:=S.call2 S';refine pm (.tuple #[.agg #[i_ D.1.1,J,U],.bool D.2]) (pe (.agg #[i_ D.1.1,J,U]) (ar rfl rfl) (pe (.bool D.2) (ar rfl rfl) ?_));refine aw S dt ?_;intro sG o5 S ss;refine ae (S.top 0 rfl) rfl [i_ D.1.1,J,U] rfl rfl dt (all_cons rfl (all_cons (oc (S.rdAt (R:=R8_) 1 rfl)) (all_cons (oc (S.rdAt (R:=R0_) 2 rfl)) rfl))) ?_;intro rn S;replace S:Sat o7 rn (Box o5 44 [i_ D.1.1,J,U] :: Own R8_ [J] D.1.2.1 :: Own R0_ [U] D.1.2.2 :: Box b0 101 [u0,i_ pA.2.1,i_ pA.2.2] :: Box o4 44 [i_ 0,n_,n_] :: G0):=S;refine pa (.bool D.2) (en rk (sg fun _ ql=>sR fun _ ro=>pm (pt b0 0) ?_));replace S:=S.t3;refine oB F fun pv qH F=>?_;refine aD iZ (e7 ha0 S qH) (ca (ac rfl (ac rfl rfl))) dt ?_;rintro _ rp ⟨rfl,S⟩;refine ⟨_,rfl,?_⟩;replace S:Sat o7 rp (Box b0 101 [u0,i_ pv.2.1,i_ pv.2.2] :: Box o5 44 [i_ D.1.1,J,U] :: Own R8_ [J] D.1.2.1 :: Own R0_ [U] D.1.2.2 :: Box o4 44 [i_ 0,n_,n_] :: G0):=S;refine pe (.bool (!pv.1)) (aQ rfl) (en ro (oF F (fun pB F=>?_) fun pB F=>?_))
 ·refine cf (aj pB) (sn ql (sR fun _ rq=>pm (pt b0 0) (oB F fun pC qI F=>?_)));refine aD ej (bp ha0 S qI) (ca (ac rfl (ac rfl rfl))) dt ?_;rintro _ rr ⟨rfl,S⟩;refine ⟨_,rfl,?_⟩;replace S:Sat o7 rr (Box b0 101 [u0,i_ pC.2.1,i_ pC.2.2] :: Box o5 44 [i_ D.1.1,J,U] :: Own R8_ [J] D.1.2.1 :: Own R0_ [U] D.1.2.2 :: Box o4 44 [i_ 0,n_,n_] :: G0):=S;refine oB F fun Z qJ F=>pe (i_ Z) (aA rfl rfl qJ) (pe (.agg #[i_ Z,n_,n_]) (aJ [(0,[i_ Z])] [i_ Z,n_,n_] (dG rfl rfl) rfl) ?_);refine aw S dt ?_;intro sH o3 S st;refine ae (S.top 0 rfl) rfl [i_ Z,n_,n_] rfl rfl dt (all_cons rfl (all_cons rfl (all_cons rfl rfl))) ?_;intro rt S;replace S:Sat o7 rt (Box o3 44 [i_ Z,n_,n_] :: Box b0 101 [u0,i_ pC.2.1,i_ pC.2.2] :: Box o5 44 [i_ D.1.1,J,U] :: Own R8_ [J] D.1.2.1 :: Own R0_ [U] D.1.2.2 :: Box o4 44 [i_ 0,n_,n_] :: G0):=S;refine en rq (sg fun _ ru=>sR fun _ rv=>pm (pt b0 0) ?_);replace S:=S.t1;refine oB F fun pD qK F=>?_;refine aD ej (bp ha0 S qK) (ca (ac rfl (ac rfl rfl))) dt ?_;rintro _ rx ⟨rfl,S⟩;refine ⟨_,rfl,?_⟩;replace S:Sat o7 rx (Box b0 101 [u0,i_ pD.2.1,i_ pD.2.2] :: Box o3 44 [i_ Z,n_,n_] :: Box o5 44 [i_ D.1.1,J,U] :: Own R8_ [J] D.1.2.1 :: Own R0_ [U] D.1.2.2 :: Box o4 44 [i_ 0,n_,n_] :: G0):=S;refine oB F fun pV qL F=>pe (i_ pV) (aA rfl rfl qL) (pa (i_ pV) (en rv (bg fun _ ry=>?_)));replace S:=S.nil R4_ 112;obtain ⟨rz,hL,qN⟩:=ob F;refine aC (fun k e w=>∃ (pE:Int),∃ (pF:Int),∃ (Y:Value),∃ (o9:List T3_),∃ (pj:Int),e 0=pt b0 0∧e 2=pt o4 0∧e 4=pt o5 0∧e 6=pt o3 0∧e 7=i_ pj∧Sat o7 w (Own R8_ [Y] o9 :: Box b0 101 [u0,i_ pE,i_ pF] :: Box o3 44 [i_ Z,Y,n_] :: Box o5 44 [i_ D.1.1,J,U] :: Own R8_ [J] D.1.2.1 :: Own R0_ [U] D.1.2.2 :: Box o4 44 [i_ 0,n_,n_] :: G0)∧dx N k a0 pE pF 0 [] [] D.1.1 D.1.2.1 D.1.2.2 Z o9 [] pj=some rz) N ?_ ?_ ?_
  ·exact ⟨pD.2.1,pD.2.2,n_,[],pV,rfl,rfl,rfl,rfl,rfl,S,hL⟩
  ·rintro e w ⟨_,_,_,_,_,_,_,_,_,_,_,hz⟩; exact nn hz
  rintro k sI sJ ⟨pE,pF,Y,o9,pj,pG,p7,p8,p9,qa,S,F⟩;refine gn fun _ qn=>sg fun _ qp=>sR fun _ rA=>pM (i_ pj) qa (pe (.bool (decide (0 < pj))) (cg rfl rfl) (en rA (oF F (fun pH F=>?_) fun pH F=>?_)))
  ·refine ct pH (sn qp (sg fun _ rC=>bg fun _ rD=>sR fun _ rE=>pM (pt b0 0) pG ?_));replace S:=S.t1;refine oB F fun pf qO F=>?_;refine aD ej (bp ha0 S qO) (ca (ac rfl (ac rfl rfl))) dt ?_;rintro _ rF ⟨rfl,S⟩;refine ⟨_,rfl,?_⟩;replace S:Sat o7 rF (Box b0 101 [u0,i_ pf.2.1,i_ pf.2.2] :: Own R8_ [Y] o9 :: Box o3 44 [i_ Z,Y,n_] :: Box o5 44 [i_ D.1.1,J,U] :: Own R8_ [J] D.1.2.1 :: Own R0_ [U] D.1.2.2 :: Box o4 44 [i_ 0,n_,n_] :: G0):=S;refine pa (i_ pf.1) (en rE (sR fun _ rG=>?_));refine aY (R:=fK) (xs:=([(⟨#[114]⟩:ByteArray),(⟨#[115]⟩:ByteArray),(⟨#[116]⟩:ByteArray),(⟨#[117]⟩:ByteArray),(⟨#[118]⟩:ByteArray)]:List ByteArray)) [.string (⟨#[114]⟩:ByteArray),.string (⟨#[115]⟩:ByteArray),.string (⟨#[116]⟩:ByteArray),.string (⟨#[117]⟩:ByteArray),.string (⟨#[118]⟩:ByteArray)] rfl rfl rfl rfl (by rfl) (g7 (xs:=[(⟨#[114]⟩:ByteArray),(⟨#[115]⟩:ByteArray),(⟨#[116]⟩:ByteArray),(⟨#[117]⟩:ByteArray),(⟨#[118]⟩:ByteArray)]) dt) S dt ?_;intro rH rJ S su;refine pm (i_ pf.1) (oB F fun o8 qP F=>?_);refine aR (wA:=rH) rfl (S.rdAt (R:=R1_) 0 rfl) rfl dt rfl qP dt ?_;intro sK sv sL qQ pI;obtain ⟨rfl,qR⟩:=qQ;refine pe (.string o8) (ab rfl (pI 0 _ rfl)) (pe (.agg #[.string o8,n_]) (aJ [(0,[.string o8])] [.string o8,n_] (dG rfl rfl) rfl) ?_);refine aw S dt ?_;intro sM pg S qS;have pI:=ax qS pI;refine ae (S.top 0 rfl) rfl [.string o8,n_] rfl rfl dt (all_cons rfl (all_cons rfl rfl)) ?_;intro rK S;replace S:Sat o7 rK (Box pg 112 [.string o8,n_] :: Own R1_ [rJ] ([(⟨#[114]⟩:ByteArray),(⟨#[115]⟩:ByteArray),(⟨#[116]⟩:ByteArray),(⟨#[117]⟩:ByteArray),(⟨#[118]⟩:ByteArray)]:List ByteArray) :: Box b0 101 [u0,i_ pf.2.1,i_ pf.2.2] :: Own R8_ [Y] o9 :: Box o3 44 [i_ Z,Y,n_] :: Box o5 44 [i_ D.1.1,J,U] :: Own R8_ [J] D.1.2.1 :: Own R0_ [U] D.1.2.2 :: Box o4 44 [i_ 0,n_,n_] :: G0):=S;refine en rG (sg fun _ rL=>sg fun _ rM=>?_);replace S:=S.r1;refine ai (pm (i_ pf.1) (oB F fun rN qT F=>pe (i_ rN) (dL rfl rfl qT) (oB F fun pW qU F=>pe (i_ pW) (aA rfl rfl qU) (pa (i_ pW) (en rM (bg fun _ rO=>?_))))));replace S:=S.nil aT 3;obtain ⟨rP,hL,qV⟩:=ob F;refine aC (fun k e w=>∃ (pw:Int),∃ (px:Int),∃ (pc:Value),∃ (pJ:List Int),∃ (pq:Int),e 0=pt b0 0∧e 2=pt o4 0∧e 4=pt o5 0∧e 6=pt o3 0∧e 7=i_ pj∧e 9=pt pg 0∧e 10=i_ pq∧Sat o7 w (Own R0_ [pc] pJ :: Box pg 112 [.string o8,pc] :: Box b0 101 [u0,i_ pw,i_ px] :: Own R8_ [Y] o9 :: Box o3 44 [i_ Z,Y,n_] :: Box o5 44 [i_ D.1.1,J,U] :: Own R8_ [J] D.1.2.1 :: Own R0_ [U] D.1.2.2 :: Box o4 44 [i_ 0,n_,n_] :: G0)∧dw N k a0 pw px 0 [] [] D.1.1 D.1.2.1 D.1.2.2 Z o9 [] pj o8 pJ pq=some rP) N ?_ ?_ ?_
   ·exact ⟨pf.2.1,pf.2.2,n_,[],pW,pG,p7,p8,p9,qa,rfl,rfl,S,hL⟩
   ·rintro e w ⟨_,_,_,_,_,_,_,_,_,_,_,_,_,hz⟩; exact nn hz
   rintro k sN sO ⟨pw,px,pc,pJ,pq,pK,qb,qc,pp,qd,pr,qf,S,F⟩;refine gn fun _ qq=>sg fun _ qr=>sR fun _ rQ=>pM (i_ pq) qf (pe (.bool (decide (0 < pq))) (cg rfl rfl) (en rQ (oF F (fun pL F=>?_) fun pL F=>?_)))
   ·refine ct pL (sn qr (sg fun _ rR=>bg fun _ rS=>?_));obtain ⟨C,hCd⟩:∃ C:World → Prop,∀ w,C w ↔ ∃ G,Sat o7 w ([Box pg 112 [.string o8,pc],Box o3 44 [i_ Z,Y,n_]] ++ G):=⟨_,fun _=>Iff.rfl⟩;refine di [0,1,2,3,4,5,6,7,8] C (by kernel_rfl) ?_;intro sQ qW;replace S:=S.ext qW;replace S:=S.t4.t2;have hC:=(hCd _).2 ⟨_,S⟩;refine aP (pt pg (0 + 1)) 0 rfl rfl hC (av rfl (fun w' hw'=>by obtain ⟨_,S⟩:=(hCd _).1 hw'; exact (aa pr))) ?_;refine aP pc 1 rfl rfl hC (av rfl (fun w' hw'=>by obtain ⟨_,S⟩:=(hCd _).1 hw'; exact (ab rfl ((S.boxAt 0 rfl) 1 _ rfl)))) ?_;refine aP (pt b0 0) 2 rfl rfl hC (av rfl (fun w' hw'=>by obtain ⟨_,S⟩:=(hCd _).1 hw'; exact (aG pK))) ?_;refine aO 3 rfl ?_;refine pe (pt o3 (0 + 0)) (aa pp) (ah ?_);refine ⟨fun _=>hC,?_⟩;refine aO 4 rfl ?_;refine pe (i_ Z) (ab rfl ((S.boxAt 1 rfl) 0 _ rfl)) (ah ?_);refine ⟨fun _=>hC,?_⟩;refine aO 5 rfl ?_;replace S:=S.t3;refine oB F fun ph qX F=>?_;refine aD ej (bp ha0 S qX) (ca (ac rfl (ac rfl rfl))) dt ?_;rintro _ rT ⟨rfl,S⟩;refine ⟨_,rfl,?_⟩;replace S:Sat o7 rT (Box b0 101 [u0,i_ ph.2.1,i_ ph.2.2] :: Box pg 112 [.string o8,pc] :: Box o3 44 [i_ Z,Y,n_] :: Own R0_ [pc] pJ :: Own R8_ [Y] o9 :: Box o5 44 [i_ D.1.1,J,U] :: Own R8_ [J] D.1.2.1 :: Own R0_ [U] D.1.2.2 :: Box o4 44 [i_ 0,n_,n_] :: G0):=S;refine ah ?_;replace S:=S.t2.t2;have hC:=(hCd _).2 ⟨_,S⟩;refine ⟨fun _=>hC,?_⟩;refine aO 6 rfl ?_;refine aI [i_ ph.1] rfl (by rfl) dt rfl dt S dt ?_;intro sS rU S sw;refine ah ?_;replace S:=S.t2.t2;have hC:=(hCd _).2 ⟨_,S⟩;refine ⟨fun _=>hC,?_⟩;refine aO 7 rfl ?_;refine oB F fun qu qY F=>?_;have qg:=S.boxRow 2 rfl;replace S:=S.t4;replace S:=S.int ph.1;replace S:=S.one;refine bD rfl dt rfl dt S rfl rfl rfl (by simp) qg qY dt ?_;intro sT pN S;refine ah ?_;replace S:=S.t2.t2;have hC:=(hCd _).2 ⟨_,S⟩;refine ⟨fun _=>hC,?_⟩;refine aO 8 rfl ?_;refine pe (pt pg (0 + 1)) (aa pr) (ah ?_);refine ⟨fun _=>hC,?_⟩;refine aO 9 rfl ?_;refine ae (S.top 0 rfl) rfl [pN] (bq rfl (oc (S.rdAt (R:=R0_) 2 rfl))) rfl dt (all_cons (oc (S.rdAt (R:=R0_) 2 rfl)) rfl) ?_;intro rV S;replace S:Sat o7 rV (Box pg 112 [.string o8,pN] :: Box o3 44 [i_ Z,Y,n_] :: Own R0_ [pN] qu :: Box rU 3 [i_ ph.1] :: Box b0 101 [u0,i_ ph.2.1,i_ ph.2.2] :: Own R8_ [Y] o9 :: Box o5 44 [i_ D.1.1,J,U] :: Own R8_ [J] D.1.2.1 :: Own R0_ [U] D.1.2.2 :: Box o4 44 [i_ 0,n_,n_] :: G0):=S;refine ah ?_;refine ⟨fun h=>(nomatch (show false=true from h)),?_⟩;refine cd (by kernel_rfl) ?_;refine bn rS (tn rR ?_);replace S:=S.r3;refine ai (pM (i_ pq) qf (oB F fun pX qZ F=>pe (i_ pX) (cT rfl rfl qZ) (pa (i_ pX) (en qq ?_))));replace S:=S.t8.t8.t8.t8.t5.t8.t8.t7.t8;exact ⟨ph.2.1,ph.2.2,pN,qu,pX,pK,qb,qc,pp,qd,pr,rfl,S,F⟩
   refine cf pL (aE (tx qr (tx qq ?_)));replace F:=exB F qV;refine bS rO (tn rL (ai (pe (pt o3 (0 + 1)) (aa pp) (pe Y (ab rfl ((S.boxAt 4 rfl) 1 _ rfl)) (pe (.agg #[.string o8,pc]) (ap (cs:=[.string o8,pc]) pr rfl (an (S.boxAt 1 rfl))) ?_)))));refine aI [.string o8,pc] rfl (by rfl) dt rfl dt S dt ?_;intro sU rW S sx;refine oB F fun qv q7 F=>?_;have qh:=S.boxRow 0 rfl;replace S:=S.t4;replace S:=S.t2;replace S:=S.str o8 qR;replace S:=S.pair;replace S:=S.one;refine bD rfl dt rfl dt S rfl rfl rfl (by simp) qh q7 dt ?_;intro sV pO S;refine pe (pt o3 (0 + 1)) (aa pp) ?_;refine ae (S.top 4 rfl) rfl [pO] (bq rfl (oc (S.rdAt (R:=R8_) 0 rfl))) rfl dt (all_cons (oc (S.rdAt (R:=R8_) 0 rfl)) rfl) ?_;intro rX S;replace S:Sat o7 rX (Box o3 44 [i_ Z,pO,n_] :: Own R8_ [pO] qv :: Box rW 112 [.string o8,pc] :: Box pg 112 [.string o8,pc] :: Box b0 101 [u0,i_ pw,i_ px] :: Box o5 44 [i_ D.1.1,J,U] :: Own R8_ [J] D.1.2.1 :: Own R0_ [U] D.1.2.2 :: Box o4 44 [i_ 0,n_,n_] :: G0):=S;refine ah (bn rD (tn rC ?_));replace S:=S.r3.r2;refine ai (pM (i_ pj) qd (oB F fun pY q8 F=>pe (i_ pY) (cT rfl rfl q8) (pa (i_ pY) (en qn ?_))));replace S:=S.t6.t6.t6.t6.t4.t6.t6;exact ⟨pw,px,pO,qv,pY,pK,qb,qc,pp,rfl,S,F⟩
  refine cf pH (aE (tx qp (tx qn ?_)));replace F:=exB F qN;refine bS ry (tn ru (sg fun _ rY=>sR fun _ rZ=>pa (i_ 0) (en rZ (bg fun _ r8=>?_))));replace S:=S.nil aT 3;obtain ⟨r9,hL,q9⟩:=ob F;refine aC (fun k e w=>∃ (py:Int),∃ (pz:Int),∃ (o6:Value),∃ (pk:List Int),∃ (pd:Int),e 0=pt b0 0∧e 2=pt o4 0∧e 4=pt o5 0∧e 6=pt o3 0∧e 11=i_ pd∧Sat o7 w (Own R0_ [o6] pk :: Own R8_ [Y] o9 :: Box b0 101 [u0,i_ py,i_ pz] :: Box o3 44 [i_ Z,Y,o6] :: Box o5 44 [i_ D.1.1,J,U] :: Own R8_ [J] D.1.2.1 :: Own R0_ [U] D.1.2.2 :: Box o4 44 [i_ 0,n_,n_] :: G0)∧cA N k a0 py pz 0 [] [] D.1.1 D.1.2.1 D.1.2.2 Z o9 pk pd=some r9) N ?_ ?_ ?_
  ·exact ⟨pE,pF,n_,[],0,pG,p7,p8,p9,rfl,S,hL⟩
  ·rintro e w ⟨_,_,_,_,_,_,_,_,_,_,_,hz⟩; exact nn hz
  rintro k sW sX ⟨py,pz,o6,pk,pd,pP,po,pQ,pi,pu,S,F⟩;refine gn fun _ pZ=>sg fun _ qw=>sR fun _ sa=>pM (i_ pd) pu (pe (pt o3 (0 + 0)) (aa pi) (pe (i_ Z) (ab rfl ((S.boxAt 3 rfl) 0 _ rfl)) (pe (.bool (decide (pd < Z))) (aF rfl rfl) (en sa (oF F (fun pR F=>?_) fun pR F=>?_)))))
  ·refine ct pR (sn qw (sg fun _ qx=>bg fun _ qy=>sR fun _ sc=>pM (pt b0 0) pP ?_));replace S:=S.t2;refine oB F fun pn ra F=>?_;refine aD iZ (e7 ha0 S ra) (ca (ac rfl (ac rfl rfl))) dt ?_;rintro _ sd ⟨rfl,S⟩;refine ⟨_,rfl,?_⟩;replace S:Sat o7 sd (Box b0 101 [u0,i_ pn.2.1,i_ pn.2.2] :: Own R0_ [o6] pk :: Own R8_ [Y] o9 :: Box o3 44 [i_ Z,Y,o6] :: Box o5 44 [i_ D.1.1,J,U] :: Own R8_ [J] D.1.2.1 :: Own R0_ [U] D.1.2.2 :: Box o4 44 [i_ 0,n_,n_] :: G0):=S;refine en sc (oF F (fun pS F=>?_) fun pS F=>?_)
   ·refine ct pS (ai (pM (i_ pd) pu ?_));refine aI [i_ pd] rfl (by rfl) dt rfl dt S dt ?_;intro sY sZ S sy;replace S:=S.int pd;replace S:=S.t1;replace S:=S.lit1;refine pe (pt o3 (0 + 2)) (aa pi) (pe o6 (ab rfl ((S.boxAt 4 rfl) 2 _ rfl)) (oB F fun qz rb F=>?_));obtain ⟨sA,s4,rc,re,qj⟩:=mh (S.rdAt (R:=R0_) 2 rfl);replace S:=S.ints (xs:=pk);refine bD rfl dt rfl dt S rfl (rfl.trans rc) rfl re qj rb dt ?_;intro s5 pT S;refine pe (pt o3 (0 + 2)) (aa pi) ?_;refine ae (S.top 4 rfl) rfl [pT] (bq rfl (oc (S.rdAt (R:=R0_) 0 rfl))) rfl dt (all_cons (oc (S.rdAt (R:=R0_) 0 rfl)) rfl) ?_;intro se S;replace S:Sat o7 se (Box o3 44 [i_ Z,Y,pT] :: Own R0_ [pT] qz :: Box b0 101 [u0,i_ pn.2.1,i_ pn.2.2] :: Own R0_ [o6] pk :: Own R8_ [Y] o9 :: Box o5 44 [i_ D.1.1,J,U] :: Own R8_ [J] D.1.2.1 :: Own R0_ [U] D.1.2.2 :: Box o4 44 [i_ 0,n_,n_] :: G0):=S;refine ah (bn qy (tn qx ?_));replace S:=S.r3;refine ai (pM (i_ pd) pu (oB F fun p5 rf F=>pe (i_ p5) (aA rfl rfl rf) (pa (i_ p5) (en pZ ?_))));replace S:=S.t7.t7.t7.t7.t4.t6.t7.t7;exact ⟨pn.2.1,pn.2.2,pT,qz,p5,pP,po,pQ,pi,rfl,S,F⟩
   refine cf pS (bF (bn qy (tn qx (ai (pM (i_ pd) pu (oB F fun p6 rg F=>pe (i_ p6) (aA rfl rfl rg) (pa (i_ p6) (en pZ ?_))))))));replace S:=S.t7.t7.t7.t7.t7.t5.t7.t7;exact ⟨pn.2.1,pn.2.2,o6,pk,p6,pP,po,pQ,pi,rfl,S,F⟩
  refine cf pR (aE (tx qw (tx pZ ?_)));replace F:=exB F q9;refine bS r8 (tn rY (sg fun _ qA=>sR fun _ sf=>pe (.agg #[i_ Z,Y,o6]) (ap (cs:=[i_ Z,Y,o6]) pi rfl (an (S.boxAt 3 rfl))) (oB F fun sh rh F=>?_)));refine ec0 jp (dH (S.rdAt (R:=R8_) 1 rfl) (S.rdAt (R:=R0_) 0 rfl) rh) (ca (ac rfl rfl)) S fun s6 sB S=>?_;refine pe (.bool (!sh)) (aQ rfl) (en sf (oF F (fun pU F=>?_) fun pU F=>?_))
  ·refine cf (aj pU) (sn qA (sg fun _ si=>?_));replace S:=S.r6.r5.r4;refine ai (pe (.agg #[i_ Z,Y,o6]) (ap (cs:=[i_ Z,Y,o6]) pi rfl (an (S.boxAt 3 rfl))) ?_);refine ae (S.top 4 rfl) po [i_ Z,Y,o6] rfl rfl dt (all_cons rfl (all_cons (oc (S.rdAt (R:=R8_) 1 rfl)) (all_cons (oc (S.rdAt (R:=R0_) 0 rfl)) rfl))) ?_;intro qB S;replace S:Sat o7 qB (Box o4 44 [i_ Z,Y,o6] :: Own R0_ [o6] pk :: Own R8_ [Y] o9 :: Box b0 101 [u0,i_ py,i_ pz] :: Box o3 44 [i_ Z,Y,o6] :: G0):=S;refine en si (ag ?_);refine fd (cs:=[i_ Z,Y,o6]) rfl po rfl (an (S.boxAt 0 rfl))  ?_;replace S:=S.t3.t2.t3;have hr:=oI F;replace S:=S.r4.r3;exact ⟨Y,o6,(cR hr fun r=>.agg #[i_ r.1.1,Y,o6] :),Eq.mp (congrArg (fun (r:T9_ × Int × Int)=>Sat o7 qB (Own R8_ [Y] r.1.2.1 :: Own R0_ [o6] r.1.2.2 :: Box b0 101 [u0,i_ r.2.1,i_ r.2.2] :: G0)) hr :) S⟩
  refine ct (ak pU) (sg fun _ sj=>?_);replace S:=S.r3.r1.r0;refine ai (pe (.agg #[i_ D.1.1,J,U]) (ap (cs:=[i_ D.1.1,J,U]) pQ rfl (an (S.boxAt 1 rfl))) ?_);refine ae (S.top 4 rfl) po [i_ D.1.1,J,U] rfl rfl dt (all_cons rfl (all_cons (oc (S.rdAt (R:=R8_) 2 rfl)) (all_cons (oc (S.rdAt (R:=R0_) 3 rfl)) rfl))) ?_;intro qC S;replace S:Sat o7 qC (Box o4 44 [i_ D.1.1,J,U] :: Box b0 101 [u0,i_ py,i_ pz] :: Box o5 44 [i_ D.1.1,J,U] :: Own R8_ [J] D.1.2.1 :: Own R0_ [U] D.1.2.2 :: G0):=S;refine en sj (ag (tr qA ?_));refine fd (cs:=[i_ D.1.1,J,U]) rfl po rfl (an (S.boxAt 0 rfl))  ?_;replace S:=S.t1.t4.t4;have hr:=oI F;replace S:=S.r4.r3;exact ⟨J,U,(cR hr fun r=>.agg #[i_ r.1.1,J,U] :),Eq.mp (congrArg (fun (r:T9_ × Int × Int)=>Sat o7 qC (Own R8_ [J] r.1.2.1 :: Own R0_ [U] r.1.2.2 :: Box b0 101 [u0,i_ r.2.1,i_ r.2.2] :: G0)) hr :) S⟩
 refine ct (ak pB) (sR fun _ sk=>pe (.agg #[i_ D.1.1,J,U]) (ap (cs:=[i_ D.1.1,J,U]) rfl rfl (an (S.boxAt 1 rfl))) ?_);refine ae (S.top 4 rfl) rfl [i_ D.1.1,J,U] rfl rfl dt (all_cons rfl (all_cons (oc (S.rdAt (R:=R8_) 2 rfl)) (all_cons (oc (S.rdAt (R:=R0_) 3 rfl)) rfl))) ?_;intro qD S;replace S:Sat o7 qD (Box o4 44 [i_ D.1.1,J,U] :: Box b0 101 [u0,i_ pv.2.1,i_ pv.2.2] :: Box o5 44 [i_ D.1.1,J,U] :: Own R8_ [J] D.1.2.1 :: Own R0_ [U] D.1.2.2 :: G0):=S;refine en sk (ag (tr ql ?_));refine fd (cs:=[i_ D.1.1,J,U]) rfl rfl rfl (an (S.boxAt 0 rfl))  ?_;replace S:=S.t1.t4.t4;have hr:=oI F;replace S:=S.r4.r3;exact ⟨J,U,(cR hr fun r=>.agg #[i_ r.1.1,J,U] :),Eq.mp (congrArg (fun (r:T9_ × Int × Int)=>Sat o7 qD (Own R8_ [J] r.1.2.1 :: Own R0_ [U] r.1.2.2 :: Box b0 101 [u0,i_ r.2.1,i_ r.2.2] :: G0)) hr :) S⟩
theorem hG {w0:World} {o4:World} {G0:List Asn} {b0:Nat} {u0:Value} {a0:List Int} {a1:Int} {a2:Int} (ha0:(au u8R 5).rd o4 [u0] a0) (S:Sat o4 w0 (Box b0 101 [u0,i_ a1,i_ a2] :: G0)) {N:Nat} {r:T9_ × Int × Int} (F:eV N a0 a1 a2=some r): Calls Try.prog 53 #[.pointer (some ⟨b0,0,none⟩)] w0 fun e w'=>∃ (q0:Value) (q1:Value),e=.returned (.agg #[i_ r.1.1,q0,q1])∧Sat o4 w' (Own R8_ [q0] r.1.2.1 :: Own R0_ [q1] r.1.2.2 :: Box b0 101 [u0,i_ r.2.1,i_ r.2.2] :: G0) := by
 unfold eV at F;refine aB Try.func53 rfl rfl dt ?_;refine sR fun _ qz=>?_;refine aw S dt ?_;intro rk o5 S rb;refine en qz (sR fun _ qA=>pm (pt b0 0) ?_);replace S:=S.t1;refine oB F fun D p6 F=>?_;refine aD oa (i3 ha0 S p6) (ca (ac rfl rfl)) dt ?_;rintro _ qB ⟨U,J,rfl,S⟩;refine ⟨_,rfl,?_⟩;replace S:Sat o4 qB (Own R8_ [U] D.1.2.1 :: Own R0_ [J] D.1.2.2 :: Box b0 101 [u0,i_ D.2.1,i_ D.2.2] :: Box o5 44 [i_ 0,n_,n_] :: G0):=S;refine aw S dt ?_;intro rl Y S rc;refine ae (S.top 0 rfl) rfl [i_ D.1.1,U,J] rfl rfl dt (all_cons rfl (all_cons (oc (S.rdAt (R:=R8_) 1 rfl)) (all_cons (oc (S.rdAt (R:=R0_) 2 rfl)) rfl))) ?_;intro qC S;replace S:Sat o4 qC (Box Y 44 [i_ D.1.1,U,J] :: Own R8_ [U] D.1.2.1 :: Own R0_ [J] D.1.2.2 :: Box b0 101 [u0,i_ D.2.1,i_ D.2.2] :: Box o5 44 [i_ 0,n_,n_] :: G0):=S;refine en qA (sg fun _ pj=>sR fun _ qD=>pm (pt b0 0) ?_);replace S:=S.t3;refine oB F fun o7 p7 F=>?_;refine aD ej (bp ha0 S p7) (ca (ac rfl (ac rfl rfl))) dt ?_;rintro _ pO ⟨rfl,S⟩;refine ⟨_,rfl,?_⟩;replace S:Sat o4 pO (Box b0 101 [u0,i_ o7.2.1,i_ o7.2.2] :: Box Y 44 [i_ D.1.1,U,J] :: Own R8_ [U] D.1.2.1 :: Own R0_ [J] D.1.2.2 :: Box o5 44 [i_ 0,n_,n_] :: G0):=S;refine en qD (bg fun _ pk=>sR fun _ qE=>pe (.bool (o7.1 == 0)) (cv rfl rfl) (pa (.bool (o7.1 == 0)) (en qE (oF F (fun pv F=>?_) fun pv F=>?_))))
 ·refine ct pv (ai (pm (pt b0 0) (pe (pt Y (0 + 0)) (aa rfl) (pe (i_ D.1.1) (ab rfl ((S.boxAt 1 rfl) 0 _ rfl)) (oB F fun pw p8 F=>pe (i_ pw) (aA rfl rfl p8) ?_)))));refine aY (R:=aT) (xs:=([0,6,pw]:List Int)) [i_ 0,i_ 6,i_ pw] rfl rfl rfl rfl (gP rfl (gP rfl (gP rfl rfl))) (dC ([0,6,pw]:List Int)) S dt ?_;intro rn ro S re;replace S:=S.t1;refine oB F fun o8 p9 F=>?_;refine aD ez (bh ha0 S p9) (ca (ac rfl (ac rfl rfl))) dt ?_;rintro _ qF ⟨rfl,S⟩;refine ⟨_,rfl,?_⟩;replace S:Sat o4 qF (Box b0 101 [u0,i_ o8.2.1,i_ o8.2.2] :: Box Y 44 [i_ D.1.1,U,J] :: Own R8_ [U] D.1.2.1 :: Own R0_ [J] D.1.2.2 :: Box o5 44 [i_ 0,n_,n_] :: G0):=S;refine pe (pt Y (0 + 0)) (aa rfl) ?_;refine ae (S.top 1 rfl) rfl [i_ o8.1] rfl rfl dt (all_cons rfl rfl) ?_;intro qG S;replace S:Sat o4 qG (Box Y 44 [i_ o8.1,U,J] :: Box b0 101 [u0,i_ o8.2.1,i_ o8.2.2] :: Own R8_ [U] D.1.2.1 :: Own R0_ [J] D.1.2.2 :: Box o5 44 [i_ 0,n_,n_] :: G0):=S;refine ah (bn pk (tn pj (sR fun _ qH=>pe (.agg #[i_ o8.1,U,J]) (ap (cs:=[i_ o8.1,U,J]) rfl rfl (an (S.boxAt 0 rfl))) ?_)));refine ae (S.top 4 rfl) rfl [i_ o8.1,U,J] rfl rfl dt (all_cons rfl (all_cons (oc (S.rdAt (R:=R8_) 2 rfl)) (all_cons (oc (S.rdAt (R:=R0_) 3 rfl)) rfl))) ?_;intro pP S;replace S:Sat o4 pP (Box o5 44 [i_ o8.1,U,J] :: Box Y 44 [i_ o8.1,U,J] :: Box b0 101 [u0,i_ o8.2.1,i_ o8.2.2] :: Own R8_ [U] D.1.2.1 :: Own R0_ [J] D.1.2.2 :: G0):=S;refine en qH (ag ?_);refine fd (cs:=[i_ o8.1,U,J]) rfl rfl rfl (an (S.boxAt 0 rfl))  ?_;replace S:=S.t2.t4.t4;have hr:=oI F;replace S:=S.r4.r3;exact ⟨U,J,(cR hr fun r=>.agg #[i_ r.1.1,U,J] :),Eq.mp (congrArg (fun (r:T9_ × Int × Int)=>Sat o4 pP (Own R8_ [U] r.1.2.1 :: Own R0_ [J] r.1.2.2 :: Box b0 101 [u0,i_ r.2.1,i_ r.2.2] :: G0)) hr :) S⟩
 refine cf pv (sR fun _ qI=>pe (.bool (o7.1 == 1)) (cv rfl rfl) (pa (.bool (o7.1 == 1)) (en qI (oF F (fun px F=>?_) fun px F=>?_))))
 ·refine ct px (oB F fun Z py F=>oB F fun po pz F=>?_);refine gI (fun e w=>∃ (o3:Value),e 2=pt o5 0∧e 3=pt Y 0∧Sat o4 w (Box Y 44 [i_ D.1.1,o3,J] :: Box o5 44 [i_ 0,n_,n_] :: Own R0_ [J] D.1.2.2 :: Own R8_ [o3] po :: Box b0 101 [u0,i_ Z.2.1,i_ Z.2.2] :: G0)) ?_ ?_
  ·obtain ⟨C,hCd⟩:∃ C:World → Prop,∀ w,C w ↔ ∃ G,Sat o4 w ([Box Y 44 [i_ D.1.1,U,J]] ++ G):=⟨_,fun _=>Iff.rfl⟩;refine di [0,1,2,3,4,5,6,7,8,9] C (by kernel_rfl) ?_;intro rp qa;replace S:=S.ext qa;replace S:=S.t1;have hC:=(hCd _).2 ⟨_,S⟩;refine aP (pt Y (0 + 1)) 0 rfl rfl hC (av rfl (fun w' hw'=>by obtain ⟨_,S⟩:=(hCd _).1 hw'; exact (aa rfl))) ?_;refine aP U 1 rfl rfl hC (av rfl (fun w' hw'=>by obtain ⟨_,S⟩:=(hCd _).1 hw'; exact (ab rfl ((S.boxAt 0 rfl) 1 _ rfl)))) ?_;refine aP (pt b0 0) 2 rfl rfl hC (av rfl (fun w' hw'=>by obtain ⟨_,S⟩:=(hCd _).1 hw'; exact (aG rfl))) ?_;refine fh 3 5 (by kernel_rfl) rfl rfl ?_ ?_
   ·refine aY (R:=fK) (xs:=([ByteArray.empty,(⟨#[119]⟩:ByteArray),(⟨#[114]⟩:ByteArray)]:List ByteArray)) [.string ByteArray.empty,.string (⟨#[119]⟩:ByteArray),.string (⟨#[114]⟩:ByteArray)] rfl rfl rfl rfl (by rfl) (g7 (xs:=[ByteArray.empty,(⟨#[119]⟩:ByteArray),(⟨#[114]⟩:ByteArray)]) dt) S dt ?_;intro qJ qK S qb;refine ah ?_;replace S:=S.t1;have hC:=(hCd _).2 ⟨_,S⟩;refine ⟨fun _=>hC,?_⟩;refine fh 4 5 (by kernel_rfl) rfl rfl ?_ ?_
    ·replace S:=S.t1.t2;refine aD iW (eW ha0 S py) (ca (ac rfl (ac rfl rfl))) dt ?_;rintro _ pp ⟨rfl,S,ph⟩;refine ⟨_,rfl,?_⟩;replace S:Sat o4 pp (Box b0 101 [u0,i_ Z.2.1,i_ Z.2.2] :: Box Y 44 [i_ D.1.1,U,J] :: Own R8_ [U] D.1.2.1 :: Own R0_ [J] D.1.2.2 :: Box o5 44 [i_ 0,n_,n_] :: G0):=S;refine ah ?_;replace S:=S.t1;have hC:=(hCd _).2 ⟨_,S⟩;refine ⟨fun _=>hC,?_⟩;refine aO 5 rfl ?_;refine aI [i_ 0] rfl (by rfl) dt rfl dt S dt ?_;intro pQ o6 S pE;replace S:=S.int 0;replace S:=S.t1;replace S:=S.lit1;refine ah ?_;replace S:=S.t1;have hC:=(hCd _).2 ⟨_,S⟩;refine ⟨fun _=>hC,?_⟩;refine aO 6 rfl ?_;refine pe (.agg #[.string Z.1,(.slice (some ⟨o6,0,none⟩) 1 1)]) (aJ [(0,[.string Z.1]),(1,[(.slice (some ⟨o6,0,none⟩) 1 1)])] [.string Z.1,(.slice (some ⟨o6,0,none⟩) 1 1)] (dG rfl (dG (bq rfl (oc (S.rdAt (R:=R0_) 1 rfl))) rfl)) rfl) (ah ?_);refine ⟨fun _=>hC,?_⟩;refine aO 7 rfl ?_;refine aI [.string Z.1,(.slice (some ⟨o6,0,none⟩) 1 1)] rfl (by rfl) dt rfl dt S dt ?_;intro pR pq S pF;refine ah ?_;replace S:=S.t1;have hC:=(hCd _).2 ⟨_,S⟩;refine ⟨fun _=>hC,?_⟩;refine aO 8 rfl ?_;have pc:=S.boxRow 1 rfl;replace S:=S.t4;replace S:=S.t3;replace S:=S.str Z.1 ph;replace S:=S.pair;replace S:=S.one;refine bD rfl dt rfl dt S rfl rfl rfl (by simp) pc pz dt ?_;intro pS o3 S;refine ah ?_;replace S:=S.t1;have hC:=(hCd _).2 ⟨_,S⟩;refine ⟨fun _=>hC,?_⟩;refine aO 9 rfl ?_;refine pe (pt Y (0 + 1)) (aa rfl) (ah ?_);refine ⟨fun _=>hC,?_⟩;refine aO 10 rfl ?_;refine ae (S.top 0 rfl) rfl [o3] (bq rfl (oc (S.rdAt (R:=R8_) 1 rfl))) rfl dt (all_cons (oc (S.rdAt (R:=R8_) 1 rfl)) rfl) ?_;intro pr S;replace S:Sat o4 pr (Box Y 44 [i_ D.1.1,o3,J] :: Own R8_ [o3] po :: Box pq 112 [.string Z.1,(.slice (some ⟨o6,0,none⟩) 1 1)] :: Box b0 101 [u0,i_ Z.2.1,i_ Z.2.2] :: Own R0_ [J] D.1.2.2 :: Box o5 44 [i_ 0,n_,n_] :: G0):=S;refine ah ?_;refine ⟨fun h=>(nomatch (show false=true from h)),?_⟩;refine cd (by kernel_rfl) ?_;replace S:=S.t3.t2.t4.t5.t4;replace S:=S.r5;exact ⟨rfl,o3,rfl,rfl,S⟩
    refine aI [i_ 0] rfl (by rfl) dt rfl dt S dt ?_;intro pQ o6 S pE;replace S:=S.int 0;replace S:=S.t1;replace S:=S.lit1;refine ah ?_;replace S:=S.t1;have hC:=(hCd _).2 ⟨_,S⟩;refine ⟨fun _=>hC,?_⟩;refine aO 4 rfl ?_;replace S:=S.t2.t3;refine aD iW (eW ha0 S py) (ca (ac rfl (ac rfl rfl))) dt ?_;rintro _ pp ⟨rfl,S,ph⟩;refine ⟨_,rfl,?_⟩;replace S:Sat o4 pp (Box b0 101 [u0,i_ Z.2.1,i_ Z.2.2] :: Box Y 44 [i_ D.1.1,U,J] :: Own R0_ [(.slice (some ⟨o6,0,none⟩) 1 1)] ([0]) :: Own R8_ [U] D.1.2.1 :: Own R0_ [J] D.1.2.2 :: Box o5 44 [i_ 0,n_,n_] :: G0):=S;refine ah ?_;replace S:=S.t1;have hC:=(hCd _).2 ⟨_,S⟩;refine ⟨fun _=>hC,?_⟩;refine aO 6 rfl ?_;refine pe (.agg #[.string Z.1,(.slice (some ⟨o6,0,none⟩) 1 1)]) (aJ [(0,[.string Z.1]),(1,[(.slice (some ⟨o6,0,none⟩) 1 1)])] [.string Z.1,(.slice (some ⟨o6,0,none⟩) 1 1)] (dG rfl (dG (bq rfl (oc (S.rdAt (R:=R0_) 2 rfl))) rfl)) rfl) (ah ?_);refine ⟨fun _=>hC,?_⟩;refine aO 7 rfl ?_;refine aI [.string Z.1,(.slice (some ⟨o6,0,none⟩) 1 1)] rfl (by rfl) dt rfl dt S dt ?_;intro pR pq S pF;refine ah ?_;replace S:=S.t1;have hC:=(hCd _).2 ⟨_,S⟩;refine ⟨fun _=>hC,?_⟩;refine aO 8 rfl ?_;have pc:=S.boxRow 1 rfl;replace S:=S.t4;replace S:=S.t4;replace S:=S.str Z.1 ph;replace S:=S.pair;replace S:=S.one;refine bD rfl dt rfl dt S rfl rfl rfl (by simp) pc pz dt ?_;intro pS o3 S;refine ah ?_;replace S:=S.t1;have hC:=(hCd _).2 ⟨_,S⟩;refine ⟨fun _=>hC,?_⟩;refine aO 9 rfl ?_;refine pe (pt Y (0 + 1)) (aa rfl) (ah ?_);refine ⟨fun _=>hC,?_⟩;refine aO 10 rfl ?_;refine ae (S.top 0 rfl) rfl [o3] (bq rfl (oc (S.rdAt (R:=R8_) 1 rfl))) rfl dt (all_cons (oc (S.rdAt (R:=R8_) 1 rfl)) rfl) ?_;intro pr S;replace S:Sat o4 pr (Box Y 44 [i_ D.1.1,o3,J] :: Own R8_ [o3] po :: Box pq 112 [.string Z.1,(.slice (some ⟨o6,0,none⟩) 1 1)] :: Box b0 101 [u0,i_ Z.2.1,i_ Z.2.2] :: Own R0_ [J] D.1.2.2 :: Box o5 44 [i_ 0,n_,n_] :: G0):=S;refine ah ?_;refine ⟨fun h=>(nomatch (show false=true from h)),?_⟩;refine cd (by kernel_rfl) ?_;replace S:=S.t3.t2.t4.t5.t4;replace S:=S.r5;exact ⟨rfl,o3,rfl,rfl,S⟩
   refine aI [i_ 0] rfl (by rfl) dt rfl dt S dt ?_;intro pQ o6 S pE;replace S:=S.int 0;replace S:=S.t1;replace S:=S.lit1;refine ah ?_;replace S:=S.t1;have hC:=(hCd _).2 ⟨_,S⟩;refine ⟨fun _=>hC,?_⟩;refine aO 3 rfl ?_;refine aY (R:=fK) (xs:=([ByteArray.empty,(⟨#[119]⟩:ByteArray),(⟨#[114]⟩:ByteArray)]:List ByteArray)) [.string ByteArray.empty,.string (⟨#[119]⟩:ByteArray),.string (⟨#[114]⟩:ByteArray)] rfl rfl rfl rfl (by rfl) (g7 (xs:=[ByteArray.empty,(⟨#[119]⟩:ByteArray),(⟨#[114]⟩:ByteArray)]) dt) S dt ?_;intro qJ qK S qb;refine ah ?_;replace S:=S.t1;have hC:=(hCd _).2 ⟨_,S⟩;refine ⟨fun _=>hC,?_⟩;refine aO 4 rfl ?_;replace S:=S.t1.t3;refine aD iW (eW ha0 S py) (ca (ac rfl (ac rfl rfl))) dt ?_;rintro _ pp ⟨rfl,S,ph⟩;refine ⟨_,rfl,?_⟩;replace S:Sat o4 pp (Box b0 101 [u0,i_ Z.2.1,i_ Z.2.2] :: Box Y 44 [i_ D.1.1,U,J] :: Own R0_ [(.slice (some ⟨o6,0,none⟩) 1 1)] ([0]) :: Own R8_ [U] D.1.2.1 :: Own R0_ [J] D.1.2.2 :: Box o5 44 [i_ 0,n_,n_] :: G0):=S;refine ah ?_;replace S:=S.t1;have hC:=(hCd _).2 ⟨_,S⟩;refine ⟨fun _=>hC,?_⟩;refine aO 6 rfl ?_;refine pe (.agg #[.string Z.1,(.slice (some ⟨o6,0,none⟩) 1 1)]) (aJ [(0,[.string Z.1]),(1,[(.slice (some ⟨o6,0,none⟩) 1 1)])] [.string Z.1,(.slice (some ⟨o6,0,none⟩) 1 1)] (dG rfl (dG (bq rfl (oc (S.rdAt (R:=R0_) 2 rfl))) rfl)) rfl) (ah ?_);refine ⟨fun _=>hC,?_⟩;refine aO 7 rfl ?_;refine aI [.string Z.1,(.slice (some ⟨o6,0,none⟩) 1 1)] rfl (by rfl) dt rfl dt S dt ?_;intro pR pq S pF;refine ah ?_;replace S:=S.t1;have hC:=(hCd _).2 ⟨_,S⟩;refine ⟨fun _=>hC,?_⟩;refine aO 8 rfl ?_;have pc:=S.boxRow 1 rfl;replace S:=S.t4;replace S:=S.t4;replace S:=S.str Z.1 ph;replace S:=S.pair;replace S:=S.one;refine bD rfl dt rfl dt S rfl rfl rfl (by simp) pc pz dt ?_;intro pS o3 S;refine ah ?_;replace S:=S.t1;have hC:=(hCd _).2 ⟨_,S⟩;refine ⟨fun _=>hC,?_⟩;refine aO 9 rfl ?_;refine pe (pt Y (0 + 1)) (aa rfl) (ah ?_);refine ⟨fun _=>hC,?_⟩;refine aO 10 rfl ?_;refine ae (S.top 0 rfl) rfl [o3] (bq rfl (oc (S.rdAt (R:=R8_) 1 rfl))) rfl dt (all_cons (oc (S.rdAt (R:=R8_) 1 rfl)) rfl) ?_;intro pr S;replace S:Sat o4 pr (Box Y 44 [i_ D.1.1,o3,J] :: Own R8_ [o3] po :: Box pq 112 [.string Z.1,(.slice (some ⟨o6,0,none⟩) 1 1)] :: Box b0 101 [u0,i_ Z.2.1,i_ Z.2.2] :: Own R0_ [J] D.1.2.2 :: Box o5 44 [i_ 0,n_,n_] :: G0):=S;refine ah ?_;refine ⟨fun h=>(nomatch (show false=true from h)),?_⟩;refine cd (by kernel_rfl) ?_;replace S:=S.t3.t2.t4.t5.t4;replace S:=S.r5;exact ⟨rfl,o3,rfl,rfl,S⟩
  rintro rq rr ⟨o3,pG,qc,S⟩;refine bn pk (tn pj (sR fun _ qL=>pe (.agg #[i_ D.1.1,o3,J]) (ap (cs:=[i_ D.1.1,o3,J]) qc rfl (an (S.boxAt 0 rfl))) ?_));refine ae (S.top 1 rfl) pG [i_ D.1.1,o3,J] rfl rfl dt (all_cons rfl (all_cons (oc (S.rdAt (R:=R8_) 3 rfl)) (all_cons (oc (S.rdAt (R:=R0_) 2 rfl)) rfl))) ?_;intro pT S;replace S:Sat o4 pT (Box o5 44 [i_ D.1.1,o3,J] :: Box Y 44 [i_ D.1.1,o3,J] :: Own R0_ [J] D.1.2.2 :: Own R8_ [o3] po :: Box b0 101 [u0,i_ Z.2.1,i_ Z.2.2] :: G0):=S;refine en qL (ag ?_);refine fd (cs:=[i_ D.1.1,o3,J]) rfl pG rfl (an (S.boxAt 0 rfl))  ?_;replace S:=S.t4.t3.t4;have hr:=oI F;replace S:=S.r4.r3;exact ⟨o3,J,(cR hr fun r=>.agg #[i_ r.1.1,o3,J] :),Eq.mp (congrArg (fun (r:T9_ × Int × Int)=>Sat o4 pT (Own R8_ [o3] r.1.2.1 :: Own R0_ [J] r.1.2.2 :: Box b0 101 [u0,i_ r.2.1,i_ r.2.2] :: G0)) hr :) S⟩
 refine cf px (sR fun _ qN=>pe (.bool (o7.1 == 2)) (cv rfl rfl) (pa (.bool (o7.1 == 2)) (en qN (oF F (fun pA F=>?_) fun pA F=>?_))))
 ·refine ct pA ?_;obtain ⟨C,hCd⟩:∃ C:World → Prop,∀ w,C w ↔ ∃ G,Sat o4 w ([Box Y 44 [i_ D.1.1,U,J]] ++ G):=⟨_,fun _=>Iff.rfl⟩;refine di [0,1,2,3,4,5,6,7] C (by kernel_rfl) ?_;intro rt qd;replace S:=S.ext qd;replace S:=S.t1;have hC:=(hCd _).2 ⟨_,S⟩;refine aP (pt Y (0 + 2)) 0 rfl rfl hC (av rfl (fun w' hw'=>by obtain ⟨_,S⟩:=(hCd _).1 hw'; exact (aa rfl))) ?_;refine aP J 1 rfl rfl hC (av rfl (fun w' hw'=>by obtain ⟨_,S⟩:=(hCd _).1 hw'; exact (ab rfl ((S.boxAt 0 rfl) 2 _ rfl)))) ?_;refine aO 2 rfl ?_;refine pm (pt b0 0) (ah ?_);refine ⟨fun _=>hC,?_⟩;refine aO 3 rfl ?_;replace S:=S.t1;refine oB F fun pn qf F=>?_;refine aD ej (bp ha0 S qf) (ca (ac rfl (ac rfl rfl))) dt ?_;rintro _ qO ⟨rfl,S⟩;refine ⟨_,rfl,?_⟩;replace S:Sat o4 qO (Box b0 101 [u0,i_ pn.2.1,i_ pn.2.2] :: Box Y 44 [i_ D.1.1,U,J] :: Own R8_ [U] D.1.2.1 :: Own R0_ [J] D.1.2.2 :: Box o5 44 [i_ 0,n_,n_] :: G0):=S;refine ah ?_;replace S:=S.t1;have hC:=(hCd _).2 ⟨_,S⟩;refine ⟨fun _=>hC,?_⟩;refine aO 4 rfl ?_;refine oB F fun pB qg F=>pe (i_ pB) (cT rfl rfl qg) (ah ?_);refine ⟨fun _=>hC,?_⟩;refine aO 5 rfl ?_;refine aI [i_ pB] rfl (by rfl) dt rfl dt S dt ?_;intro ru qP S rf;refine ah ?_;replace S:=S.t1;have hC:=(hCd _).2 ⟨_,S⟩;refine ⟨fun _=>hC,?_⟩;refine aO 6 rfl ?_;refine oB F fun pU qh F=>?_;have pN:=S.boxRow 1 rfl;replace S:=S.t4;replace S:=S.int pB;replace S:=S.one;refine bD rfl dt rfl dt S rfl rfl rfl (by simp) pN qh dt ?_;intro rv o9 S;refine ah ?_;replace S:=S.t1;have hC:=(hCd _).2 ⟨_,S⟩;refine ⟨fun _=>hC,?_⟩;refine aO 7 rfl ?_;refine pe (pt Y (0 + 2)) (aa rfl) (ah ?_);refine ⟨fun _=>hC,?_⟩;refine aO 8 rfl ?_;refine ae (S.top 0 rfl) rfl [o9] (bq rfl (oc (S.rdAt (R:=R0_) 1 rfl))) rfl dt (all_cons (oc (S.rdAt (R:=R0_) 1 rfl)) rfl) ?_;intro qQ S;replace S:Sat o4 qQ (Box Y 44 [i_ D.1.1,U,o9] :: Own R0_ [o9] pU :: Box qP 3 [i_ pB] :: Box b0 101 [u0,i_ pn.2.1,i_ pn.2.2] :: Own R8_ [U] D.1.2.1 :: Box o5 44 [i_ 0,n_,n_] :: G0):=S;refine ah ?_;refine ⟨fun h=>(nomatch (show false=true from h)),?_⟩;refine cd (by kernel_rfl) ?_;refine bn pk (tn pj (sg fun _ qR=>?_));replace S:=S.r2;refine ai (pe (.agg #[i_ D.1.1,U,o9]) (ap (cs:=[i_ D.1.1,U,o9]) rfl rfl (an (S.boxAt 0 rfl))) ?_);refine ae (S.top 4 rfl) rfl [i_ D.1.1,U,o9] rfl rfl dt (all_cons rfl (all_cons (oc (S.rdAt (R:=R8_) 3 rfl)) (all_cons (oc (S.rdAt (R:=R0_) 1 rfl)) rfl))) ?_;intro pV S;replace S:Sat o4 pV (Box o5 44 [i_ D.1.1,U,o9] :: Box Y 44 [i_ D.1.1,U,o9] :: Own R0_ [o9] pU :: Box b0 101 [u0,i_ pn.2.1,i_ pn.2.2] :: Own R8_ [U] D.1.2.1 :: G0):=S;refine en qR (ag ?_);refine fd (cs:=[i_ D.1.1,U,o9]) rfl rfl rfl (an (S.boxAt 0 rfl))  ?_;replace S:=S.t3.t3.t4;have hr:=oI F;replace S:=S.r4.r3;exact ⟨U,o9,(cR hr fun r=>.agg #[i_ r.1.1,U,o9] :),Eq.mp (congrArg (fun (r:T9_ × Int × Int)=>Sat o4 pV (Own R8_ [U] r.1.2.1 :: Own R0_ [o9] r.1.2.2 :: Box b0 101 [u0,i_ r.2.1,i_ r.2.2] :: G0)) hr :) S⟩
 refine cf pA (sR fun _ qS=>pe (.bool (o7.1 == 3)) (cv rfl rfl) (pa (.bool (o7.1 == 3)) (en qS (oF F (fun pC F=>?_) fun pC F=>?_))))
 ·refine ct pC (ai (pe (pt Y (0 + 1)) (aa rfl) (pe U (ab rfl ((S.boxAt 1 rfl) 1 _ rfl)) (oB F fun rx pH F=>?_))));replace S:=S.t2;refine jN S rfl rfl dt rfl pH dt ?_;intro qT rg ry qj qk rh;obtain ⟨_,_,rfl,ql,qn⟩:=qk;obtain ⟨rfl,ri⟩:=ql;obtain ⟨rz,rfl⟩:=c5 qn;refine pe (pt qT ((0:Int).toNat * 2 + 1)) (aa rfl) (oB F fun qU qp F=>?_);have pW:Value.oneCell' n_=true:=rfl;replace S:=S.nil aT 3;refine lJ (m:=2) (j:=1) qj S pH qp rfl rfl (by omega) rfl (bq rfl pW) (nY (nK _ _) (by rfl)) ?_;intro rA S;refine ah (bn pk (tn pj (sR fun _ qV=>pe (.agg #[i_ D.1.1,U,J]) (ap (cs:=[i_ D.1.1,U,J]) rfl rfl (an (S.boxAt 2 rfl))) ?_)));refine ae (S.top 4 rfl) rfl [i_ D.1.1,U,J] rfl rfl dt (all_cons rfl (all_cons (oc (S.rdAt (R:=R8_) 0 rfl)) (all_cons (oc (S.rdAt (R:=R0_) 3 rfl)) rfl))) ?_;intro pX S;replace S:Sat o4 pX (Box o5 44 [i_ D.1.1,U,J] :: Own R8_ [U] qU :: Box b0 101 [u0,i_ o7.2.1,i_ o7.2.2] :: Box Y 44 [i_ D.1.1,U,J] :: Own R0_ [J] D.1.2.2 :: G0):=S;refine en qV (ag ?_);refine fd (cs:=[i_ D.1.1,U,J]) rfl rfl rfl (an (S.boxAt 0 rfl))  ?_;replace S:=S.t2.t4.t3;have hr:=oI F;replace S:=S.r4.r3;exact ⟨U,J,(cR hr fun r=>.agg #[i_ r.1.1,U,J] :),Eq.mp (congrArg (fun (r:T9_ × Int × Int)=>Sat o4 pX (Own R8_ [U] r.1.2.1 :: Own R0_ [J] r.1.2.2 :: Box b0 101 [u0,i_ r.2.1,i_ r.2.2] :: G0)) hr :) S⟩
 refine cf pC (sR fun _ qW=>pe (.bool (o7.1 == 4)) (cv rfl rfl) (pa (.bool (o7.1 == 4)) (en qW (oF F (fun pD F=>?_) fun pD F=>?_))))
 ·refine ct pD (oB F fun pd pI F=>?_);replace S:=S.t2;obtain ⟨pu,q9,rC,qq,qr,S⟩:=S.takeOutC (m:=2) pI rfl;obtain ⟨_,_,rfl,qu,pi⟩:=qr;obtain ⟨rfl,rj⟩:=qu;obtain ⟨pf,rfl⟩:=c5 pi;replace S:=S.unpair rfl;replace S:Sat o4 pO (Own fK [.string pd.1] pd.1 :: Own R0_ [pf] pd.2 :: iw R4_ 112 U D.1.2.1 (0:Int).toNat [.string pd.1,pf] pu 2 :: Box b0 101 [u0,i_ o7.2.1,i_ o7.2.2] :: Box Y 44 [i_ D.1.1,U,J] :: Own R0_ [J] D.1.2.2 :: Box o5 44 [i_ 0,n_,n_] :: G0):=S;obtain ⟨C,hCd⟩:∃ C:World → Prop,∀ w,C w ↔ ∃ G,Sat o4 w ([Box Y 44 [i_ D.1.1,U,J],iw R4_ 112 U D.1.2.1 (0:Int).toNat [.string pd.1,pf] pu 2] ++ G):=⟨_,fun _=>Iff.rfl⟩;refine di [0,1,2,3,4,5,6,7,8] C (by kernel_rfl) ?_;intro rD pJ;replace S:=S.ext pJ;have pi:=cH pi pJ;replace S:=S.t2.t4;have hC:=(hCd _).2 ⟨_,S⟩;refine aP (pt Y (0 + 1)) 0 rfl rfl hC (av rfl (fun w' hw'=>by obtain ⟨_,S⟩:=(hCd _).1 hw'; exact (aa rfl))) ?_;refine aP U 1 rfl rfl hC (av rfl (fun w' hw'=>by obtain ⟨_,S⟩:=(hCd _).1 hw'; exact (ab rfl ((S.boxAt 0 rfl) 1 _ rfl)))) ?_;refine aP (pt pu ((0:Int).toNat * 2)) 2 rfl rfl hC (av rfl (fun w' hw'=>by obtain ⟨_,S⟩:=(hCd _).1 hw'; exact (lq (v:=U) rfl qq rfl pI))) ?_;refine aP (pt pu ((0:Int).toNat * 2 + 1)) 3 rfl rfl hC (av rfl (fun w' hw'=>by obtain ⟨_,S⟩:=(hCd _).1 hw'; exact (aa rfl))) ?_;refine aP pf 4 rfl rfl hC (av rfl (fun w' hw'=>by obtain ⟨_,S⟩:=(hCd _).1 hw'; exact (ab rfl ((S.holeCells 1 rfl) 1 _ rfl)))) ?_;refine aP (pt b0 0) 5 rfl rfl hC (av rfl (fun w' hw'=>by obtain ⟨_,S⟩:=(hCd _).1 hw'; exact (aG rfl))) ?_;refine aO 6 rfl ?_;refine aY (R:=aT) (xs:=([(-1),5]:List Int)) [i_ (-1),i_ 5] rfl rfl rfl rfl (by rfl) (dC ([(-1),5]:List Int)) S dt ?_;intro rE rF S qv;have pi:=cH pi qv;refine ah ?_;replace S:=S.t2.t2;have hC:=(hCd _).2 ⟨_,S⟩;refine ⟨fun _=>hC,?_⟩;refine aO 7 rfl ?_;replace S:=S.t2.t5;refine oB F fun pg qw F=>?_;refine aD ez (bh ha0 S qw) (ca (ac rfl (ac rfl rfl))) dt ?_;rintro _ qX ⟨rfl,S⟩;refine ⟨_,rfl,?_⟩;replace S:Sat o4 qX (Box b0 101 [u0,i_ pg.2.1,i_ pg.2.2] :: Box Y 44 [i_ D.1.1,U,J] :: iw R4_ 112 U D.1.2.1 (0:Int).toNat [.string pd.1,pf] pu 2 :: Own fK [.string pd.1] pd.1 :: Own R0_ [pf] pd.2 :: Own R0_ [J] D.1.2.2 :: Box o5 44 [i_ 0,n_,n_] :: G0):=S;refine ah ?_;replace S:=S.t2.t2;have hC:=(hCd _).2 ⟨_,S⟩;refine ⟨fun _=>hC,?_⟩;refine aO 8 rfl ?_;refine oB F fun rG pK F=>?_;obtain ⟨qY,ra,pL⟩:=dA 4 S rfl pK;refine pe (pt qY ((0:Int).toNat * 1)) (c4 (v:=pf) rfl pL rfl pK) (ah ?_);refine ⟨fun _=>hC,?_⟩;refine aO 9 rfl ?_;refine oB F fun rH qx F=>?_;replace S:=S.t4;replace S:=S.int pg.1;refine fX rfl pL S qx rfl rfl ?_;intro qZ S;replace S:=S.t2;replace S:=S.t1;replace S:=S.t4;replace S:=S.pair;refine oB F fun pY qy F=>?_;replace S:=S.putBackC qy;replace S:Sat o4 qZ (Own R8_ [U] pY :: Box Y 44 [i_ D.1.1,U,J] :: Box b0 101 [u0,i_ pg.2.1,i_ pg.2.2] :: Own R0_ [J] D.1.2.2 :: Box o5 44 [i_ 0,n_,n_] :: G0):=S;refine ah ?_;refine ⟨fun h=>(nomatch (show false=true from h)),?_⟩;refine cd (by kernel_rfl) ?_;refine bn pk (tn pj (sR fun _ q7=>pe (.agg #[i_ D.1.1,U,J]) (ap (cs:=[i_ D.1.1,U,J]) rfl rfl (an (S.boxAt 1 rfl))) ?_));refine ae (S.top 4 rfl) rfl [i_ D.1.1,U,J] rfl rfl dt (all_cons rfl (all_cons (oc (S.rdAt (R:=R8_) 0 rfl)) (all_cons (oc (S.rdAt (R:=R0_) 3 rfl)) rfl))) ?_;intro pZ S;replace S:Sat o4 pZ (Box o5 44 [i_ D.1.1,U,J] :: Own R8_ [U] pY :: Box Y 44 [i_ D.1.1,U,J] :: Box b0 101 [u0,i_ pg.2.1,i_ pg.2.2] :: Own R0_ [J] D.1.2.2 :: G0):=S;refine en q7 (ag ?_);refine fd (cs:=[i_ D.1.1,U,J]) rfl rfl rfl (an (S.boxAt 0 rfl))  ?_;replace S:=S.t3.t4.t3;have hr:=oI F;replace S:=S.r4.r3;exact ⟨U,J,(cR hr fun r=>.agg #[i_ r.1.1,U,J] :),Eq.mp (congrArg (fun (r:T9_ × Int × Int)=>Sat o4 pZ (Own R8_ [U] r.1.2.1 :: Own R0_ [J] r.1.2.2 :: Box b0 101 [u0,i_ r.2.1,i_ r.2.2] :: G0)) hr :) S⟩
 refine cf pD (bF (bn pk (tn pj (sR fun _ q8=>pe (.agg #[i_ D.1.1,U,J]) (ap (cs:=[i_ D.1.1,U,J]) rfl rfl (an (S.boxAt 1 rfl))) ?_))));refine ae (S.top 4 rfl) rfl [i_ D.1.1,U,J] rfl rfl dt (all_cons rfl (all_cons (oc (S.rdAt (R:=R8_) 2 rfl)) (all_cons (oc (S.rdAt (R:=R0_) 3 rfl)) rfl))) ?_;intro p5 S;replace S:Sat o4 p5 (Box o5 44 [i_ D.1.1,U,J] :: Box b0 101 [u0,i_ o7.2.1,i_ o7.2.2] :: Box Y 44 [i_ D.1.1,U,J] :: Own R8_ [U] D.1.2.1 :: Own R0_ [J] D.1.2.2 :: G0):=S;refine en q8 (ag ?_);refine fd (cs:=[i_ D.1.1,U,J]) rfl rfl rfl (an (S.boxAt 0 rfl))  ?_;replace S:=S.t1.t4.t4;have hr:=oI F;replace S:=S.r4.r3;exact ⟨U,J,(cR hr fun r=>.agg #[i_ r.1.1,U,J] :),Eq.mp (congrArg (fun (r:T9_ × Int × Int)=>Sat o4 p5 (Own R8_ [U] r.1.2.1 :: Own R0_ [J] r.1.2.2 :: Box b0 101 [u0,i_ r.2.1,i_ r.2.2] :: G0)) hr :) S⟩
theorem gm {w0:World} {Y:World} {G0:List Asn} {b0:Nat} {u0:Value} {a0:List Int} {a1:Int} {a2:Int} {a3:Int} (ha0:(au u8R 5).rd Y [u0] a0) (S:Sat Y w0 (Box b0 101 [u0,i_ a1,i_ a2] :: G0)) {N:Nat} {r:T0_ × Int × Int} (F:eA N a0 a1 a2 a3=some r): Calls Try.prog 54 #[.pointer (some ⟨b0,0,none⟩),i_ a3] w0 fun e w'=>∃ (q0:Value),e=.returned (q0)∧Sat Y w' (Own R0_ [q0] r.1 :: Box b0 101 [u0,i_ r.2.1,i_ r.2.2] :: G0) := by
 unfold eA at F;refine aB Try.func54 rfl rfl dt ?_;refine sR fun _ pj=>pa n_ (en pj (sR fun _ pk=>?_));refine cO aT S dt ?_;intro pB o9 S py;refine pa o9 (en pk (sg fun _ pn=>bg fun _ po=>?_));obtain ⟨pp,hL,pg⟩:=ob F;refine aC (fun k e w=>∃ (o4:Int),∃ (o5:Int),∃ (D:Value),∃ (J:List Int),e 0=pt b0 0∧e 1=i_ a3∧e 5=D∧Sat Y w (Own R0_ [D] J :: Box b0 101 [u0,i_ o4,i_ o5] :: G0)∧c7 N k a0 o4 o5 a3 J=some pp) N ?_ ?_ ?_
 ·exact ⟨a1,a2,o9,[],rfl,rfl,rfl,S,hL⟩
 ·rintro e w ⟨_,_,_,_,_,_,_,_,hz⟩; exact nn hz
 rintro k pC pq ⟨o4,o5,D,J,o6,o7,Z,S,F⟩;refine gn fun _ pc=>sg fun _ pd=>sR fun _ pr=>pM D Z (pe (i_ (J.length:Int)) (az rfl (S.rdAt (R:=R0_) 0 rfl)) (pM (i_ a3) o7 (pe (.bool (decide ((J.length:Int) < a3))) (aF rfl rfl) (en pr (oF F (fun o3 F=>?_) fun o3 F=>?_)))))
 ·refine ct o3 (sn pd (bg fun _ pu=>ai (pM D Z (pM (pt b0 0) o6 ?_))));refine aY (R:=aT) (xs:=([0,1,2,3,5,9,16]:List Int)) [i_ 0,i_ 1,i_ 2,i_ 3,i_ 5,i_ 9,i_ 16] rfl rfl rfl rfl (by rfl) (dC ([0,1,2,3,5,9,16]:List Int)) S dt ?_;intro pD pE S pz;replace S:=S.t2;refine oB F fun U ph F=>?_;refine aD ez (bh ha0 S ph) (ca (ac rfl (ac rfl rfl))) dt ?_;rintro _ pv ⟨rfl,S⟩;refine ⟨_,rfl,?_⟩;replace S:Sat Y pv (Box b0 101 [u0,i_ U.2.1,i_ U.2.2] :: Own R0_ [D] J :: G0):=S;refine aI [i_ U.1] rfl (by rfl) dt rfl dt S dt ?_;intro pF pG S pA;refine oB F fun pw pi F=>?_;have o8:=S.boxRow 0 rfl;replace S:=S.t2;replace S:=S.int U.1;replace S:=S.one;refine bD rfl dt rfl dt S rfl rfl rfl (by simp) o8 pi dt ?_;intro pH pf S;refine pa pf (ah (bn pu (tn pc ?_)));replace S:=S.t2.t1;replace S:=S.r2;exact ⟨U.2.1,U.2.2,pf,pw,o6,o7,rfl,S,F⟩
 refine cf o3 (aE (tx pd (tx pc ?_)));replace F:=exB F pg;refine bS po (tn pn (sR fun _ px=>pM D Z (pa D (en px (ag (ay rfl rfl ?_))))));have hr:=oI F;exact ⟨D,(cR hr fun r=>D :),Eq.mp (congrArg (fun (r:T0_ × Int × Int)=>Sat Y pq (Own R0_ [D] r.1 :: Box b0 101 [u0,i_ r.2.1,i_ r.2.2] :: G0)) hr :) S⟩
theorem fu {w0:World} {a0:Int} {a1:Int}  {N:Nat} {r:Int} (F:dW N a0 a1=some r): Calls Try.prog 99 #[i_ a0,i_ a1] w0 fun e w'=>e=.returned (i_ r)∧Ext w0 w' := by
 unfold dW at F;refine aB Try.func99 rfl rfl dt ?_;have S:=Sat.start w0;refine sR fun _ o8=>pa (i_ 0) (en o8 (sg fun _ o9=>bg fun _ pc=>?_));obtain ⟨pd,hL,o6⟩:=ob F;refine aC (fun k e w=>∃ (J:Int),∃ (D:Int),e 0=i_ J∧e 1=i_ D∧Sat w0 w []∧dU N k J D=some pd) N ?_ ?_ ?_
 ·exact ⟨a0,a1,rfl,rfl,S,hL⟩
 ·rintro e w ⟨_,_,_,_,_,hz⟩; exact nn hz
 rintro k pk pn ⟨J,D,o3,Y,S,F⟩;refine gn fun _ o4=>sg fun _ o5=>sR fun _ pf=>pM (i_ D) Y (pe (.bool (D != 0)) (ft rfl rfl) (en pf (oF F (fun Z F=>?_) fun Z F=>?_)))
 ·refine ct Z (sn o5 (bg fun _ pg=>sR fun _ ph=>pM (i_ J) o3 (pM (i_ D) Y (oB F fun U o7 F=>pe (i_ U) (fg rfl rfl o7) (pa (i_ U) (en ph (sR fun _ pi=>pM (i_ D) Y (pa (i_ D) (en pi (ai (pm (i_ U) (pa (i_ U) (ah (bn pg (tn o4 ?_)))))))))))))));replace S:=S.keep 0;exact ⟨D,U,rfl,rfl,S,F⟩
 refine cf Z (aE (tx o5 (tx o4 ?_)));replace F:=exB F o6;refine bS pc (tn o9 (sR fun _ pj=>pM (i_ J) o3 (pa (i_ J) (en pj (ag (ay rfl rfl ?_))))));exact rI F S
theorem dR {w0:World} {a0:Int} {a1:Int}  {N:Nat} {r:Bool} (F:b7 N a0 a1=some r): Calls Try.prog 98 #[.agg #[i_ a0,i_ a1]] w0 fun e w'=>e=.returned (.bool r)∧Ext w0 w' := by
 unfold b7 at F;refine aB Try.func98 rfl rfl dt ?_;have S:=Sat.start w0;refine sR fun _ o9=>?_;refine cw [i_ a0,i_ a1] rfl S dt ?_;intro pi U S pd;refine pa (.bool false) (en o9 (sR fun _ Y=>pe (pt U (0 + 1)) (aa rfl) (pe (i_ a1) (ab rfl ((S.boxAt 0 rfl) 1 _ rfl)) (oB F fun pc o5 F=>?_))));refine ec0 dX (bK o5) (ca (ac rfl (ac rfl (ac rfl rfl)))) S fun pj pf S=>?_;refine pm (.bool pc) (oF F (fun J F=>?_) fun J F=>?_)
 ·refine ei J (pe (pt U (0 + 0)) (aa rfl) (ei J (pe (i_ a0) (ab rfl ((S.boxAt 0 rfl) 0 _ rfl)) (ei J (oB F fun o3 o6 F=>?_)))));refine ec0 dX (bK o6) (ca (ac rfl (ac rfl (ac rfl rfl)))) S fun pk pg S=>?_;refine pe (.bool o3) (aq rfl J rfl) (pm (.bool o3) (oF F (fun D F=>?_) fun D F=>?_))
  ·refine ei D (pe (pt U (0 + 0)) (aa rfl) (ei D (pe (i_ a0) (ab rfl ((S.boxAt 0 rfl) 0 _ rfl)) (ei D (pe (pt U (0 + 0)) (aa rfl) (ei D (pe (i_ a0) (ab rfl ((S.boxAt 0 rfl) 0 _ rfl)) (ei D (oB F fun o4 o7 F=>pe (i_ o4) (fY rfl o7) (ei D (pe (i_ (imx a0 o4)) (i6 rfl rfl) (ei D (pe (pt U (0 + 1)) (aa rfl) (ei D (pe (i_ a1) (ab rfl ((S.boxAt 0 rfl) 1 _ rfl)) (ei D (oB F fun Z o8 F=>?_)))))))))))))))));refine ec0 i4 (fu o8) (ca (ac rfl (ac rfl rfl))) S fun pn ph S=>?_;refine ei D (pe (.bool (Z == 1)) (cv rfl rfl) (pe (.bool (Z == 1)) (aq rfl D rfl) (pa (.bool (Z == 1)) (en Y (ag (ay rfl rfl ?_))))));exact rB F S
  refine eo D (eo D (eo D (eo D (eo D (eo D (eo D (eo D (eo D (eo D (pe (.bool false) (am rfl D rfl) (pa (.bool false) (en Y (ag (ay rfl rfl ?_))))))))))))));exact rB F S
 refine eo J (eo J (eo J (pe (.bool false) (am rfl J rfl) (pm (.bool false) (eo rfl (eo rfl (eo rfl (eo rfl (eo rfl (eo rfl (eo rfl (eo rfl (eo rfl (eo rfl (pe (.bool false) (am rfl rfl rfl) (pa (.bool false) (en Y (ag (ay rfl rfl ?_)))))))))))))))))));exact rB F S
theorem eD {w0:World} {a0:Int} {a1:Int}  {N:Nat} {r:T1_ × Bool} (F:cI N a0 a1=some r): Calls Try.prog 88 #[i_ a0,i_ a1] w0 fun e w'=>e=.returned (.tuple #[.agg #[i_ r.1.1,i_ r.1.2],.bool r.2])∧Ext w0 w' := by
 unfold cI at F;refine aB Try.func88 rfl rfl dt ?_;have S:=Sat.start w0;refine sR fun _ pO=>?_;refine aw S dt ?_;intro qC o4 S qr;refine pa (.bool false) (en pO (sR fun _ pP=>pa (i_ 4000000000000000000) (en pP (sg fun _ o6=>sR fun _ pf=>pm (i_ a1) (pe (.bool (a1 == 0)) (cv rfl rfl) (pm (.bool (a1 == 0)) (oF F (fun D F=>?_) fun D F=>?_)))))))
 ·refine eo D (eo D (eo D (eo D (eo D (eo D (pe (.bool true) (aq rfl D rfl) (pm (.bool true) (eo rfl (eo rfl (eo rfl (eo rfl (eo rfl (eo rfl (pe (.bool true) (aq rfl rfl rfl) (en pf (ct rfl (sR fun _ pQ=>pe (.agg #[i_ 0,i_ 0]) (aJ [] [i_ 0,i_ 0] rfl rfl) ?_)))))))))))))))));refine ae (S.top 0 rfl) rfl [i_ 0,i_ 0] rfl rfl dt (all_cons rfl (all_cons rfl rfl)) ?_;intro pR S;replace S:Sat w0 pR [Box o4 114 [i_ 0,i_ 0]]:=S;refine pa (.bool false) (en pQ (ag (tr o6 ?_)));refine bo (cs:=[i_ 0,i_ 0]) rfl rfl rfl (an (S.boxAt 0 rfl)) rfl ?_;have hr:=oI F;exact ⟨cR hr fun r=>.tuple #[.agg #[i_ r.1.1,i_ r.1.2],.bool r.2],S.below⟩
 refine ei D (pm (i_ a0) (ei D (pm (i_ 4000000000000000000) (ei D (oB F fun pS pv F=>pe (i_ pS) (fY rfl pv) (ei D (pm (i_ 4000000000000000000) (ei D (oB F fun pg pw F=>?_)))))))));refine ec0 dX (bK pw) (ca (ac rfl (ac rfl (ac rfl rfl)))) S fun qD qu S=>?_;refine ei D (pe (.bool (!pg)) (aQ rfl) (pe (.bool (!pg)) (am rfl D rfl) (pm (.bool (!pg)) (oF F (fun J F=>?_) fun J F=>?_))))
 ·refine ei (aj J) (pm (i_ a1) (ei (aj J) (pm (i_ 4000000000000000000) (ei (aj J) (oB F fun pT px F=>pe (i_ pT) (fY rfl px) (ei (aj J) (pm (i_ 4000000000000000000) (ei (aj J) (oB F fun pj py F=>?_)))))))));refine ec0 dX (bK py) (ca (ac rfl (ac rfl (ac rfl rfl)))) S fun qE qv S=>?_;refine ei (aj J) (pe (.bool (!pj)) (aQ rfl) (pe (.bool (!pj)) (am rfl (aj J) rfl) (en pf (oF F (fun o7 F=>?_) fun o7 F=>?_))))
  ·refine cf (aj o7) (sn o6 (sg fun _ pk=>sR fun _ pU=>pm (i_ a1) (pe (.bool (decide (a1 < 0))) (aF rfl rfl) (en pU (oF F (fun o8 F=>?_) fun o8 F=>?_)))))
   ·refine ct o8 (sR fun _ pV=>pm (i_ a0) (oB F fun o5 pz F=>pe (i_ o5) (fY rfl pz) (pa (i_ o5) (en pV (ai (pm (i_ a1) (oB F fun o9 pA F=>pe (i_ o9) (fY rfl pA) (pa (i_ o9) (en pk (sR fun _ pW=>pm (i_ o5) (pm (i_ o5) (oB F fun pn pB F=>pe (i_ pn) (fY rfl pB) (pe (i_ (imx o5 pn)) (i6 rfl rfl) (pm (i_ o9) (oB F fun ph pC F=>?_)))))))))))))));refine ec0 i4 (fu pC) (ca (ac rfl (ac rfl rfl))) S fun qF qw S=>?_;refine pa (i_ ph) (en pW (sg fun _ pX=>?_));obtain ⟨C,hCd⟩:∃ C:World → Prop,∀ w,C w ↔ ∃ G,Sat w0 w ([] ++ G):=⟨_,fun _=>Iff.rfl⟩;refine di [0,1,2,3,4,5,6,7,8] C (by kernel_rfl) ?_;intro qG pD;replace S:=S.ext pD;have hC:=(hCd _).2 ⟨_,S⟩;refine aP (i_ o5) 0 rfl rfl hC (av rfl (fun w' hw'=>by obtain ⟨_,S⟩:=(hCd _).1 hw'; exact (aG rfl))) ?_;refine aP (i_ ph) 1 rfl rfl hC (av rfl (fun w' hw'=>by obtain ⟨_,S⟩:=(hCd _).1 hw'; exact (aG rfl))) ?_;refine oB F fun U pE F=>?_;refine aP (i_ U) 2 rfl rfl hC (av rfl (fun w' hw'=>by obtain ⟨_,S⟩:=(hCd _).1 hw'; exact (dL rfl rfl pE))) ?_;refine aP (i_ o9) 3 rfl rfl hC (av rfl (fun w' hw'=>by obtain ⟨_,S⟩:=(hCd _).1 hw'; exact (aG rfl))) ?_;refine aP (i_ ph) 4 rfl rfl hC (av rfl (fun w' hw'=>by obtain ⟨_,S⟩:=(hCd _).1 hw'; exact (aG rfl))) ?_;refine oB F fun Y pF F=>?_;refine aP (i_ Y) 5 rfl rfl hC (av rfl (fun w' hw'=>by obtain ⟨_,S⟩:=(hCd _).1 hw'; exact (dL rfl rfl pF))) ?_;refine aP (.agg #[i_ U,i_ Y]) 6 rfl rfl hC (av rfl (fun w' hw'=>by obtain ⟨_,S⟩:=(hCd _).1 hw'; exact (aJ [(0,[i_ U]),(1,[i_ Y])] [i_ U,i_ Y] (dG rfl (dG rfl rfl)) rfl))) ?_;refine aO 7 rfl ?_;refine aw S dt ?_;intro qH po S qx;refine ah ?_;have hC:=(hCd _).2 ⟨_,S⟩;refine ⟨fun _=>hC,?_⟩;refine aO 8 rfl ?_;refine ae (S.top 0 rfl) rfl [i_ U,i_ Y] rfl rfl dt (all_cons rfl (all_cons rfl rfl)) ?_;intro pY S;replace S:Sat w0 pY [Box po 114 [i_ U,i_ Y],Box o4 114 [i_ 0,i_ 0]]:=S;refine ah ?_;have hC:=(hCd _).2 ⟨_,S⟩;refine ⟨fun _=>hC,?_⟩;refine cd (by kernel_rfl) ?_;refine tn pX (sg fun _ pp=>sR fun _ pZ=>pe (.agg #[i_ U,i_ Y]) (ap (cs:=[i_ U,i_ Y]) rfl rfl (an (S.boxAt 0 rfl))) (oB F fun p5 pG F=>?_));refine ec0 kp (dR pG) (ca (ac rfl rfl)) S fun qI qy S=>?_;refine pe (.bool (!p5)) (aQ rfl) (en pZ (oF F (fun pc F=>?_) fun pc F=>?_))
    ·refine cf (aj pc) (sn pp (sR fun _ p6=>pe (.agg #[i_ U,i_ Y]) (ap (cs:=[i_ U,i_ Y]) rfl rfl (an (S.boxAt 0 rfl))) ?_));refine ae (S.top 1 rfl) rfl [i_ U,i_ Y] rfl rfl dt (all_cons rfl (all_cons rfl rfl)) ?_;intro p7 S;replace S:Sat w0 p7 [Box o4 114 [i_ U,i_ Y],Box po 114 [i_ U,i_ Y]]:=S;refine pa (.bool true) (en p6 (ag ?_));refine bo (cs:=[i_ U,i_ Y]) rfl rfl rfl (an (S.boxAt 0 rfl)) rfl ?_;have hr:=oI F;exact ⟨cR hr fun r=>.tuple #[.agg #[i_ r.1.1,i_ r.1.2],.bool r.2],S.below⟩
    refine ct (ak pc) (sg fun _ p8=>?_);replace S:=S.r0;refine ai (pe (.agg #[i_ 0,i_ 0]) (aJ [] [i_ 0,i_ 0] rfl rfl) ?_);refine ae (S.top 0 rfl) rfl [i_ 0,i_ 0] rfl rfl dt (all_cons rfl (all_cons rfl rfl)) ?_;intro p9 S;replace S:Sat w0 p9 [Box o4 114 [i_ 0,i_ 0]]:=S;refine pa (.bool false) (en p8 (ag (tr pp ?_)));refine bo (cs:=[i_ 0,i_ 0]) rfl rfl rfl (an (S.boxAt 0 rfl)) rfl ?_;have hr:=oI F;exact ⟨cR hr fun r=>.tuple #[.agg #[i_ r.1.1,i_ r.1.2],.bool r.2],S.below⟩
   refine cf o8 (sn pk (sR fun _ qa=>pm (i_ a0) (pm (i_ a0) (oB F fun pq pH F=>pe (i_ pq) (fY rfl pH) (pe (i_ (imx a0 pq)) (i6 rfl rfl) (pm (i_ a1) (oB F fun pi pI F=>?_)))))));refine ec0 i4 (fu pI) (ca (ac rfl (ac rfl rfl))) S fun qJ qz S=>?_;refine pa (i_ pi) (en qa (sg fun _ qb=>?_));obtain ⟨C,hCd⟩:∃ C:World → Prop,∀ w,C w ↔ ∃ G,Sat w0 w ([] ++ G):=⟨_,fun _=>Iff.rfl⟩;refine di [0,1,2,3,4,5,6,7,8] C (by kernel_rfl) ?_;intro qK pJ;replace S:=S.ext pJ;have hC:=(hCd _).2 ⟨_,S⟩;refine aP (i_ a0) 0 rfl rfl hC (av rfl (fun w' hw'=>by obtain ⟨_,S⟩:=(hCd _).1 hw'; exact (aG rfl))) ?_;refine aP (i_ pi) 1 rfl rfl hC (av rfl (fun w' hw'=>by obtain ⟨_,S⟩:=(hCd _).1 hw'; exact (aG rfl))) ?_;refine oB F fun Z pK F=>?_;refine aP (i_ Z) 2 rfl rfl hC (av rfl (fun w' hw'=>by obtain ⟨_,S⟩:=(hCd _).1 hw'; exact (dL rfl rfl pK))) ?_;refine aP (i_ a1) 3 rfl rfl hC (av rfl (fun w' hw'=>by obtain ⟨_,S⟩:=(hCd _).1 hw'; exact (aG rfl))) ?_;refine aP (i_ pi) 4 rfl rfl hC (av rfl (fun w' hw'=>by obtain ⟨_,S⟩:=(hCd _).1 hw'; exact (aG rfl))) ?_;refine oB F fun o3 pL F=>?_;refine aP (i_ o3) 5 rfl rfl hC (av rfl (fun w' hw'=>by obtain ⟨_,S⟩:=(hCd _).1 hw'; exact (dL rfl rfl pL))) ?_;refine aP (.agg #[i_ Z,i_ o3]) 6 rfl rfl hC (av rfl (fun w' hw'=>by obtain ⟨_,S⟩:=(hCd _).1 hw'; exact (aJ [(0,[i_ Z]),(1,[i_ o3])] [i_ Z,i_ o3] (dG rfl (dG rfl rfl)) rfl))) ?_;refine aO 7 rfl ?_;refine aw S dt ?_;intro qL pr S qA;refine ah ?_;have hC:=(hCd _).2 ⟨_,S⟩;refine ⟨fun _=>hC,?_⟩;refine aO 8 rfl ?_;refine ae (S.top 0 rfl) rfl [i_ Z,i_ o3] rfl rfl dt (all_cons rfl (all_cons rfl rfl)) ?_;intro qc S;replace S:Sat w0 qc [Box pr 114 [i_ Z,i_ o3],Box o4 114 [i_ 0,i_ 0]]:=S;refine ah ?_;have hC:=(hCd _).2 ⟨_,S⟩;refine ⟨fun _=>hC,?_⟩;refine cd (by kernel_rfl) ?_;refine tn qb (sg fun _ pu=>sR fun _ qd=>pe (.agg #[i_ Z,i_ o3]) (ap (cs:=[i_ Z,i_ o3]) rfl rfl (an (S.boxAt 0 rfl))) (oB F fun qf pN F=>?_));refine ec0 kp (dR pN) (ca (ac rfl rfl)) S fun qN qB S=>?_;refine pe (.bool (!qf)) (aQ rfl) (en qd (oF F (fun pd F=>?_) fun pd F=>?_))
   ·refine cf (aj pd) (sn pu (sR fun _ qg=>pe (.agg #[i_ Z,i_ o3]) (ap (cs:=[i_ Z,i_ o3]) rfl rfl (an (S.boxAt 0 rfl))) ?_));refine ae (S.top 1 rfl) rfl [i_ Z,i_ o3] rfl rfl dt (all_cons rfl (all_cons rfl rfl)) ?_;intro qh S;replace S:Sat w0 qh [Box o4 114 [i_ Z,i_ o3],Box pr 114 [i_ Z,i_ o3]]:=S;refine pa (.bool true) (en qg (ag ?_));refine bo (cs:=[i_ Z,i_ o3]) rfl rfl rfl (an (S.boxAt 0 rfl)) rfl ?_;have hr:=oI F;exact ⟨cR hr fun r=>.tuple #[.agg #[i_ r.1.1,i_ r.1.2],.bool r.2],S.below⟩
   refine ct (ak pd) (sg fun _ qj=>?_);replace S:=S.r0;refine ai (pe (.agg #[i_ 0,i_ 0]) (aJ [] [i_ 0,i_ 0] rfl rfl) ?_);refine ae (S.top 0 rfl) rfl [i_ 0,i_ 0] rfl rfl dt (all_cons rfl (all_cons rfl rfl)) ?_;intro qk S;replace S:Sat w0 qk [Box o4 114 [i_ 0,i_ 0]]:=S;refine pa (.bool false) (en qj (ag (tr pu ?_)));refine bo (cs:=[i_ 0,i_ 0]) rfl rfl rfl (an (S.boxAt 0 rfl)) rfl ?_;have hr:=oI F;exact ⟨cR hr fun r=>.tuple #[.agg #[i_ r.1.1,i_ r.1.2],.bool r.2],S.below⟩
  refine ct (ak o7) (sR fun _ ql=>pe (.agg #[i_ 0,i_ 0]) (aJ [] [i_ 0,i_ 0] rfl rfl) ?_);refine ae (S.top 0 rfl) rfl [i_ 0,i_ 0] rfl rfl dt (all_cons rfl (all_cons rfl rfl)) ?_;intro qn S;replace S:Sat w0 qn [Box o4 114 [i_ 0,i_ 0]]:=S;refine pa (.bool false) (en ql (ag (tr o6 ?_)));refine bo (cs:=[i_ 0,i_ 0]) rfl rfl rfl (an (S.boxAt 0 rfl)) rfl ?_;have hr:=oI F;exact ⟨cR hr fun r=>.tuple #[.agg #[i_ r.1.1,i_ r.1.2],.bool r.2],S.below⟩
 refine eo (ak J) (eo (ak J) (eo (ak J) (eo (ak J) (eo (ak J) (eo (ak J) (pe (.bool true) (aq rfl (ak J) rfl) (en pf (ct rfl (sR fun _ qp=>pe (.agg #[i_ 0,i_ 0]) (aJ [] [i_ 0,i_ 0] rfl rfl) ?_)))))))));refine ae (S.top 0 rfl) rfl [i_ 0,i_ 0] rfl rfl dt (all_cons rfl (all_cons rfl rfl)) ?_;intro qq S;replace S:Sat w0 qq [Box o4 114 [i_ 0,i_ 0]]:=S;refine pa (.bool false) (en qp (ag (tr o6 ?_)));refine bo (cs:=[i_ 0,i_ 0]) rfl rfl rfl (an (S.boxAt 0 rfl)) rfl ?_;have hr:=oI F;exact ⟨cR hr fun r=>.tuple #[.agg #[i_ r.1.1,i_ r.1.2],.bool r.2],S.below⟩
theorem jX {w0:World} {U:World} {G0:List Asn} {b0:Nat} {u0:Value} {a0:List Int} {a1:Int} {a2:Int} (ha0:(au u8R 5).rd U [u0] a0) (S:Sat U w0 (Box b0 101 [u0,i_ a1,i_ a2] :: G0)) {N:Nat} {r:T1_ × Int × Int} (F:gc N a0 a1 a2=some r): Calls Try.prog 117 #[.pointer (some ⟨b0,0,none⟩)] w0 fun e w'=>e=.returned (.agg #[i_ r.1.1,i_ r.1.2])∧Sat U w' (Box b0 101 [u0,i_ r.2.1,i_ r.2.2] :: G0) := by
 unfold gc at F;refine aB Try.func117 rfl rfl dt ?_;refine sR fun _ pq=>?_;refine aw S dt ?_;intro pN Y S pG;refine en pq (sR fun _ pr=>pm (pt b0 0) ?_);replace S:=S.t1;refine oB F fun o7 pf F=>?_;refine aD ej (bp ha0 S pf) (ca (ac rfl (ac rfl rfl))) dt ?_;rintro _ pu ⟨rfl,S⟩;refine ⟨_,rfl,?_⟩;replace S:Sat U pu (Box b0 101 [u0,i_ o7.2.1,i_ o7.2.2] :: Box Y 114 [i_ 0,i_ 0] :: G0):=S;refine oB F fun pv pg F=>pe (i_ pv) (cT rfl rfl pg) (pm (pt b0 0) (oB F fun o4 ph F=>?_));refine aD ej (bp ha0 S ph) (ca (ac rfl (ac rfl rfl))) dt ?_;rintro _ pw ⟨rfl,S⟩;refine ⟨_,rfl,?_⟩;replace S:Sat U pw (Box b0 101 [u0,i_ o4.2.1,i_ o4.2.2] :: Box Y 114 [i_ 0,i_ 0] :: G0):=S;refine oB F fun px pi F=>pe (i_ px) (aA rfl rfl pi) (oB F fun D pj F=>?_);refine ec0 kc (eD pj) (ca (ac rfl (ac rfl rfl))) S fun pO pH S=>?_;refine pm (.tuple #[.agg #[i_ D.1.1,i_ D.1.2],.bool D.2]) (pe (.agg #[i_ D.1.1,i_ D.1.2]) (ar rfl rfl) (pe (.bool D.2) (ar rfl rfl) ?_));refine aw S dt ?_;intro pP Z S pI;refine ae (S.top 0 rfl) rfl [i_ D.1.1,i_ D.1.2] rfl rfl dt (all_cons rfl (all_cons rfl rfl)) ?_;intro py S;replace S:Sat U py (Box Z 114 [i_ D.1.1,i_ D.1.2] :: Box b0 101 [u0,i_ o4.2.1,i_ o4.2.2] :: Box Y 114 [i_ 0,i_ 0] :: G0):=S;refine pa (.bool D.2) (en pr (sg fun _ o8=>sR fun _ pz=>pm (pt b0 0) ?_));replace S:=S.t1;refine oB F fun o5 pk F=>?_;refine aD iZ (e7 ha0 S pk) (ca (ac rfl (ac rfl rfl))) dt ?_;rintro _ pA ⟨rfl,S⟩;refine ⟨_,rfl,?_⟩;replace S:Sat U pA (Box b0 101 [u0,i_ o5.2.1,i_ o5.2.2] :: Box Z 114 [i_ D.1.1,i_ D.1.2] :: Box Y 114 [i_ 0,i_ 0] :: G0):=S;refine en pz (oF F (fun o6 F=>?_) fun o6 F=>?_)
 ·refine ct o6 (ai (pm (pt b0 0) ?_));refine aY (R:=aT) (xs:=([1000000000,(-1000000000),999999937,1]:List Int)) [i_ 1000000000,i_ (-1000000000),i_ 999999937,i_ 1] rfl rfl rfl rfl (by rfl) (dC ([1000000000,(-1000000000),999999937,1]:List Int)) S dt ?_;intro pQ pR S pJ;replace S:=S.t1;refine oB F fun o9 pn F=>?_;refine aD ez (bh ha0 S pn) (ca (ac rfl (ac rfl rfl))) dt ?_;rintro _ pB ⟨rfl,S⟩;refine ⟨_,rfl,?_⟩;replace S:Sat U pB (Box b0 101 [u0,i_ o9.2.1,i_ o9.2.2] :: Box Z 114 [i_ D.1.1,i_ D.1.2] :: Box Y 114 [i_ 0,i_ 0] :: G0):=S;refine pm (pt b0 0) ?_;refine aY (R:=aT) (xs:=([1,1000000000,999999893]:List Int)) [i_ 1,i_ 1000000000,i_ 999999893] rfl rfl rfl rfl (by rfl) (dC ([1,1000000000,999999893]:List Int)) S dt ?_;intro pS pT S pK;replace S:=S.t1;refine oB F fun o3 po F=>?_;refine aD ez (bh ha0 S po) (ca (ac rfl (ac rfl rfl))) dt ?_;rintro _ pC ⟨rfl,S⟩;refine ⟨_,rfl,?_⟩;replace S:Sat U pC (Box b0 101 [u0,i_ o3.2.1,i_ o3.2.2] :: Box Z 114 [i_ D.1.1,i_ D.1.2] :: Box Y 114 [i_ 0,i_ 0] :: G0):=S;refine oB F fun J pp F=>?_;refine ec0 kc (eD pp) (ca (ac rfl (ac rfl rfl))) S fun pU pL S=>?_;refine pm (.tuple #[.agg #[i_ J.1.1,i_ J.1.2],.bool J.2]) (pe (.agg #[i_ J.1.1,i_ J.1.2]) (ar rfl rfl) (pe (.bool J.2) (ar rfl rfl) ?_));refine ae (S.top 1 rfl) rfl [i_ J.1.1,i_ J.1.2] rfl rfl dt (all_cons rfl (all_cons rfl rfl)) ?_;intro pD S;replace S:Sat U pD (Box Z 114 [i_ J.1.1,i_ J.1.2] :: Box b0 101 [u0,i_ o3.2.1,i_ o3.2.2] :: Box Y 114 [i_ 0,i_ 0] :: G0):=S;refine en o8 (sR fun _ pE=>pe (.agg #[i_ J.1.1,i_ J.1.2]) (ap (cs:=[i_ J.1.1,i_ J.1.2]) rfl rfl (an (S.boxAt 0 rfl))) ?_);refine ae (S.top 2 rfl) rfl [i_ J.1.1,i_ J.1.2] rfl rfl dt (all_cons rfl (all_cons rfl rfl)) ?_;intro pc S;replace S:Sat U pc (Box Y 114 [i_ J.1.1,i_ J.1.2] :: Box Z 114 [i_ J.1.1,i_ J.1.2] :: Box b0 101 [u0,i_ o3.2.1,i_ o3.2.2] :: G0):=S;refine en pE (ag ?_);refine fd (cs:=[i_ J.1.1,i_ J.1.2]) rfl rfl rfl (an (S.boxAt 0 rfl))  ?_;replace S:=S.t2;have hr:=oI F;replace S:=S.r2.r1;exact ⟨(cR hr fun r=>.agg #[i_ r.1.1,i_ r.1.2] :),Eq.mp (congrArg (fun (r:T1_ × Int × Int)=>Sat U pc (Box b0 101 [u0,i_ r.2.1,i_ r.2.2] :: G0)) hr :) S⟩
 refine cf o6 (sn o8 (sR fun _ pF=>pe (.agg #[i_ D.1.1,i_ D.1.2]) (ap (cs:=[i_ D.1.1,i_ D.1.2]) rfl rfl (an (S.boxAt 1 rfl))) ?_));refine ae (S.top 2 rfl) rfl [i_ D.1.1,i_ D.1.2] rfl rfl dt (all_cons rfl (all_cons rfl rfl)) ?_;intro pd S;replace S:Sat U pd (Box Y 114 [i_ D.1.1,i_ D.1.2] :: Box b0 101 [u0,i_ o5.2.1,i_ o5.2.2] :: Box Z 114 [i_ D.1.1,i_ D.1.2] :: G0):=S;refine en pF (ag ?_);refine fd (cs:=[i_ D.1.1,i_ D.1.2]) rfl rfl rfl (an (S.boxAt 0 rfl))  ?_;replace S:=S.t1;have hr:=oI F;replace S:=S.r2.r1;exact ⟨(cR hr fun r=>.agg #[i_ r.1.1,i_ r.1.2] :),Eq.mp (congrArg (fun (r:T1_ × Int × Int)=>Sat U pd (Box b0 101 [u0,i_ r.2.1,i_ r.2.2] :: G0)) hr :) S⟩
theorem jY {w0:World} {Z:World} {G0:List Asn} {b0:Nat} {u0:Value} {a0:List Int} {a1:Int} {a2:Int} (ha0:(au u8R 5).rd Z [u0] a0) (S:Sat Z w0 (Box b0 101 [u0,i_ a1,i_ a2] :: G0)) {N:Nat} {r:T1_ × Int × Int} (F:fH N a0 a1 a2=some r): Calls Try.prog 90 #[.pointer (some ⟨b0,0,none⟩)] w0 fun e w'=>e=.returned (.agg #[i_ r.1.1,i_ r.1.2])∧Sat Z w' (Box b0 101 [u0,i_ r.2.1,i_ r.2.2] :: G0) := by
 unfold fH at F;refine aB Try.func90 rfl rfl dt ?_;refine sR fun _ pn=>?_;refine aw S dt ?_;intro pI o3 S pE;refine en pn (sR fun _ po=>pm (pt b0 0) ?_);replace S:=S.t1;refine oB F fun D pg F=>?_;refine aD nx (jX ha0 S pg) (ca (ac rfl rfl)) dt ?_;rintro _ pp ⟨rfl,S⟩;refine ⟨_,rfl,?_⟩;replace S:Sat Z pp (Box b0 101 [u0,i_ D.2.1,i_ D.2.2] :: Box o3 114 [i_ 0,i_ 0] :: G0):=S;refine aw S dt ?_;intro pJ Y S pF;refine ae (S.top 0 rfl) rfl [i_ D.1.1,i_ D.1.2] rfl rfl dt (all_cons rfl (all_cons rfl rfl)) ?_;intro pq S;replace S:Sat Z pq (Box Y 114 [i_ D.1.1,i_ D.1.2] :: Box b0 101 [u0,i_ D.2.1,i_ D.2.2] :: Box o3 114 [i_ 0,i_ 0] :: G0):=S;refine en po (sg fun _ o8=>sR fun _ pr=>pm (pt b0 0) ?_);replace S:=S.t1;refine oB F fun o4 ph F=>?_;refine aD ej (bp ha0 S ph) (ca (ac rfl (ac rfl rfl))) dt ?_;rintro _ pu ⟨rfl,S⟩;refine ⟨_,rfl,?_⟩;replace S:Sat Z pu (Box b0 101 [u0,i_ o4.2.1,i_ o4.2.2] :: Box Y 114 [i_ D.1.1,i_ D.1.2] :: Box o3 114 [i_ 0,i_ 0] :: G0):=S;refine en pr (bg fun _ o9=>sR fun _ pv=>pe (.bool (o4.1 == 0)) (cv rfl rfl) (pa (.bool (o4.1 == 0)) (en pv (oF F (fun o5 F=>?_) fun o5 F=>?_))))
 ·refine ct o5 (ai (pm (pt b0 0) ?_));refine aY (R:=aT) (xs:=([0,(-1),1000000001]:List Int)) [i_ 0,i_ (-1),i_ 1000000001] rfl rfl rfl rfl (by rfl) (dC ([0,(-1),1000000001]:List Int)) S dt ?_;intro pK pL S pG;replace S:=S.t1;refine oB F fun J pi F=>?_;refine aD ez (bh ha0 S pi) (ca (ac rfl (ac rfl rfl))) dt ?_;rintro _ pw ⟨rfl,S⟩;refine ⟨_,rfl,?_⟩;replace S:Sat Z pw (Box b0 101 [u0,i_ J.2.1,i_ J.2.2] :: Box Y 114 [i_ D.1.1,i_ D.1.2] :: Box o3 114 [i_ 0,i_ 0] :: G0):=S;refine pe (pt Y (0 + 1)) (aa rfl) ?_;refine ae (S.top 1 rfl) rfl [i_ J.1] rfl rfl dt (all_cons rfl rfl) ?_;intro px S;replace S:Sat Z px (Box Y 114 [i_ D.1.1,i_ J.1] :: Box b0 101 [u0,i_ J.2.1,i_ J.2.2] :: Box o3 114 [i_ 0,i_ 0] :: G0):=S;refine ah (bn o9 (tn o8 (sR fun _ py=>pe (.agg #[i_ D.1.1,i_ J.1]) (ap (cs:=[i_ D.1.1,i_ J.1]) rfl rfl (an (S.boxAt 0 rfl))) ?_)));refine ae (S.top 2 rfl) rfl [i_ D.1.1,i_ J.1] rfl rfl dt (all_cons rfl (all_cons rfl rfl)) ?_;intro pc S;replace S:Sat Z pc (Box o3 114 [i_ D.1.1,i_ J.1] :: Box Y 114 [i_ D.1.1,i_ J.1] :: Box b0 101 [u0,i_ J.2.1,i_ J.2.2] :: G0):=S;refine en py (ag ?_);refine fd (cs:=[i_ D.1.1,i_ J.1]) rfl rfl rfl (an (S.boxAt 0 rfl))  ?_;replace S:=S.t2;have hr:=oI F;replace S:=S.r2.r1;exact ⟨(cR hr fun r=>.agg #[i_ r.1.1,i_ r.1.2] :),Eq.mp (congrArg (fun (r:T1_ × Int × Int)=>Sat Z pc (Box b0 101 [u0,i_ r.2.1,i_ r.2.2] :: G0)) hr :) S⟩
 refine cf o5 (sR fun _ pz=>pe (.bool (o4.1 == 1)) (cv rfl rfl) (pa (.bool (o4.1 == 1)) (en pz (oF F (fun o6 F=>?_) fun o6 F=>?_))))
 ·refine ct o6 (ai (pm (pt b0 0) (pe (pt Y (0 + 1)) (aa rfl) (pe (i_ D.1.2) (ab rfl ((S.boxAt 1 rfl) 1 _ rfl)) (oB F fun o7 pj F=>pe (i_ o7) (dm rfl rfl pj) ?_)))));refine aY (R:=aT) (xs:=([1000000001,(-1000000001),o7]:List Int)) [i_ 1000000001,i_ (-1000000001),i_ o7] rfl rfl rfl rfl (gP rfl (gP rfl (gP rfl rfl))) (dC ([1000000001,(-1000000001),o7]:List Int)) S dt ?_;intro pN pO S pH;replace S:=S.t1;refine oB F fun U pk F=>?_;refine aD ez (bh ha0 S pk) (ca (ac rfl (ac rfl rfl))) dt ?_;rintro _ pA ⟨rfl,S⟩;refine ⟨_,rfl,?_⟩;replace S:Sat Z pA (Box b0 101 [u0,i_ U.2.1,i_ U.2.2] :: Box Y 114 [i_ D.1.1,i_ D.1.2] :: Box o3 114 [i_ 0,i_ 0] :: G0):=S;refine pe (pt Y (0 + 0)) (aa rfl) ?_;refine ae (S.top 1 rfl) rfl [i_ U.1] rfl rfl dt (all_cons rfl rfl) ?_;intro pB S;replace S:Sat Z pB (Box Y 114 [i_ U.1,i_ D.1.2] :: Box b0 101 [u0,i_ U.2.1,i_ U.2.2] :: Box o3 114 [i_ 0,i_ 0] :: G0):=S;refine ah (bn o9 (tn o8 (sR fun _ pC=>pe (.agg #[i_ U.1,i_ D.1.2]) (ap (cs:=[i_ U.1,i_ D.1.2]) rfl rfl (an (S.boxAt 0 rfl))) ?_)));refine ae (S.top 2 rfl) rfl [i_ U.1,i_ D.1.2] rfl rfl dt (all_cons rfl (all_cons rfl rfl)) ?_;intro pd S;replace S:Sat Z pd (Box o3 114 [i_ U.1,i_ D.1.2] :: Box Y 114 [i_ U.1,i_ D.1.2] :: Box b0 101 [u0,i_ U.2.1,i_ U.2.2] :: G0):=S;refine en pC (ag ?_);refine fd (cs:=[i_ U.1,i_ D.1.2]) rfl rfl rfl (an (S.boxAt 0 rfl))  ?_;replace S:=S.t2;have hr:=oI F;replace S:=S.r2.r1;exact ⟨(cR hr fun r=>.agg #[i_ r.1.1,i_ r.1.2] :),Eq.mp (congrArg (fun (r:T1_ × Int × Int)=>Sat Z pd (Box b0 101 [u0,i_ r.2.1,i_ r.2.2] :: G0)) hr :) S⟩
 refine cf o6 (bF (bn o9 (tn o8 (sR fun _ pD=>pe (.agg #[i_ D.1.1,i_ D.1.2]) (ap (cs:=[i_ D.1.1,i_ D.1.2]) rfl rfl (an (S.boxAt 1 rfl))) ?_))));refine ae (S.top 2 rfl) rfl [i_ D.1.1,i_ D.1.2] rfl rfl dt (all_cons rfl (all_cons rfl rfl)) ?_;intro pf S;replace S:Sat Z pf (Box o3 114 [i_ D.1.1,i_ D.1.2] :: Box b0 101 [u0,i_ o4.2.1,i_ o4.2.2] :: Box Y 114 [i_ D.1.1,i_ D.1.2] :: G0):=S;refine en pD (ag ?_);refine fd (cs:=[i_ D.1.1,i_ D.1.2]) rfl rfl rfl (an (S.boxAt 0 rfl))  ?_;replace S:=S.t1;have hr:=oI F;replace S:=S.r2.r1;exact ⟨(cR hr fun r=>.agg #[i_ r.1.1,i_ r.1.2] :),Eq.mp (congrArg (fun (r:T1_ × Int × Int)=>Sat Z pf (Box b0 101 [u0,i_ r.2.1,i_ r.2.2] :: G0)) hr :) S⟩
theorem eN {w0:World} {o3:World} {G0:List Asn} {b0:Nat} {u0:Value} {a0:List Int} {a1:Int} {a2:Int} {a3:Int} (ha0:(au u8R 5).rd o3 [u0] a0) (S:Sat o3 w0 (Box b0 101 [u0,i_ a1,i_ a2] :: G0)) {N:Nat} {r:(List T1_) × Int × Int} (F:dV N a0 a1 a2 a3=some r): Calls Try.prog 55 #[.pointer (some ⟨b0,0,none⟩),i_ a3] w0 fun e w'=>∃ (q0:Value),e=.returned (q0)∧Sat o3 w' (Own R5_ [q0] r.1 :: Box b0 101 [u0,i_ r.2.1,i_ r.2.2] :: G0) := by
 unfold dV at F;refine aB Try.func55 rfl rfl dt ?_;refine sR fun _ pG=>pa n_ (en pG (sR fun _ pH=>?_));refine cO R2_ S dt ?_;intro qc pi S p5;refine pa pi (en pH (sg fun _ pI=>bg fun _ pJ=>?_));obtain ⟨pK,hL,pr⟩:=ob F;refine aC (fun k e w=>∃ (o9:Int),∃ (pc:Int),∃ (D:Value),∃ (U:List T1_),e 0=pt b0 0∧e 1=i_ a3∧e 5=D∧Sat o3 w (Own R5_ [D] U :: Box b0 101 [u0,i_ o9,i_ pc] :: G0)∧cN N k a0 o9 pc a3 U=some pK) N ?_ ?_ ?_
 ·exact ⟨a1,a2,pi,[],rfl,rfl,rfl,S,hL⟩
 ·rintro e w ⟨_,_,_,_,_,_,_,_,hz⟩; exact nn hz
 rintro k qd pL ⟨o9,pc,D,U,o4,pg,Y,S,F⟩;refine gn fun _ pj=>sg fun _ pk=>sR fun _ pN=>pM D Y (pe (i_ (U.length:Int)) (az rfl (S.rdAt (R:=R5_) 0 rfl)) (pM (i_ a3) pg (pe (.bool (decide ((U.length:Int) < a3))) (aF rfl rfl) (en pN (oF F (fun o6 F=>?_) fun o6 F=>?_)))))
 ·refine ct o6 (sn pk (bg fun _ pO=>sR fun _ pP=>pM (pt b0 0) o4 ?_));replace S:=S.t1;refine oB F fun pn pu F=>?_;refine aD ej (bp ha0 S pu) (ca (ac rfl (ac rfl rfl))) dt ?_;rintro _ pQ ⟨rfl,S⟩;refine ⟨_,rfl,?_⟩;replace S:Sat o3 pQ (Box b0 101 [u0,i_ pn.2.1,i_ pn.2.2] :: Own R5_ [D] U :: G0):=S;refine pM (pt b0 0) o4 ?_;refine aY (R:=aT) (xs:=([1,2,2,3]:List Int)) [i_ 1,i_ 2,i_ 2,i_ 3] rfl rfl rfl rfl (by rfl) (dC ([1,2,2,3]:List Int)) S dt ?_;intro qf qg S p6;replace S:=S.t1;refine oB F fun o5 pv F=>?_;refine aD ez (bh ha0 S pv) (ca (ac rfl (ac rfl rfl))) dt ?_;rintro _ pR ⟨rfl,S⟩;refine ⟨_,rfl,?_⟩;replace S:Sat o3 pR (Box b0 101 [u0,i_ o5.2.1,i_ o5.2.2] :: Own R5_ [D] U :: G0):=S;refine oB F fun J pw F=>?_;refine ec0 kc (eD pw) (ca (ac rfl (ac rfl rfl))) S fun qh p7 S=>?_;refine pm (.tuple #[.agg #[i_ J.1.1,i_ J.1.2],.bool J.2]) (pe (.agg #[i_ J.1.1,i_ J.1.2]) (ar rfl rfl) (pe (.bool J.2) (ar rfl rfl) ?_));refine aw S dt ?_;intro qj pS S p8;refine ae (S.top 0 rfl) rfl [i_ J.1.1,i_ J.1.2] rfl rfl dt (all_cons rfl (all_cons rfl rfl)) ?_;intro pT S;replace S:Sat o3 pT (Box pS 114 [i_ J.1.1,i_ J.1.2] :: Box b0 101 [u0,i_ o5.2.1,i_ o5.2.2] :: Own R5_ [D] U :: G0):=S;refine pa (.bool J.2) (en pP (ai (pM D Y (pe (.agg #[i_ J.1.1,i_ J.1.2]) (ap (cs:=[i_ J.1.1,i_ J.1.2]) rfl rfl (an (S.boxAt 0 rfl))) ?_))));refine aI [i_ J.1.1,i_ J.1.2] rfl (by rfl) dt rfl dt S dt ?_;intro qk ql S p9;refine oB F fun pU px F=>?_;have ph:=S.boxRow 0 rfl;replace S:=S.t3;replace S:=S.int J.1.2;replace S:=S.int J.1.1;replace S:=S.pair;replace S:=S.one;refine bD rfl dt rfl dt S rfl rfl rfl (by simp) ph px dt ?_;intro qn po S;refine pa po (ah (bn pO (tn pj ?_)));replace S:=S.t3.t1;replace S:=S.r3.r2;exact ⟨o5.2.1,o5.2.2,po,pU,o4,pg,rfl,S,F⟩
 refine cf o6 (aE (tx pk (tx pj ?_)));replace F:=exB F pr;refine bS pJ (tn pI (sg fun _ pd=>sR fun _ pp=>pM D Y (pe (i_ (U.length:Int)) (az rfl (S.rdAt (R:=R5_) 0 rfl)) (pe (.bool (decide (0 < (U.length:Int)))) (cg rfl rfl) (pm (.bool (decide (0 < (U.length:Int)))) (oF F (fun Z F=>?_) fun Z F=>?_))))))
 ·refine ei Z (pM (pt b0 0) o4 (ei Z ?_));replace S:=S.t1;refine oB F fun pf py F=>?_;refine aD iZ (e7 ha0 S py) (ca (ac rfl (ac rfl rfl))) dt ?_;rintro _ pq ⟨rfl,S⟩;refine ⟨_,rfl,?_⟩;replace S:Sat o3 pq (Box b0 101 [u0,i_ pf.2.1,i_ pf.2.2] :: Own R5_ [D] U :: G0):=S;refine pe (.bool pf.1) (aq rfl Z rfl) (en pp (oF F (fun o7 F=>?_) fun o7 F=>?_))
  ·refine ct o7 (ai (pM D Y (pM (pt b0 0) o4 (oB F fun o8 pz F=>?_))));refine aD nQ (jY ha0 S pz) (ca (ac rfl rfl)) dt ?_;rintro _ pV ⟨rfl,S⟩;refine ⟨_,rfl,?_⟩;replace S:Sat o3 pV (Box b0 101 [u0,i_ o8.2.1,i_ o8.2.2] :: Own R5_ [D] U :: G0):=S;refine oB F fun qp pA F=>?_;replace S:=S.t1;refine jN S rfl rfl dt rfl pA dt ?_;intro qq qa qr pB pC qb;obtain ⟨_,_,rfl,pD,pE⟩:=pC;obtain rfl:=pD;obtain rfl:=pE;refine oB F fun qu pF F=>?_;replace S:=S.int o8.1.2;replace S:=S.int o8.1.1;replace S:=S.pair;refine fX rfl pB S pF rfl rfl ?_;intro pW S;refine en pd (sR fun _ pX=>pM D Y (pa D (en pX (ag (ay rfl rfl ?_)))));have hr:=oI F;exact ⟨D,(cR hr fun r=>D :),Eq.mp (congrArg (fun (r:(List T1_) × Int × Int)=>Sat o3 pW (Own R5_ [D] r.1 :: Box b0 101 [u0,i_ r.2.1,i_ r.2.2] :: G0)) hr :) S⟩
  refine cf o7 (sn pd (sR fun _ pY=>pM D Y (pa D (en pY (ag (ay rfl rfl ?_))))));replace S:=S.t1;have hr:=oI F;exact ⟨D,(cR hr fun r=>D :),Eq.mp (congrArg (fun (r:(List T1_) × Int × Int)=>Sat o3 pq (Own R5_ [D] r.1 :: Box b0 101 [u0,i_ r.2.1,i_ r.2.2] :: G0)) hr :) S⟩
 refine eo Z (eo Z (pe (.bool false) (am rfl Z rfl) (en pp (cf rfl (sn pd (sR fun _ pZ=>pM D Y (pa D (en pZ (ag (ay rfl rfl ?_))))))))));have hr:=oI F;exact ⟨D,(cR hr fun r=>D :),Eq.mp (congrArg (fun (r:(List T1_) × Int × Int)=>Sat o3 pL (Own R5_ [D] r.1 :: Box b0 101 [u0,i_ r.2.1,i_ r.2.2] :: G0)) hr :) S⟩
theorem fL {w0:World} {u0:Value} {a0:List Int} (ha0:(au u8R 5).rd w0 [u0] a0) {N:Nat} {r:T9_ × T0_ × (List T1_) × Int} (F:ce N a0=some r): Calls Try.prog 17 #[u0] w0 fun e w'=>∃ (q0:Value) (q1:Value) (q2:Value) (q3:Value),e=.returned (.tuple #[.agg #[i_ r.1.1,q0,q1],q2,q3,i_ r.2.2.2])∧Sat w0 w' [Own R8_ [q0] r.1.2.1,Own R0_ [q1] r.1.2.2,Own R0_ [q2] r.2.1,Own R5_ [q3] r.2.2.1] := by
 unfold ce at F;refine aB Try.func17 rfl rfl dt ?_;have S:=Sat.start w0;refine sR fun _ px=>?_;refine aw S dt ?_;intro pH o7 S pE;refine pa n_ (pa n_ (pa (i_ 0) (en px (sR fun _ py=>pm u0 (oB F fun pI po F=>?_)))));refine aD lv (hD (S.up ha0) po) (ca (ac rfl rfl)) dt ?_;rintro _ pJ ⟨o3,rfl,S'⟩;refine ⟨_,rfl,?_⟩;have pF:=S'.below;replace S:=S.call1 S';refine pa (pt o3 0) (en py (sR fun _ pz=>pm (pt o3 0) (oB F fun D pp F=>?_)));refine aD mb (hG ha0 S pp) (ca (ac rfl rfl)) dt ?_;rintro _ pA ⟨J,U,rfl,S⟩;refine ⟨_,rfl,?_⟩;replace S:Sat w0 pA [Own R8_ [J] D.1.2.1,Own R0_ [U] D.1.2.2,Box o3 101 [u0,i_ D.2.1,i_ D.2.2],Box o7 44 [i_ 0,n_,n_]]:=S;refine aw S dt ?_;intro pK o8 S pG;refine ae (S.top 0 rfl) rfl [i_ D.1.1,J,U] rfl rfl dt (all_cons rfl (all_cons (oc (S.rdAt (R:=R8_) 1 rfl)) (all_cons (oc (S.rdAt (R:=R0_) 2 rfl)) rfl))) ?_;intro pB S;replace S:Sat w0 pB [Box o8 44 [i_ D.1.1,J,U],Own R8_ [J] D.1.2.1,Own R0_ [U] D.1.2.2,Box o3 101 [u0,i_ D.2.1,i_ D.2.2],Box o7 44 [i_ 0,n_,n_]]:=S;refine en pz (sR fun _ pC=>pe (pt o8 (0 + 1)) (aa rfl) (pe J (ab rfl ((S.boxAt 0 rfl) 1 _ rfl)) (pe (i_ (D.1.2.1.length:Int)) (az rfl (S.rdAt (R:=R8_) 1 rfl)) (pa (i_ (D.1.2.1.length:Int)) (en pC (sg fun _ pD=>oB F fun o4 pj F=>oB F fun o5 pg F=>oB F fun o6 ph F=>?_))))));refine gI (fun e w=>∃ (Y:Value),∃ (Z:Value),e 2=pt o7 0∧e 3=Y∧e 4=Z∧e 5=i_ o6.1∧Sat w0 w [Own R8_ [J] D.1.2.1,Own R0_ [U] D.1.2.2,Box o7 44 [i_ D.1.1,J,U],Own R5_ [Z] o5.1,Own R0_ [Y] o4.1]) ?_ ?_
 ·obtain ⟨C,hCd⟩:∃ C:World → Prop,∀ w,C w ↔ ∃ G,Sat w0 w ([Box o8 44 [i_ D.1.1,J,U],Own R8_ [J] D.1.2.1,Own R0_ [U] D.1.2.2] ++ G):=⟨_,fun _=>Iff.rfl⟩;refine di [0,1,2,3,4,5,6,7,8,9,10,11,12,13] C (by kernel_rfl) ?_;intro pL pq;replace S:=S.ext pq;have hC:=(hCd _).2 ⟨_,S⟩;refine aP (.agg #[i_ D.1.1,J,U]) 0 rfl rfl hC (av rfl (fun w' hw'=>by obtain ⟨_,S⟩:=(hCd _).1 hw'; exact (ap (cs:=[i_ D.1.1,J,U]) rfl rfl (an (S.boxAt 0 rfl))))) ?_;refine aP (pt o3 0) 1 rfl rfl hC (av rfl (fun w' hw'=>by obtain ⟨_,S⟩:=(hCd _).1 hw'; exact (aG rfl))) ?_;refine aP (i_ (D.1.2.1.length:Int)) 2 rfl rfl hC (av rfl (fun w' hw'=>by obtain ⟨_,S⟩:=(hCd _).1 hw'; exact (aG rfl))) ?_;refine aP (pt o3 0) 4 rfl rfl hC (av rfl (fun w' hw'=>by obtain ⟨_,S⟩:=(hCd _).1 hw'; exact (aG rfl))) ?_;refine aP (i_ (D.1.2.1.length:Int)) 5 rfl rfl hC (av rfl (fun w' hw'=>by obtain ⟨_,S⟩:=(hCd _).1 hw'; exact (aG rfl))) ?_;refine aP (pt o3 0) 7 rfl rfl hC (av rfl (fun w' hw'=>by obtain ⟨_,S⟩:=(hCd _).1 hw'; exact (aG rfl))) ?_;refine fh 3 8 (by kernel_rfl) rfl rfl ?_ ?_
  ·replace S:=S.t3;refine aD l0 (gm ha0 S pj) (ca (ac rfl (ac rfl rfl))) dt ?_;rintro _ pi ⟨Y,rfl,S⟩;refine ⟨_,rfl,?_⟩;replace S:Sat w0 pi [Own R0_ [Y] o4.1,Box o3 101 [u0,i_ o4.2.1,i_ o4.2.2],Box o8 44 [i_ D.1.1,J,U],Own R8_ [J] D.1.2.1,Own R0_ [U] D.1.2.2,Box o7 44 [i_ 0,n_,n_]]:=S;refine ah ?_;replace S:=S.t4.t4.t4;have hC:=(hCd _).2 ⟨_,S⟩;refine ⟨fun _=>hC,?_⟩;refine fh 6 8 (by kernel_rfl) rfl rfl ?_ ?_
   ·replace S:=S.t4;refine aD ke (eN ha0 S pg) (ca (ac rfl (ac rfl rfl))) dt ?_;rintro _ o9 ⟨Z,rfl,S⟩;refine ⟨_,rfl,?_⟩;replace S:Sat w0 o9 [Own R5_ [Z] o5.1,Box o3 101 [u0,i_ o5.2.1,i_ o5.2.2],Box o8 44 [i_ D.1.1,J,U],Own R8_ [J] D.1.2.1,Own R0_ [U] D.1.2.2,Own R0_ [Y] o4.1,Box o7 44 [i_ 0,n_,n_]]:=S;refine ah ?_;replace S:=S.t4.t4.t4;have hC:=(hCd _).2 ⟨_,S⟩;refine ⟨fun _=>hC,?_⟩;refine aO 8 rfl ?_;refine aY (R:=aT) (xs:=([0,1,30,300,5000,(-1)]:List Int)) [i_ 0,i_ 1,i_ 30,i_ 300,i_ 5000,i_ (-1)] rfl rfl rfl rfl (by rfl) (dC ([0,1,30,300,5000,(-1)]:List Int)) S dt ?_;intro pn pc S pk;refine ah ?_;replace S:=S.t3.t3.t3;have hC:=(hCd _).2 ⟨_,S⟩;refine ⟨fun _=>hC,?_⟩;refine aO 9 rfl ?_;replace S:=S.t3.t5;refine aD ez (bh ha0 S ph) (ca (ac rfl (ac rfl rfl))) dt ?_;rintro _ pd ⟨rfl,S⟩;refine ⟨_,rfl,?_⟩;replace S:Sat w0 pd [Box o3 101 [u0,i_ o6.2.1,i_ o6.2.2],Box o8 44 [i_ D.1.1,J,U],Own R8_ [J] D.1.2.1,Own R0_ [U] D.1.2.2,Own R5_ [Z] o5.1,Own R0_ [Y] o4.1,Box o7 44 [i_ 0,n_,n_]]:=S;refine ah ?_;replace S:=S.t3.t3.t3;have hC:=(hCd _).2 ⟨_,S⟩;refine ⟨fun _=>hC,?_⟩;refine aO 10 rfl ?_;refine ae (S.top 6 rfl) rfl [i_ D.1.1,J,U] rfl rfl dt (all_cons rfl (all_cons (oc (S.rdAt (R:=R8_) 1 rfl)) (all_cons (oc (S.rdAt (R:=R0_) 2 rfl)) rfl))) ?_;intro pf S;replace S:Sat w0 pf [Box o7 44 [i_ D.1.1,J,U],Box o8 44 [i_ D.1.1,J,U],Own R8_ [J] D.1.2.1,Own R0_ [U] D.1.2.2,Box o3 101 [u0,i_ o6.2.1,i_ o6.2.2],Own R5_ [Z] o5.1,Own R0_ [Y] o4.1]:=S;refine ah ?_;replace S:=S.t3.t3.t3;have hC:=(hCd _).2 ⟨_,S⟩;refine ⟨fun _=>hC,?_⟩;refine aO 11 rfl ?_;refine pa Y (ah ?_);refine ⟨fun _=>hC,?_⟩;refine aO 12 rfl ?_;refine pa Z (ah ?_);refine ⟨fun _=>hC,?_⟩;refine aO 13 rfl ?_;refine pa (i_ o6.1) (ah ?_);refine ⟨fun _=>hC,?_⟩;refine cd (by kernel_rfl) ?_;replace S:=S.t6.t6.t5.t5.t5;replace S:=S.r6.r5;exact ⟨rfl,Y,Z,rfl,rfl,rfl,rfl,S⟩
   refine aY (R:=aT) (xs:=([0,1,30,300,5000,(-1)]:List Int)) [i_ 0,i_ 1,i_ 30,i_ 300,i_ 5000,i_ (-1)] rfl rfl rfl rfl (by rfl) (dC ([0,1,30,300,5000,(-1)]:List Int)) S dt ?_;intro pn pc S pk;refine ah ?_;replace S:=S.t3.t3.t3;have hC:=(hCd _).2 ⟨_,S⟩;refine ⟨fun _=>hC,?_⟩;refine aO 6 rfl ?_;replace S:=S.t5;refine aD ke (eN ha0 S pg) (ca (ac rfl (ac rfl rfl))) dt ?_;rintro _ o9 ⟨Z,rfl,S⟩;refine ⟨_,rfl,?_⟩;replace S:Sat w0 o9 [Own R5_ [Z] o5.1,Box o3 101 [u0,i_ o5.2.1,i_ o5.2.2],Box o8 44 [i_ D.1.1,J,U],Own R8_ [J] D.1.2.1,Own R0_ [U] D.1.2.2,Own R0_ [pc] ([0,1,30,300,5000,(-1)]:List Int),Own R0_ [Y] o4.1,Box o7 44 [i_ 0,n_,n_]]:=S;refine ah ?_;replace S:=S.t4.t4.t4;have hC:=(hCd _).2 ⟨_,S⟩;refine ⟨fun _=>hC,?_⟩;refine aO 9 rfl ?_;replace S:=S.t5.t5;refine aD ez (bh ha0 S ph) (ca (ac rfl (ac rfl rfl))) dt ?_;rintro _ pd ⟨rfl,S⟩;refine ⟨_,rfl,?_⟩;replace S:Sat w0 pd [Box o3 101 [u0,i_ o6.2.1,i_ o6.2.2],Box o8 44 [i_ D.1.1,J,U],Own R8_ [J] D.1.2.1,Own R0_ [U] D.1.2.2,Own R5_ [Z] o5.1,Own R0_ [Y] o4.1,Box o7 44 [i_ 0,n_,n_]]:=S;refine ah ?_;replace S:=S.t3.t3.t3;have hC:=(hCd _).2 ⟨_,S⟩;refine ⟨fun _=>hC,?_⟩;refine aO 10 rfl ?_;refine ae (S.top 6 rfl) rfl [i_ D.1.1,J,U] rfl rfl dt (all_cons rfl (all_cons (oc (S.rdAt (R:=R8_) 1 rfl)) (all_cons (oc (S.rdAt (R:=R0_) 2 rfl)) rfl))) ?_;intro pf S;replace S:Sat w0 pf [Box o7 44 [i_ D.1.1,J,U],Box o8 44 [i_ D.1.1,J,U],Own R8_ [J] D.1.2.1,Own R0_ [U] D.1.2.2,Box o3 101 [u0,i_ o6.2.1,i_ o6.2.2],Own R5_ [Z] o5.1,Own R0_ [Y] o4.1]:=S;refine ah ?_;replace S:=S.t3.t3.t3;have hC:=(hCd _).2 ⟨_,S⟩;refine ⟨fun _=>hC,?_⟩;refine aO 11 rfl ?_;refine pa Y (ah ?_);refine ⟨fun _=>hC,?_⟩;refine aO 12 rfl ?_;refine pa Z (ah ?_);refine ⟨fun _=>hC,?_⟩;refine aO 13 rfl ?_;refine pa (i_ o6.1) (ah ?_);refine ⟨fun _=>hC,?_⟩;refine cd (by kernel_rfl) ?_;replace S:=S.t6.t6.t5.t5.t5;replace S:=S.r6.r5;exact ⟨rfl,Y,Z,rfl,rfl,rfl,rfl,S⟩
  refine aY (R:=aT) (xs:=([0,1,30,300,5000,(-1)]:List Int)) [i_ 0,i_ 1,i_ 30,i_ 300,i_ 5000,i_ (-1)] rfl rfl rfl rfl (by rfl) (dC ([0,1,30,300,5000,(-1)]:List Int)) S dt ?_;intro pn pc S pk;refine ah ?_;replace S:=S.t3.t3.t3;have hC:=(hCd _).2 ⟨_,S⟩;refine ⟨fun _=>hC,?_⟩;refine aO 3 rfl ?_;replace S:=S.t4;refine aD l0 (gm ha0 S pj) (ca (ac rfl (ac rfl rfl))) dt ?_;rintro _ pi ⟨Y,rfl,S⟩;refine ⟨_,rfl,?_⟩;replace S:Sat w0 pi [Own R0_ [Y] o4.1,Box o3 101 [u0,i_ o4.2.1,i_ o4.2.2],Box o8 44 [i_ D.1.1,J,U],Own R8_ [J] D.1.2.1,Own R0_ [U] D.1.2.2,Own R0_ [pc] ([0,1,30,300,5000,(-1)]:List Int),Box o7 44 [i_ 0,n_,n_]]:=S;refine ah ?_;replace S:=S.t4.t4.t4;have hC:=(hCd _).2 ⟨_,S⟩;refine ⟨fun _=>hC,?_⟩;refine aO 6 rfl ?_;replace S:=S.t4;refine aD ke (eN ha0 S pg) (ca (ac rfl (ac rfl rfl))) dt ?_;rintro _ o9 ⟨Z,rfl,S⟩;refine ⟨_,rfl,?_⟩;replace S:Sat w0 o9 [Own R5_ [Z] o5.1,Box o3 101 [u0,i_ o5.2.1,i_ o5.2.2],Box o8 44 [i_ D.1.1,J,U],Own R8_ [J] D.1.2.1,Own R0_ [U] D.1.2.2,Own R0_ [Y] o4.1,Own R0_ [pc] ([0,1,30,300,5000,(-1)]:List Int),Box o7 44 [i_ 0,n_,n_]]:=S;refine ah ?_;replace S:=S.t4.t4.t4;have hC:=(hCd _).2 ⟨_,S⟩;refine ⟨fun _=>hC,?_⟩;refine aO 9 rfl ?_;replace S:=S.t6.t5;refine aD ez (bh ha0 S ph) (ca (ac rfl (ac rfl rfl))) dt ?_;rintro _ pd ⟨rfl,S⟩;refine ⟨_,rfl,?_⟩;replace S:Sat w0 pd [Box o3 101 [u0,i_ o6.2.1,i_ o6.2.2],Box o8 44 [i_ D.1.1,J,U],Own R8_ [J] D.1.2.1,Own R0_ [U] D.1.2.2,Own R5_ [Z] o5.1,Own R0_ [Y] o4.1,Box o7 44 [i_ 0,n_,n_]]:=S;refine ah ?_;replace S:=S.t3.t3.t3;have hC:=(hCd _).2 ⟨_,S⟩;refine ⟨fun _=>hC,?_⟩;refine aO 10 rfl ?_;refine ae (S.top 6 rfl) rfl [i_ D.1.1,J,U] rfl rfl dt (all_cons rfl (all_cons (oc (S.rdAt (R:=R8_) 1 rfl)) (all_cons (oc (S.rdAt (R:=R0_) 2 rfl)) rfl))) ?_;intro pf S;replace S:Sat w0 pf [Box o7 44 [i_ D.1.1,J,U],Box o8 44 [i_ D.1.1,J,U],Own R8_ [J] D.1.2.1,Own R0_ [U] D.1.2.2,Box o3 101 [u0,i_ o6.2.1,i_ o6.2.2],Own R5_ [Z] o5.1,Own R0_ [Y] o4.1]:=S;refine ah ?_;replace S:=S.t3.t3.t3;have hC:=(hCd _).2 ⟨_,S⟩;refine ⟨fun _=>hC,?_⟩;refine aO 11 rfl ?_;refine pa Y (ah ?_);refine ⟨fun _=>hC,?_⟩;refine aO 12 rfl ?_;refine pa Z (ah ?_);refine ⟨fun _=>hC,?_⟩;refine aO 13 rfl ?_;refine pa (i_ o6.1) (ah ?_);refine ⟨fun _=>hC,?_⟩;refine cd (by kernel_rfl) ?_;replace S:=S.t6.t6.t5.t5.t5;replace S:=S.r6.r5;exact ⟨rfl,Y,Z,rfl,rfl,rfl,rfl,S⟩
 rintro pN pO ⟨Y,Z,pr,pu,pv,pw,S⟩;refine tn pD (ag ?_);refine nt (cs0:=[i_ D.1.1,J,U]) rfl pr rfl (an (S.boxAt 2 rfl)) pu pv pw ?_;replace S:=S.t3.t4.t3.t3;have hr:=oI F;exact ⟨J,U,Y,Z,cR hr fun r=>.tuple #[.agg #[i_ r.1.1,J,U],Y,Z,i_ r.2.2.2],sP hr (fun r=>[Own R8_ [J] r.1.2.1,Own R0_ [U] r.1.2.2,Own R0_ [Y] r.2.1,Own R5_ [Z] r.2.2.1]) (S.keep 4)⟩
theorem iC {w0:World} {a0:ByteArray} {a1:Int} (_:a0.size ≤ 9223372036854775807) {N:Nat} {r:Bool} (F:eX N a0 a1=some r): Calls Try.prog 119 #[.string a0,i_ a1] w0 fun e w'=>e=.returned (.bool r)∧Ext w0 w' := by
 unfold eX at F;refine aB Try.func119 rfl rfl dt ?_;have S:=Sat.start w0;refine sR fun _ pr=>pa (.bool false) (en pr (sg fun _ o8=>sR fun _ pj=>pm (.string a0) (pe (i_ (a0.size:Int)) (fD Try.underlying9 rfl) (pe (.bool (decide ((a0.size:Int) < 1))) (aF rfl rfl) (pm (.bool (decide ((a0.size:Int) < 1))) (oF F (fun D F=>?_) fun D F=>?_))))))
 ·refine eo D (eo D (eo D (eo D (pe (.bool true) (aq rfl D rfl) (en pj (ct rfl (sR fun _ pu=>pa (.bool false) (en pu (ag (tr o8 (ay rfl rfl ?_)))))))))));exact rB F S
 refine ei D (pm (.string a0) (ei D (pe (i_ (a0.size:Int)) (fD Try.underlying9 rfl) (ei D (pm (i_ a1) (ei D (pe (.bool (decide (a1 < (a0.size:Int)))) (cg rfl rfl) (pe (.bool (decide (a1 < (a0.size:Int)))) (am rfl D rfl) (en pj (oF F (fun o3 F=>?_) fun o3 F=>?_))))))))))
 ·refine ct o3 (sR fun _ pv=>pa (.bool false) (en pv (ag (tr o8 (ay rfl rfl ?_)))));exact rB F S
 refine cf o3 (sn o8 (sg fun _ o9=>sR fun _ pw=>pa (i_ 0) (en pw (bg fun _ pc=>?_))));obtain ⟨px,hL,o4⟩:=ob F;refine aC (fun k e w=>∃ (U:Int),e 0=.string a0∧e 5=i_ U∧Sat w0 w []∧cY N k a0 U=some px) N ?_ ?_ ?_
 ·exact ⟨0,rfl,rfl,S,hL⟩
 ·rintro e w ⟨_,_,_,_,hz⟩; exact nn hz
 rintro k pC pD ⟨U,Y,Z,S,F⟩;refine gn fun _ o5=>sg fun _ pk=>sR fun _ py=>pM (i_ U) Z (pM (.string a0) Y (pe (i_ (a0.size:Int)) (fD Try.underlying9 rfl) (pe (.bool (decide (U < (a0.size:Int)))) (aF rfl rfl) (en py (oF F (fun o6 F=>?_) fun o6 F=>?_)))))
 ·refine ct o6 (sn pk (sg fun _ pd=>bg fun _ pf=>sR fun _ pn=>pM (.string a0) Y (pM (i_ U) Z (oB F fun pg po F=>pe (.int .u8 pg) (ji Try.underlying9 rfl rfl po) (pe (.bool (decide (pg < 97))) (aF rfl rfl) (pm (.bool (decide (pg < 97))) (oF F (fun J F=>?_) fun J F=>?_)))))))
  ·refine eo J (eo J (eo J (eo J (pe (.bool true) (aq rfl J rfl) (en pn (ct rfl (sR fun _ pz=>pa (.bool false) (en pz (ag (br pf (tr pd (tr o5 (br pc (tr o9 ?_))))))))))))));replace F:=exL F o4;refine ay rfl rfl ?_;exact rB F S
  refine ei J (pM (.string a0) Y (ei J (pM (i_ U) Z (ei J (oB F fun ph pp F=>pe (.int .u8 ph) (ji Try.underlying9 rfl rfl pp) (ei J (pe (.bool (decide (122 < ph))) (cg rfl rfl) (pe (.bool (decide (122 < ph))) (am rfl J rfl) (en pn (oF F (fun o7 F=>?_) fun o7 F=>?_))))))))))
  ·refine ct o7 (sR fun _ pA=>pa (.bool false) (en pA (ag (br pf (tr pd (tr o5 (br pc (tr o9 ?_))))))));replace F:=exL F o4;refine ay rfl rfl ?_;exact rB F S
  refine cf o7 (bF (bn pf (tn pd (ai (pM (i_ U) Z (oB F fun pi pq F=>pe (i_ pi) (aA rfl rfl pq) (pa (i_ pi) (en o5 ?_))))))));replace S:=S.keep 0;exact ⟨pi,Y,rfl,S,F⟩
 refine cf o6 (aE (tx pk (tx o5 ?_)));replace F:=exA F o4;refine bS pc (tn o9 (sR fun _ pB=>pa (.bool true) (en pB (ag (ay rfl rfl ?_)))));exact rB F S
theorem hX {w0:World} {a0:ByteArray} (ha0:a0.size ≤ 9223372036854775807) {N:Nat} {r:Bool} (F:dK N a0=some r): Calls Try.prog 92 #[.string a0] w0 fun e w'=>e=.returned (.bool r)∧Ext w0 w' := by
 unfold dK at F;refine aB Try.func92 rfl rfl dt ?_;have S:=Sat.start w0;refine sR fun _ J=>pa (.bool false) (en J (sR fun _ U=>pm (.string a0) (oB F fun Y D F=>?_)));refine ec0 nr (iC ha0 D) (ca (ac rfl (ac rfl rfl))) S fun o3 Z S=>?_;refine pa (.bool Y) (en U (ag (ay rfl rfl ?_)));exact rB F S
end
end Go.Proofs.Ytdapplkijobjoaa
