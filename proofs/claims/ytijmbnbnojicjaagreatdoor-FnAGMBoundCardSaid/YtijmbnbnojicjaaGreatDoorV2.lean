/- Plain laws: the inequality of Hoelder in whole numbers: the step of the AGM bound along one variable. -/
import Derived.Test.YtijmbnbnojicjaaGreatDoorV1
namespace Go.Proofs.YtijmbnbnojicjaaGreatDoor
open Go.RowKit
theorem Kg {x y:Rat} (hx:0<=x) (hy:0<=y):∀ n:Nat,((n:Rat)+1)*x*y ^ n<=x ^ (n+1)+n*y ^ (n+1)
 | 0=>by rw [kh,rK];grind
 | n+1=>by
  have h:=Kg hx hy n
  have h1:0<=x*(x ^ (n+1)+n*y ^ (n+1)-((n:Rat)+1)*x*y ^ n):=mo hx (by grind)
  have h2:0<=(x-y)*(x-y):=by
   rcases (Rat.le_total:x<=y\/y<=x) with g | g
   ·have:0<=(y-x)*(y-x):=mo (by grind) (by grind)
    grind
   ·exact mo (by grind) (by grind)
  have hn:(0:Rat)<=(n:Rat)+1:=by
   have:(0:Rat)<=(n:Rat):=uz
   grind
  have h3:0<=(((n:Rat)+1)*y ^ n)*((x-y)*(x-y)):=mo (mo hn (Rat.pow_nonneg hy)) h2
  have e1:((n+1:Nat):Rat)=(n:Rat)+1:=by rw [uC];rfl
  rw [e1,kh x (n+1),kh y (n+1),kh x n,kh y n]
  rw [kh x n,kh y n] at h1
  grind
def prR:List Rat->Rat
 | []=>1
 | x :: l=>x*prR l
def smR:List Rat->Rat
 | []=>0
 | x :: l=>x+smR l
theorem AZ:∀ {l:List Rat},(∀ x∈l,0<=x)->0<=smR l
 | [],_=>by unfold smR;decide
 | x :: l,h=>by
  have h1:=AZ (l:=l) (fun y hy=>h y (cD _ hy))
  have h2:=h x (cx)
  unfold smR;grind
theorem D7:∀ {l:List Rat},(∀ x∈l,0<=x)->0<=prR l
 | [],_=>by unfold prR;decide
 | x :: l,h=>by
  unfold prR
  exact mo (h x cx) (D7 (fun y hy=>h y (cD _ hy)))
theorem MC:∀ {l:List Rat},(∀ x∈l,0<=x)->∀ a:Rat,a*(l.length:Rat)=smR l->0<=a->prR l<=a ^ l.length
 | [],_,a,_,_=>by rw [gu,rK];exact Rat.le_refl
 | t :: l,h,a,ha,h0=>by
  have ht:=h t cx
  have hl:∀ y∈l,0<=y:=fun y hy=>h y (cD _ hy)
  have hs:=AZ hl
  have hp:=D7 hl
  have e1:((l.length+1:Nat):Rat)=(l.length:Rat)+1:=by rw [uC];rfl
  rw [b9,e1] at ha
  have ha':a*((l.length:Rat)+1)=t+smR l:=ha
  rw [b9]
  show t*prR l<=a ^ (l.length+1)
  by_cases hz:l.length=0
  ·have:l=[]:=List.length_eq_zero_iff.mp hz
   subst this
   rw [gu,kh,rK]
   have e2:prR []=1:=rfl
   have e3:smR []=0:=rfl
   rw [e2];rw [e3] at ha'
   have:((([]:List Rat).length:Nat):Rat)=0:=rfl
   rw [this] at ha'
   grind
  ·have hn:(0:Rat)<(l.length:Rat):=Rat.natCast_pos.mpr oa
   have hb:∃ b:Rat,b*(l.length:Rat)=smR l/\0<=b:=by
    refine ⟨smR l / (l.length:Rat),Rat.div_mul_cancel (by grind),?_⟩
    rw [nB]
    exact mo hs (qB (Rat.inv_pos.mpr hn))
   obtain ⟨b,hb,hb0⟩:=hb
   have ih:=MC hl b hb hb0
   have hy:=Kg h0 hb0 l.length
   have h4:t*prR l<=t*b ^ l.length:=vd ih ht
   have h5:t=((l.length:Rat)+1)*a-l.length*b:=by grind
   have h6:t*b ^ l.length=((l.length:Rat)+1)*a*b ^ l.length-l.length*b ^ (l.length+1):=by
    rw [kh];grind
   grind
theorem Gp {x y:Rat} (hx:0<=x) (h:x<=y):∀ n:Nat,x ^ n<=y ^ n
 | 0=>by rw [rK,rK];exact Rat.le_refl
 | n+1=>by
  rw [kh,kh]
  exact uX (vd h (Rat.pow_nonneg hx)) (Be (Gp hx h n) (uX hx h))
theorem yW {x:Rat} (hx:0<=x) (h:x<=1) (m:Nat):∀ n:Nat,x ^ (m+n)<=x ^ m
 | 0=>Rat.le_refl
 | n+1=>by
  have h1:=yW hx h m n
  have h0:0<=x ^ (m+n):=Rat.pow_nonneg hx
  have e:x ^ (m+(n+1))=x ^ (m+n)*x:=kh x (m+n)
  have h2:x ^ (m+n)*x<=x ^ (m+n)*1:=vd h h0
  rw [e];grind
theorem DC (x y:Rat):∀ n:Nat,(x*y) ^ n=x ^ n*y ^ n
 | 0=>by rw [rK,rK,rK];grind
 | n+1=>by rw [kh,kh,kh,DC x y n];grind
theorem sv {x:Rat} (hx:0<=x) {n:Nat} (h:x ^ n<=0):x=0:=by
 by_cases hp:0<x
 ·have:=Rat.pow_pos (n:=n) hp
  grind
 ·grind
section
variable {ι:Type} (c:ι->Bool)
def pk (a r:ι->Rat) (i:ι):Rat:=cond (c i) (a i) (r i)
theorem Ee {a b r t:ι->Rat}:∀ L:List ι,(∀ i∈L,c i=true->a i=t i*b i)->prR (L.map (pk c a r))=prR ((L.filter c).map t)*prR (L.map (pk c b r))
 | [],_=>by
  show (1:Rat)=1*1
  grind
 | i :: L,h=>by
  have ih:=Ee (r:=r) L (fun j hj=>h j (cD _ hj))
  have hi:=h i cx
  rw [gH,gH]
  show pk c a r i*prR (L.map (pk c a r))=_*(pk c b r i*prR (L.map (pk c b r)))
  rw [ih]
  cases hc:c i with
  | true =>
   have e:=hi hc
   rw [List.filter_cons_of_pos hc,gH]
   have e1:pk c a r i=a i:=by unfold pk;rw [hc];rfl
   have e2:pk c b r i=b i:=by unfold pk;rw [hc];rfl
   rw [e1,e2]
   show _=t i*prR ((L.filter c).map t)*_
   grind
  | false =>
   rw [List.filter_cons_of_neg (by rw [hc];decide)]
   have e1:pk c a r i=r i:=by unfold pk;rw [hc];rfl
   have e2:pk c b r i=r i:=by unfold pk;rw [hc];rfl
   rw [e1,e2]
   grind
theorem Ke {a r:ι->Rat} (ha:∀ i,0<=a i) (hr:∀ i,0<=r i) (L:List ι):0<=prR (L.map (pk c a r)):=by
 refine D7 (fun x hx=>?_)
 obtain ⟨i,_,rfl⟩:=List.mem_map.mp hx
 unfold pk
 cases c i with
 | true=>exact ha i
 | false=>exact hr i
theorem zk:∀ {l:List Rat},(0:Rat)∈l->prR l=0
 | x :: l,h=>by
  unfold prR
  rcases List.mem_cons.mp h with h | h
  ·rw [<- h];grind
  ·rw [zk h];grind
theorem FI {t u:ι->Rat}:∀ L:List ι,(∀ i∈L,t i+u i=1)->smR (L.map t)+smR (L.map u)=(L.length:Rat)
 | [],_=>by
  show (0:Rat)+0=0
  grind
 | i :: L,h=>by
  have ih:=FI L (fun j hj=>h j (cD _ hj))
  have hi:=h i cx
  have e1:((L.length+1:Nat):Rat)=(L.length:Rat)+1:=by rw [uC];rfl
  rw [b9,e1,gH,gH]
  show t i+smR (L.map t)+(u i+smR (L.map u))=_
  grind
theorem J6 {a b r t:ι->Rat} {L:List ι} {d:Nat} {N:Rat} (hd:d<=(L.filter c).length) (hd0:0<d) (ht:∀ i∈L,c i=true->a i=t i*b i) (t0:∀ i,0<=t i) (t1:smR ((L.filter c).map t)<=((L.filter c).length:Rat)) (hb:∀ i,0<=b i) (hr:∀ i,0<=r i) (hN:N ^ d<=prR (L.map (pk c a r))) :
  ∃ x:Rat,0<=x/\x*((L.filter c).length:Rat)=smR ((L.filter c).map t)/\N ^ d<=x ^ d*prR (L.map (pk c b r)):=by
 have hF:∀ x∈(L.filter c).map t,0<=x:=by
  intro x hx
  obtain ⟨i,_,rfl⟩:=List.mem_map.mp hx
  exact t0 i
 have hs:=AZ hF
 have hn:(0:Rat)<((L.filter c).length:Rat):=Rat.natCast_pos.mpr oa
 have hx:∃ x:Rat,x*((L.filter c).length:Rat)=smR ((L.filter c).map t)/\0<=x:=by
  refine ⟨smR ((L.filter c).map t) / ((L.filter c).length:Rat),Rat.div_mul_cancel (by grind),?_⟩
  rw [nB]
  exact mo hs (qB (Rat.inv_pos.mpr hn))
 obtain ⟨x,hx,hx0⟩:=hx
 refine ⟨x,hx0,hx,?_⟩
 have x1:x<=1:=by
  refine Rat.le_of_mul_le_mul_right (c:=((L.filter c).length:Rat)) ?_ hn
  rw [hx];grind
 have h1:=MC hF x (by rw [bT];exact hx) hx0
 rw [bT] at h1
 obtain ⟨e,he⟩:=Nat.exists_eq_add_of_le hd
 have h2:x ^ (L.filter c).length<=x ^ d:=by rw [he];exact yW hx0 x1 d e
 rw [Ee c L ht] at hN
 exact uX hN (Be (uX h1 h2) (Ke c hb hr L))
theorem M9 {s S r:ι->Rat} (hs:∀ i,0<=s i) (hS:∀ i,0<=S i) (hr:∀ i,0<=r i) {L:List ι} {d:Nat} (hd0:0<d) (hd:d<=(L.filter c).length) {N M:Rat} (N0:0<=N) (M0:0<=M) (hN:N ^ d<=prR (L.map (pk c s r))) (hM:M ^ d<=prR (L.map (pk c S r))) :
  (N+M) ^ d<=prR (L.map (pk c (fun i=>s i+S i) r)):=by
 have hb:∀ i,0<=s i+S i:=fun i=>by have:=hs i;have:=hS i;grind
 have P0:=Ke c hb hr L
 by_cases hz:∃ i∈L,c i=true/\s i+S i=0
 ·obtain ⟨i,hi,hc,h0⟩:=hz
  have z1:s i=0:=by have:=hs i;have:=hS i;grind
  have z2:S i=0:=by have:=hs i;have:=hS i;grind
  have m1:(0:Rat)∈L.map (pk c s r):=List.mem_map.mpr ⟨i,hi,by unfold pk;rw [hc];exact z1⟩
  have m2:(0:Rat)∈L.map (pk c S r):=List.mem_map.mpr ⟨i,hi,by unfold pk;rw [hc];exact z2⟩
  rw [zk m1] at hN
  rw [zk m2] at hM
  have n0:=sv N0 hN
  have m0:=sv M0 hM
  obtain ⟨e,rfl⟩:∃ e,d=e+1:=⟨d-1,oa⟩
  rw [kh,n0,m0]
  grind
 ·have hp:∀ i∈L,c i=true->0<s i+S i:=by
   intro i hi hc
   have h1:=hb i
   have h2:s i+S i≠0:=fun h=>hz ⟨i,hi,hc,h⟩
   grind
  have t0:∀ {a:ι->Rat},(∀ i,0<=a i)->∀ i,0<=a i / (s i+S i):=by
   intro a ha i
   rw [nB]
   by_cases h:s i+S i=0
   ·rw [h]
    have e:(0:Rat)⁻¹=0:=Rat.inv_zero
    rw [e];grind
   ·exact mo (ha i) (qB (Rat.inv_pos.mpr (by have:=hb i;grind)))
  have ht:∀ (a:ι->Rat),∀ i∈L,c i=true->a i=a i / (s i+S i)*(s i+S i):=by
   intro a i hi hc
   have:=hp i hi hc
   exact (Rat.div_mul_cancel (by grind)).symm
  have h2:=FI (t:=fun i=>s i / (s i+S i)) (u:=fun i=>S i / (s i+S i)) (L.filter c) (by
   intro i hi
   obtain ⟨hi,hc⟩:=List.mem_filter.mp hi
   have h1:=hp i hi hc
   show s i / (s i+S i)+S i / (s i+S i)=1
   rw [nB,nB,<- Rat.add_mul]
   exact Rat.mul_inv_cancel _ (by grind))
  have nn:∀ {a:ι->Rat},(∀ i,0<=a i)->0<=smR ((L.filter c).map (fun i=>a i / (s i+S i))):=by
   intro a ha
   refine AZ (fun x hx=>?_)
   obtain ⟨i,_,rfl⟩:=List.mem_map.mp hx
   exact t0 ha i
  have n1:=nn hs
  have n2:=nn hS
  obtain ⟨x,x0,hx,hx1⟩:=J6 c (b:=fun i=>s i+S i) (t:=fun i=>s i / (s i+S i)) hd hd0 (ht s) (t0 hs) (by grind) hb hr hN
  obtain ⟨y,y0,hy,hy1⟩:=J6 c (b:=fun i=>s i+S i) (t:=fun i=>S i / (s i+S i)) hd hd0 (ht S) (t0 hS) (by grind) hb hr hM
  have hn:(0:Rat)<((L.filter c).length:Rat):=Rat.natCast_pos.mpr oa
  have hxy:x+y=1:=by
   have:(x+y)*((L.filter c).length:Rat)=1*((L.filter c).length:Rat):=by grind
   grind
  refine Rat.not_lt.mp (fun hlt=>?_)
  have T0:0<=N+M:=by grind
  have go:∀ {z K:Rat},0<=z->0<=K->K ^ d<=z ^ d*prR (L.map (pk c (fun i=>s i+S i) r))->K<=z*(N+M)/\(0<z->K<z*(N+M)):=by
   intro z K z0 K0 h
   have e:=DC z (N+M) d
   have zd:0<=z ^ d:=Rat.pow_nonneg z0
   have zT:0<=z*(N+M):=mo z0 T0
   have l1:z ^ d*prR (L.map (pk c (fun i=>s i+S i) r))<=z ^ d*(N+M) ^ d:=vd (qB hlt) zd
   have st:0<z->K<z*(N+M):=by
    intro zp
    have zdp:0<z ^ d:=Rat.pow_pos zp
    have l2:=(Rat.mul_lt_mul_left zdp).mpr hlt
    refine Rat.not_le.mp (fun hle=>?_)
    have:=Gp zT hle d
    grind
   refine ⟨?_,st⟩
   by_cases zp:0<z
   ·exact qB (st zp)
   ·have z00:z=0:=by grind
    subst z00
    have e0:(0:Rat) ^ d=0:=by
     obtain ⟨e,rfl⟩:∃ e,d=e+1:=⟨d-1,oa⟩
     rw [kh];grind
    rw [e0] at h
    have:=sv K0 (by grind:K ^ d<=0)
    grind
  have g1:=go x0 N0 hx1
  have g2:=go y0 M0 hy1
  have e3:x*(N+M)+y*(N+M)=N+M:=by
   rw [<- Rat.add_mul,hxy,Rat.one_mul]
  by_cases xp:0<x
  ·have:=g1.2 xp
   have:=g2.1
   grind
  ·have yp:0<y:=by grind
   have:=g2.2 yp
   have:=g1.1
   grind
end
def prN:List Nat->Nat
 | []=>1
 | x :: l=>x*prN l
def smN:List Nat->Nat
 | []=>0
 | x :: l=>x+smN l
theorem EJ:∀ l:List Nat,((prN l:Nat):Rat)=prR (l.map (fun n:Nat=>(n:Rat)))
 | []=>rfl
 | x :: l=>by
  rw [gH]
  show ((x*prN l:Nat):Rat)=(x:Rat)*prR (l.map (fun n:Nat=>(n:Rat)))
  rw [Rat.natCast_mul,EJ l]
theorem A6 {ι:Type} {f g:ι->Nat}:∀ {L:List ι},(∀ i∈L,f i<=g i)->prN (L.map f)<=prN (L.map g)
 | [],_=>bN _
 | i :: L,h=>by
  rw [gH,gH]
  exact lI (h i cx) (A6 (fun j hj=>h j (cD _ hj)))
theorem Mv {ι α:Type} (c:ι->Bool) {L:List ι} {d:Nat} (hd0:0<d) (hd:d<=(L.filter c).length) {F:α->Nat} {s:ι->α->Nat} {r:ι->Nat}:∀ {K:List α},(∀ x∈K,F x ^ d<=prN (L.map (fun i=>s i x)))->(∀ i∈L,c i=false->∀ x∈K,s i x<=r i) ->
  (smN (K.map F)) ^ d<=prN (L.map (fun i=>cond (c i) (smN (K.map (s i))) (r i)))
 | [],_,_=>by
  show 0 ^ d<=_
  rw [pd hd0]
  exact cV _
 | x :: K,h,h2=>by
  have ih:=Mv (L:=L) (s:=s) (r:=r) c hd0 hd (K:=K) (fun y hy=>h y (cD _ hy)) (fun i hi hc y hy=>h2 i hi hc y (cD _ hy))
  have hx:=h x cx
  have hx':F x ^ d<=prN (L.map (fun i=>cond (c i) (s i x) (r i))):=by
   refine Nat.le_trans hx (A6 (fun i hi=>?_))
   cases hc:c i with
   | true=>exact bN _
   | false=>exact h2 i hi hc x cx
  have cs:∀ (u w:ι->Nat),((prN (L.map (fun i=>cond (c i) (u i) (w i))):Nat):Rat)=prR (L.map (pk c (fun i=>((u i:Nat):Rat)) (fun i=>((w i:Nat):Rat)))):=by
   intro u w
   rw [EJ,nx]
   congr 1
   refine n6 (fun i _=>?_)
   show ((cond (c i) (u i) (w i):Nat):Rat)=pk c (fun i=>((u i:Nat):Rat)) (fun i=>((w i:Nat):Rat)) i
   unfold pk
   cases c i <;> rfl
  have a1:((F x:Nat):Rat) ^ d<=prR (L.map (pk c (fun i=>((s i x:Nat):Rat)) (fun i=>((r i:Nat):Rat)))):=by
   rw [<- cs,<- Rat.natCast_pow]
   exact Rat.natCast_le_natCast.mpr hx'
  have a2:((smN (K.map F):Nat):Rat) ^ d<=prR (L.map (pk c (fun i=>((smN (K.map (s i)):Nat):Rat)) (fun i=>((r i:Nat):Rat)))):=by
   rw [<- cs,<- Rat.natCast_pow]
   exact Rat.natCast_le_natCast.mpr ih
  have m:=M9 c (fun _=>uz) (fun _=>uz) (fun _=>uz) hd0 hd uz uz a1 a2
  have e:∀ i,((s i x:Nat):Rat)+((smN (K.map (s i)):Nat):Rat)=((smN ((x :: K).map (s i)):Nat):Rat):=by
   intro i
   rw [<- uC];rfl
  have e2:(fun i=>((s i x:Nat):Rat)+((smN (K.map (s i)):Nat):Rat))=fun i=>((smN ((x :: K).map (s i)):Nat):Rat):=funext e
  rw [e2,<- cs,<- uC,<- Rat.natCast_pow] at m
  exact Rat.natCast_le_natCast.mp m
theorem ixD {xs:yP} {k:Nat} (h:k<xs.length):ix xs (k:Int)=some (xs.getD k 0):=by rw [bh h,bu h]
def dz (yK:List aV) (i:Nat):aV:=yK.getD i (ByteArray.empty,[])
theorem kg {yK:List aV} {i:Nat} (h:i<yK.length):dz yK i=yK[i]:=by unfold dz;simp [h]
def G2 (yK:List aV) (v:Int) (n:Nat):List Nat:=(List.range' 0 n).filter fun i=>decide (v∈(dz yK i).2)
def Jl (yK:List aV) (v:Int):List Nat:=G2 yK v yK.length
def kK (vs yL p:yP) (n:Nat):yP:=((List.range' 0 n).filter fun k=>decide (yL.getD k 0∈vs)).map fun k=>p.getD k 0
def oi (vs yL p:yP):yP:=kK vs yL p p.length
def atV (ts:List bE) (yL:yP) (yK:List aV) (p:yP) (i:Nat):yP :=
 nV (jp ts yL (dz yK i)).1 (jp ts yL (dz yK i)).2 (oi (dz yK i).2 yL p)
def mh (ts:List bE) (yL:yP) (yK:List aV) (p:yP):bp:=(Jl yK (yL.getD p.length 0)).map (atV ts yL yK p)
theorem JS (yK:List aV) (v:Int) (n:Nat):(G2 yK v n).length<=n:=by
 unfold G2
 refine Nat.le_trans (uB _ _) ?_
 simp
theorem qX {yK:List aV} {v:Int} {i:Nat}:i∈Jl yK v↔i<yK.length/\v∈(dz yK i).2:=by
 unfold Jl G2
 rw [jn,dm]
 simp
theorem l7 (vs yL p:yP) (n:Nat):kK vs yL p (n+1)=bif decide (yL.getD n 0∈vs) then kK vs yL p n++[p.getD n 0] else kK vs yL p n:=by
 unfold kK
 rw [pf,uP,eU]
 simp only [dA,jL,qy,List.filter_nil]
 cases decide (yL.getD n 0∈vs) <;> simp
theorem om {yK:List aV} {i:Nat} (h:i<yK.length):dz yK i∈yK:=by rw [kg h];exact bA h
theorem Hh (ts:List bE) (yL:yP) (yK:List aV) (p:yP):(mh ts yL yK p).length<=yK.length:=by
 unfold mh;rw [bT];exact JS _ _ _
theorem rS {ts:List bE} {n:Nat} {yK:List aV} {yL p:yP} (q:QFor ts n yK yL):∀ l∈mh ts yL yK p,l.length<=16/\lE l/\∀ v∈l,0<=v/\v<=99:=by
 intro l hl
 obtain ⟨i,hi,rfl⟩:=dh.1 hl
 have hm:=om (qX.1 hi).1
 obtain ⟨_,_,g3,g4,_⟩:=rf q hm
 unfold atV
 exact ⟨Nat.le_trans (Cj _ _ _) g4,HF g3,Gr g3⟩
theorem GT {ts:List bE} {n:Nat} {yK:List aV} {yL p:yP} (q:QFor ts n yK yL) (hp:p.length<n):si (mh ts yL yK p)=true:=by
 unfold si
 rw [ce,df,dm]
 refine ⟨fun l hl=>DO (rS q l hl).2.1,?_⟩
 have ho:=(iW q.os).2 (yL.getD p.length 0) (by rw [bu (by rw [q.ol];exact hp)];exact bA _)
 obtain ⟨a,ha,hv⟩:=q.cov (yL.getD p.length 0) oa oa
 obtain ⟨i,hi,rfl⟩:=gg ha
 unfold mh
 rw [bT]
 exact uL (qX.2 ⟨hi,by rw [kg hi];exact hv⟩)
def im (ts:List bE) (yL:yP) (yK:List aV):Nxt:=fun p=>sM (mh ts yL yK p)
theorem wv {xs:yP} (h:lE xs):xs.Nodup:=At (fun {a b} (hab:a<b) (e:a=b)=>by omega) h
theorem HD {ls:bp} {xs:yP} (h:∀ l∈ls,l.length<=16/\lE l/\∀ v∈l,0<=v/\v<=99) (ha:lE xs) (hx:∀ x∈xs,∀ l∈ls,x∈l) (he:ls=[]->xs=[]):xs.length<=16/\∀ v∈xs,0<=v/\v<=99:=by
 cases ls with
 | nil=>rw [he rfl];simp
 | cons l ls =>
  obtain ⟨h1,_,h3⟩:=h l cx
  refine ⟨Nat.le_trans (oR xs l (wv ha) fun x hx'=>hx x hx' l cx) h1,fun v hv=>h3 v (hx v hv l cx)⟩
theorem HT:(sM []).1=[]:=rfl
theorem An {ts:List bE} {n:Nat} {yK:List aV} {yL:yP} (q:QFor ts n yK yL):NxtOk (im ts yL yK):=by
 have h4:=q.a4
 have key:=fun p=>vI (ls:=mh ts yL yK p) (B:=16) fun l hl=>(rS q l hl).1
 have com:=fun p=>HD (fun l hl=>rS q (p:=p) l hl) (key p).1 (key p).2.1 fun e=>by rw [e];exact HT
 have hll:=fun p=>Hh ts yL yK p
 refine ⟨fun p=>(com p).1,fun p=>(key p).1,fun p=>(com p).2,fun p=>(key p).2.2.1,fun p=>?_⟩
 have h1:=(key p).2.2.2.1
 have h2:=hll p
 show (sM (mh ts yL yK p)).2<=1000
 omega
theorem wb:∀ a b:List Nat,smN (a++b)=smN a+smN b
 | [],b=>by rw [mc];exact (dA _).symm
 | x :: a,b=>by
  have:=wb a b
  show x+smN (a++b)=x+smN a+smN b
  omega
theorem Es {α β:Type} (g:α->List β) (w:β->Nat):∀ L:List α,smN ((L.flatMap g).map w)=smN (L.map fun p=>smN ((g p).map w))
 | []=>rfl
 | p :: L=>by rw [th,eU,wb,Es g w L];rfl
theorem Ge {α:Type} (g h:α->Nat):∀ L:List α,smN (L.map fun p=>g p+h p)=smN (L.map g)+smN (L.map h)
 | []=>rfl
 | p :: L=>by
  have:=Ge g h L
  show g p+h p+smN (L.map fun p=>g p+h p)=g p+smN (L.map g)+(h p+smN (L.map h))
  omega
theorem Ib {α:Type} {g h:α->Nat}:∀ {L:List α},(∀ x∈L,g x<=h x)->smN (L.map g)<=smN (L.map h)
 | [],_=>bN _
 | p :: L,hx=>by
  have h1:=Ib (L:=L) fun x hm=>hx x (cD _ hm)
  have h2:=hx p cx
  show g p+smN (L.map g)<=h p+smN (L.map h)
  omega
theorem wq {α:Type} {g:α->Nat}:∀ {L:List α},(∀ x∈L,g x=0)->smN (L.map g)=0
 | [],_=>rfl
 | p :: L,hx=>by
  have h1:=wq (L:=L) fun x hm=>hx x (cD _ hm)
  have h2:=hx p cx
  show g p+smN (L.map g)=0
  omega
theorem F0 {y:Int}:∀ {K:yP},K.Nodup->smN (K.map fun x=>if x=y then 1 else 0)<=1
 | [],_=>cV _
 | x :: K,hn=>by
  obtain ⟨n1,n2⟩:=jm.1 hn
  show (if x=y then 1 else 0)+smN (K.map fun x=>if x=y then 1 else 0)<=1
  by_cases h:x=y
  ·rw [aK h,wq fun z hz=>aS fun e=>n1 (by rw [h,<- e];exact hz)]
   omega
  ·rw [aS h]
   have:=F0 (y:=y) n2
   omega
theorem AQ (r:yP) (rows:bp) (p:yP):(lK (r :: rows) p).length=(if r.take p.length=p then 1 else 0)+(lK rows p).length:=by
 unfold lK
 rw [qy]
 by_cases h:r.take p.length=p
 ·rw [aK (by simpa using h),aK h,b9];omega
 ·rw [aS (by simpa using h),aS h];omega
theorem Cd {p K:yP} (hn:K.Nodup):∀ rows:bp,smN (K.map fun x=>(lK rows (p++[x])).length)<=(lK rows p).length
 | []=>by
  rw [wq (g:=fun x=>(lK [] (p++[x])).length) fun x _=>rfl]
  exact cV _
 | r :: rows=>by
  have ih:=Cd (p:=p) hn rows
  rw [AQ]
  have e:(fun x=>(lK (r :: rows) (p++[x])).length)=fun x=>(if r.take (p++[x]).length=p++[x] then 1 else 0)+(lK rows (p++[x])).length:=funext fun x=>AQ r rows (p++[x])
  rw [e,Ge]
  refine Nat.add_le_add ?_ ih
  have h1:∀ x,r.take (p++[x]).length=p++[x]->r.take p.length=p/\x=r.getD p.length 0:=by
   intro x h
   rw [bZ] at h
   have h2:=aX (List.take p.length) h
   rw [List.take_take,xF,nu (by simp)] at h2
   ·refine ⟨h2,?_⟩
    have h3:=aX (fun l:yP=>l.getD p.length 0) h
    simp only [nD,bP] at h3
    rw [List.getElem?_take_of_lt oa] at h3
    simp at h3
    simp [h3]
   ·rfl
  by_cases hp:r.take p.length=p
  ·rw [aK hp]
   refine Nat.le_trans (Ib fun x _=>?_) (F0 (y:=r.getD p.length 0) hn)
   by_cases h:r.take (p++[x]).length=p++[x]
   ·rw [aK h,aK (h1 x h).2];exact bN _
   ·rw [aS h];exact cV _
  ·rw [aS hp,wq fun x _=>aS fun h=>hp (h1 x h).1];exact bN _
theorem ME {f:Nxt} {ι:Type} {cnt:ι->yP->Nat} {c:Nat->ι->Bool} {L:List ι} {d m:Nat} (hd:0<d) {Good:yP->Prop} {F:yP->Nat}
  (hg:∀ p,Good p->p.length<m->∀ x∈(f p).1,Good (p++[x]))
  (h1:∀ p,Good p->p.length<m->∀ i∈L,c p.length i=true->smN ((f p).1.map fun x=>cnt i (p++[x]))<=cnt i p)
  (h2:∀ p,Good p->p.length<m->∀ i∈L,c p.length i=false->∀ x∈(f p).1,cnt i (p++[x])<=cnt i p)
  (hc:∀ k,k<m->d<=(L.filter (c k)).length)
  (hF:∀ p,Good p->p.length=m->F p ^ d<=prN (L.map fun i=>cnt i p)):∀ (k:Nat) (p:yP),Good p->p.length+k=m->smN ((fc f k p).1.map F) ^ d<=prN (L.map fun i=>cnt i p)
 | 0,p,g,e=>by
  show (F p+0) ^ d<=_
  exact hF p g e
 | k+1,p,g,e=>by
  have hl:p.length<m:=by omega
  show smN (((f p).1.flatMap fun v=>(fc f k (p++[v])).1).map F) ^ d<=_
  rw [Es]
  have h:=Mv (c p.length) hd (hc p.length hl) (F:=fun x=>smN ((fc f k (p++[x])).1.map F)) (s:=fun i x=>cnt i (p++[x])) (r:=fun i=>cnt i p) (K:=(f p).1)
   (fun x hx=>ME hd hg h1 h2 hc hF k (p++[x]) (hg p g hl x hx) (by rw [bZ,bP];omega))
   (fun i hi hci x hx=>h2 p g hl i hi hci x hx)
  refine Nat.le_trans h (A6 fun i hi=>?_)
  cases hci:c p.length i with
  | true=>exact h1 p g hl i hi hci
  | false=>exact bN _
def lS (ts:List bE) (yL:yP) (yK:List aV) (i:Nat) (p:yP):Nat:=(lK (jp ts yL (dz yK i)).2 (oi (dz yK i).2 yL p)).length
def tu (yL:yP) (yK:List aV) (k i:Nat):Bool:=decide (yL.getD k 0∈(dz yK i).2)
structure Cov (yK:List aV) (n:Nat) (L:List Nat) (d:Nat):Prop where
 d0:0<d
 lt:∀ i∈L,i<yK.length
 cov:∀ v:Int,0<=v->v<n->d<=(L.filter fun i=>decide (v∈(dz yK i).2)).length
section
variable {ts:List bE} {n d:Nat} {yK:List aV} {yL:yP} {L:List Nat}
theorem y2 {vs p:yP} {x:Int}:oi vs yL (p++[x])=bif decide (yL.getD p.length 0∈vs) then oi vs yL p++[x] else oi vs yL p:=by
 unfold oi
 have e:∀ l,l<=p.length->kK vs yL (p++[x]) l=kK vs yL p l:=by
  intro l
  induction l with
  | zero=>intro _;rfl
  | succ l ih =>
   intro hl
   rw [l7,l7,ih oa,bu (xs:=p++[x]) (by rw [bZ];omega),bu (xs:=p) oa,AR oa]
 rw [bZ,bP,l7,e _ (bN _),bu (xs:=p++[x]) (by rw [bZ,bP];omega),xO (bN _)]
 simp
def v9 (ts:List bE) (yL:yP) (yK:List aV) (L:List Nat) (p:yP):Prop:=∀ i∈L,1<=lS ts yL yK i p
theorem NO (q:QFor ts n yK yL) (C:Cov yK n L d) {k:Nat} (hk:k<n):d<=(L.filter (tu yL yK k)).length:=by
 have hol:=q.ol
 have hb:=(iW q.os).2 (yL.getD k 0) (by rw [bu oa];exact bA _)
 exact C.cov _ oa oa
theorem KI (q:QFor ts n yK yL) {p:yP} (hp:p.length<n) {i:Nat} (hi:i<yK.length) (h:tu yL yK p.length i=true):atV ts yL yK p i∈mh ts yL yK p:=by
 unfold mh tu at *
 rw [dm] at h
 exact dh.2 ⟨i,qX.2 ⟨hi,h⟩,rfl⟩
theorem y6 (q:QFor ts n yK yL) {p:yP} (hp:p.length<n) {i:Nat} (hi:i<yK.length) (h:tu yL yK p.length i=true) {x:Int} (hx:x∈(im ts yL yK p).1):x∈atV ts yL yK p i :=
 (vI (ls:=mh ts yL yK p) (B:=16) fun l hl=>(rS q l hl).1).2.1 x hx _ (KI q hp hi h)
theorem Hn (q:QFor ts n yK yL) (C:Cov yK n L d) {p:yP} (g:v9 ts yL yK L p) (hp:p.length<n) {x:Int} (hx:x∈(im ts yL yK p).1):v9 ts yL yK L (p++[x]):=by
 intro i hi
 have hil:=C.lt i hi
 unfold lS
 rw [y2]
 cases h:decide (yL.getD p.length 0∈(dz yK i).2) with
 | false=>exact g i hi
 | true =>
  rw [ae]
  have hk:=y6 q hp hil h hx
  unfold atV nV at hk
  split at hk
  ·rename_i hlt
   obtain ⟨r,hr,e1,e2⟩:=pY.1 hk
   refine uL (a:=r) ?_
   unfold lK
   rw [jn,dm]
   refine ⟨hr,?_⟩
   obtain ⟨_,_,h3,_⟩:=rf q (om hil)
   obtain ⟨_,_,_,h4⟩:=iy h3
   obtain ⟨j,hj,rfl⟩:=gg hr
   have hrl:=(h4 j hj).1
   rw [bZ,bP,gR oa,e1,e2,bu oa]
  ·cases hk
theorem JU {f:Nxt}:∀ {k:Nat} {p r:yP},r∈(fc f k p).1->r.length=p.length+k:=by
 intro k p r h
 obtain ⟨s,rfl,hs⟩:=pV h
 rw [bZ,hs]
theorem JK (q:QFor ts n yK yL) (C:Cov yK n L d) (g0:v9 ts yL yK L []) {m:Nat} (hm:m<=n) {F:yP->Nat} (hF:∀ p,v9 ts yL yK L p->p.length=m->F p ^ d<=prN (L.map fun i=>lS ts yL yK i p)) :
  smN ((fc (im ts yL yK) m []).1.map F) ^ d<=prN (L.map fun i=>lS ts yL yK i []):=by
 refine ME (f:=im ts yL yK) (cnt:=lS ts yL yK) (c:=tu yL yK) (m:=m) C.d0 (Good:=v9 ts yL yK L) (fun p g hp x hx=>Hn q C g oa hx) (fun p g hp i hi hc=>?_) (fun p g hp i hi hc x hx=>?_) (fun k hk=>NO q C oa) hF m [] g0 (by simp)
 ·have e:(fun x=>lS ts yL yK i (p++[x]))=fun x=>(lK (jp ts yL (dz yK i)).2 (oi (dz yK i).2 yL p++[x])).length:=by
   funext x
   unfold lS
   unfold tu at hc
   rw [y2,hc,ae]
  rw [e]
  exact Cd (wv ((An q).asc p)) _
 ·unfold lS
  unfold tu at hc
  rw [y2,hc,ai]
  exact bN _
theorem F7 {ι:Type} {f:ι->Nat}:∀ {L:List ι},(∀ i∈L,1<=f i)->1<=prN (L.map f)
 | [],_=>bN _
 | i :: L,h=>Nat.mul_pos (h i cx) (F7 fun j hj=>h j (cD _ hj))
theorem DX {α:Type}:∀ L:List α,smN (L.map fun _=>1)=L.length
 | []=>rfl
 | x :: L=>by
  have:=DX L
  show 1+smN (L.map fun _=>1)=L.length+1
  omega
theorem Fo (q:QFor ts n yK yL) (C:Cov yK n L d) (g0:v9 ts yL yK L []) {m:Nat} (hm:m<=n):(fc (im ts yL yK) m []).1.length ^ d<=prN (L.map fun i=>lS ts yL yK i []):=by
 have h:=JK q C g0 hm (F:=fun _=>1) fun p g _=>by
  rw [Nat.one_pow]
  exact F7 g
 rw [DX] at h
 exact h
end
abbrev bw:=List dK
abbrev bQ:=List bw
def bI (m:bQ) (i:Nat):bw:=m.getD i []
def aH (r:bw) (j:Nat):dK:=r.getD j (0,0)
def cell (m:bQ) (i j:Nat):dK:=aH (bI m i) j
def Shp (n c:Nat) (m:bQ):Prop:=m.length=n/\∀ i,i<n->(bI m i).length=c
theorem ixM {m:bQ} {i:Nat} (h:i<m.length):ix m (i:Int)=some (bI m i):=by
 rw [bh h];unfold bI;simp [h]
theorem jC {r:bw} {j:Nat} (h:j<r.length):ix r (j:Int)=some (aH r j):=by
 rw [bh h];unfold aH;simp [h]
theorem ra {α:Type} {xs:List α} {i:Nat} {y:α} (h:i<xs.length):sto xs (i:Int) y=some (xs.set i y):=by
 rw [sX oa oa];rfl
theorem v7 {m:bQ} {i:Nat} {r:bw} (h:i<m.length) (a:Nat):bI (m.set i r) a=if a=i then r else bI m a:=by
 unfold bI
 by_cases e:a=i
 ·subst e;rw [aK rfl];simp [h]
 ·rw [aS e];simp [vb (qz e)]
theorem sj {r:bw} {j:Nat} {v:dK} (h:j<r.length) (a:Nat):aH (r.set j v) a=if a=j then v else aH r a:=by
 unfold aH
 by_cases e:a=j
 ·subst e;rw [aK rfl];simp [h]
 ·rw [aS e];simp [vb (qz e)]
theorem Shp.set {n c:Nat} {m:bQ} (h:Shp n c m) {i:Nat} (hi:i<n) {r:bw} (hr:r.length=c):Shp n c (m.set i r):=by
 refine ⟨by rw [gd];exact h.1,fun a ha=>?_⟩
 rw [v7 (by rw [h.1];exact hi)]
 split
 ·exact hr
 ·exact h.2 a ha
section
variable {N:Nat}
theorem KU (hN:1073741824<=N) {n:Nat} (hn:n<=6) {p i:Nat} (hp:p<n) (hi:i<n) (hpi:p≠i) {f:dK}:∀ (c k yN:Nat) (m:bQ) (is:Bool),k+c=n+1->c<yN->Shp n (n+1) m ->
  ∃ m' is' z,dJ N yN m (p:Int) (i:Int) f.1 f.2 is (k:Int)=some (m',is',z)/\Shp n (n+1) m'/\(is'=true->is=true/\(∀ a,a≠i->bI m' a=bI m a)/\(∀ j,j<k->cell m' i j=cell m i j) /\
   ∀ j,k<=j->j<=n->VR N (cell m' i j)/\rv (cell m' i j)=rv (cell m i j)-rv f*rv (cell m p j)):=by
 intro c
 induction c with
 | zero =>
  intro k yN m is hk hf hs
  obtain ⟨yN,rfl⟩:∃ k',yN=k'+1:=⟨yN-1,oa⟩
  rw [dJ,ixM (by rw [hs.1];exact hi),bs,hs.2 i hi,aN oa,ai]
  exact ⟨m,is,_,rfl,hs,fun h=>⟨h,fun _ _=>rfl,fun _ _=>rfl,fun j h1 h2=>by omega⟩⟩
 | succ c ih =>
  intro k yN m is hk hf hs
  obtain ⟨yN,rfl⟩:∃ k',yN=k'+1:=⟨yN-1,oa⟩
  have hli:=hs.2 i hi
  have hlp:=hs.2 p hp
  rw [dJ,ixM (by rw [hs.1];exact hi),bs,hli,aJ oa,ae]
  cases is with
  | false =>
   rw [ai]
   exact ⟨m,false,_,rfl,hs,fun h=>by cases h⟩
  | true =>
   obtain ⟨r,ok,e1,h1⟩:=I5 hN f (aH (bI m p) k)
   obtain ⟨y,ok2,e2,h2⟩:=OF hN (aH (bI m i) k) r
   have hset:((bI m i).set k y).length=n+1:=by rw [gd];exact hli
   have hs':=hs.set hi hset
   rw [ae,ixM (by rw [hs.1];exact hp),bs,jC oa,bs,e1,bs,bs,jC oa,bs,e2,bs]
   dsimp only
   cases ok with
   | false =>
    rw [ai,bs,jC oa,bs,ra oa,bs,ra (by rw [hs.1];exact hi),bs,bR oa oa,bs]
    obtain ⟨m',is',z,e3,h3,h4⟩:=ih (k+1) yN _ false oa oa hs'
    exact ⟨m',is',z,e3,h3,fun h=>absurd (h4 h).1 (by decide)⟩
   | true =>
    rw [ae,bs,jC oa,bs,ra oa,bs,ra (by rw [hs.1];exact hi),bs,bR oa oa,bs]
    obtain ⟨m',is',z,e3,h3,h4⟩:=ih (k+1) yN _ ok2 oa oa hs'
    refine ⟨m',is',z,e3,h3,fun h=>?_⟩
    obtain ⟨k1,k2,k3,k4⟩:=h4 h
    have hM:∀ a,bI (m.set i ((bI m i).set k y)) a=if a=i then (bI m i).set k y else bI m a:=v7 (by rw [hs.1];exact hi)
    have hC:∀ j,cell (m.set i ((bI m i).set k y)) i j=if j=k then y else cell m i j:=fun j=>by
     unfold cell
     rw [hM i,aK rfl,sj oa]
    refine ⟨rfl,fun a ha=>?_,fun j hj=>?_,fun j hj hjn=>?_⟩
    ·rw [k2 a ha,hM a,aS ha]
    ·rw [k3 j oa,hC j,aS oa]
    ·by_cases e:j=k
     ·subst e
      rw [k3 j oa,hC j,aK rfl]
      obtain ⟨g1,g2,g3,g4⟩:=h2 k1
      obtain ⟨_,_,_,g8⟩:=h1 rfl
      refine ⟨g3,?_⟩
      rw [g4,g8]
      rfl
     ·obtain ⟨g1,g2⟩:=k4 j oa hjn
      rw [hC j,aS e] at g2
      refine ⟨g1,?_⟩
      rw [g2]
      have:cell (m.set i ((bI m i).set k y)) p j=cell m p j:=by
       unfold cell;rw [hM p,aS hpi]
      rw [this]
end
def cv (m:bQ) (i j:Nat):Rat:=rv (cell m i j)
def d6:Nat->(Nat->Rat)->Rat
 | 0,_=>0
 | n+1,g=>d6 n g+g n
theorem gM {g h:Nat->Rat}:∀ {n:Nat},(∀ j,j<n->g j=h j)->d6 n g=d6 n h
 | 0,_=>rfl
 | n+1,e=>by
  have h1:=gM (n:=n) fun j hj=>e j oa
  have h2:=e n oa
  unfold d6
  rw [h1,h2]
theorem Aj {a b y:Nat->Rat} {F:Rat}:∀ n:Nat,d6 n (fun j=>(a j-F*b j)*y j)=d6 n (fun j=>a j*y j)-F*d6 n (fun j=>b j*y j)
 | 0=>by unfold d6;grind
 | n+1=>by
  have:=Aj (a:=a) (b:=b) (y:=y) (F:=F) n
  unfold d6
  grind
theorem zm {g:Nat->Rat} {p:Nat}:∀ {n:Nat},p<n->(∀ j,j<n->j≠p->g j=0)->d6 n g=g p
 | 0,h,_=>by omega
 | n+1,h,e=>by
  unfold d6
  by_cases hp:p=n
  ·subst hp
   have:d6 p g=d6 p (fun _=>0):=gM fun j hj=>e j oa oa
   have z:∀ k:Nat,d6 k (fun _=>(0:Rat))=0:=fun k=>by
    induction k with
    | zero=>rfl
    | succ k ih=>unfold d6;rw [ih];grind
   rw [this,z];grind
  ·rw [zm oa fun j hj=>e j oa,e n oa oa];grind
def wy (n:Nat) (m:bQ) (y:Nat->Rat):Prop:=∀ i,i<n->d6 n (fun j=>cv m i j*y j)=cv m i n
def AH (n p:Nat) (m:bQ):Prop:=∀ i,i<n->∀ q,q<p->i≠q->cv m i q=0
section
variable {N:Nat}
theorem Gq {r:dK} (h:r.1=0):rv r=0:=by
 unfold rv
 rw [h]
 have:((0:Int):Rat)=0:=rfl
 rw [this,nB,xr]
theorem Lo (hN:1073741824<=N) {n:Nat} (hn:n<=6) {p:Nat} (hp:p<n):∀ (c i yN:Nat) (m:bQ),i+c=n->c<yN->Shp n (n+1) m ->
  ∃ s,d5 N yN m (p:Int) (i:Int)=some s/\((∃ m',s=.inl (false,m')/\Shp n (n+1) m')\/∃ m' z,s=.inr (m',z)/\Shp n (n+1) m'/\bI m' p=bI m p/\(∀ a,a<i->bI m' a=bI m a) /\
   ∀ a,i<=a->a<n->a≠p->∃ F:Rat,(∀ j,j<p->cv m' a j=cv m a j)/\(∀ j,p<=j->j<=n->cv m' a j=cv m a j-F*cv m p j)/\cv m' a p=0):=by
 intro c
 induction c with
 | zero =>
  intro i yN m hi hf hs
  obtain ⟨yN,rfl⟩:∃ k',yN=k'+1:=⟨yN-1,oa⟩
  rw [d5,hs.1,aN oa,ai]
  exact ⟨_,rfl,.inr ⟨m,_,rfl,hs,rfl,fun _ _=>rfl,fun a h1 h2=>by omega⟩⟩
 | succ c ih =>
  intro i yN m hi hf hs
  obtain ⟨yN,rfl⟩:∃ k',yN=k'+1:=⟨yN-1,oa⟩
  have hin:i<n:=by omega
  have hli:=hs.2 i hin
  have hlp:=hs.2 p hp
  rw [d5,hs.1,aJ oa,ae]
  by_cases e:i=p
  ·rw [show ((i:Int) == (p:Int))=true by rw [qk];omega,ae,bR oa oa,bs]
   obtain ⟨s,e1,h1⟩:=ih (i+1) yN m oa oa hs
   refine ⟨s,e1,h1.imp id ?_⟩
   rintro ⟨m',z,k1,k2,k3,k4,k5⟩
   exact ⟨m',z,k1,k2,k3,fun a ha=>k4 a oa,fun a h1 h2 h3=>k5 a oa h2 h3⟩
  ·rw [show ((i:Int) == (p:Int))=false by rw [l8];omega,ai,ixM (by rw [hs.1];exact hin),bs,jC oa,bs]
   by_cases h0:(aH (bI m i) p).1=0
   ·rw [show ((aH (bI m i) p).1 == 0)=true by rw [qk];exact h0,ae,bR oa oa,bs]
    obtain ⟨s,e1,h1⟩:=ih (i+1) yN m oa oa hs
    refine ⟨s,e1,h1.imp id ?_⟩
    rintro ⟨m',z,k1,k2,k3,k4,k5⟩
    refine ⟨m',z,k1,k2,k3,fun a ha=>k4 a oa,fun a h1 h2 h3=>?_⟩
    by_cases ea:a=i
    ·subst ea
     have hrow:=k4 a oa
     have hc:∀ j,cv m' a j=cv m a j:=fun j=>by unfold cv cell;rw [hrow]
     refine ⟨0,fun j _=>hc j,fun j _ _=>by rw [hc j];grind,?_⟩
     rw [hc p]
     exact Gq h0
    ·exact k5 a oa h2 h3
   ·rw [show ((aH (bI m i) p).1 == 0)=false by rw [l8];exact h0,ai,bs,jC oa,bs,ixM (by rw [hs.1];exact hp),bs,jC oa,bs]
    obtain ⟨f,ok,e2,h2⟩:=MU hN (aH (bI m i) p) (aH (bI m p) p)
    rw [e2,bs]
    dsimp only
    obtain ⟨m2,is2,z2,e3,hs2,h3⟩:=KU hN hn hp hin (fun h=>e h.symm) (f:=f) (n+1-p) p N m ok oa oa hs
    rw [e3,bs,lpB]
    cases is2 with
    | false =>
     rw [ai]
     exact ⟨_,rfl,.inl ⟨m2,rfl,hs2⟩⟩
    | true =>
     rw [ae,bR oa oa,bs]
     obtain ⟨g1,g2,g3,g4⟩:=h3 rfl
     obtain ⟨_,_,_,_,hf⟩:=h2 g1
     obtain ⟨s,e1,h1⟩:=ih (i+1) yN m2 oa oa hs2
     refine ⟨s,e1,h1.imp id ?_⟩
     rintro ⟨m',z,k1,k2,k3,k4,k5⟩
     have hpi:p≠i:=fun h=>e h.symm
     have hP:∀ j,cv m2 p j=cv m p j:=fun j=>by unfold cv cell;rw [g2 p hpi]
     refine ⟨m',z,k1,k2,k3.trans (g2 p hpi),fun a ha=>(k4 a oa).trans (g2 a oa),fun a h1 h2 h3=>?_⟩
     by_cases ea:a=i
     ·subst ea
      have hrow:=k4 a oa
      have hc:∀ j,cv m' a j=cv m2 a j:=fun j=>by unfold cv cell;rw [hrow]
      have hv:∀ j,p<=j->j<=n->cv m' a j=cv m a j-rv f*cv m p j:=fun j h4 h5=>by
       rw [hc j];exact (g4 j h4 h5).2
      refine ⟨rv f,fun j hj=>?_,hv,?_⟩
      ·rw [hc j];unfold cv;rw [g3 j hj]
      ·rw [hv p oa oa]
       have:rv f*cv m p p=cv m a p:=hf
       rw [this];grind
     ·obtain ⟨F,f1,f2,f3⟩:=k5 a oa h2 h3
      have hA:∀ j,cv m2 a j=cv m a j:=fun j=>by unfold cv cell;rw [g2 a ea]
      exact ⟨F,fun j hj=>by rw [f1 j hj,hA j],fun j h4 h5=>by rw [f2 j h4 h5,hA j,hP j],f3⟩
theorem LA (hN:1073741824<=N) {n:Nat} (hn:n<=6) {p:Nat} (hp:p<n) {m:bQ} (hs:Shp n (n+1) m) (hd:AH n p m) :
  ∃ ok m',lH N m (p:Int)=some (ok,m')/\Shp n (n+1) m'/\(ok=true->AH n (p+1) m'/\∀ y,wy n m y↔wy n m' y):=by
 unfold lH
 obtain ⟨s,e,h⟩:=Lo hN hn hp n 0 N m oa oa hs
 have e':d5 N N m (p:Int) 0=some s:=e
 rw [e',bs]
 rcases h with ⟨m',rfl,h1⟩ | ⟨m',z,rfl,h1,h2,_,h3⟩
 ·rw [nh]
  exact ⟨_,_,rfl,h1,fun h=>by cases h⟩
 ·rw [jh]
  refine ⟨_,_,rfl,h1,fun _=>?_⟩
  have hP:∀ j,cv m' p j=cv m p j:=fun j=>by unfold cv cell;rw [h2]
  have hall:∀ a,a<n->a≠p->∃ F:Rat,(∀ j,j<=n->cv m' a j=cv m a j-F*cv m p j)/\cv m' a p=0:=by
   intro a ha hap
   obtain ⟨F,f1,f2,f3⟩:=h3 a oa ha hap
   refine ⟨F,fun j hj=>?_,f3⟩
   by_cases hjp:j<p
   ·rw [f1 j hjp,hd p hp j hjp oa];grind
   ·exact f2 j oa hj
  refine ⟨fun i hi q hq hiq=>?_,fun y=>⟨fun h i hi=>?_,fun h i hi=>?_⟩⟩
  ·by_cases e1:i=p
   ·subst e1
    rw [hP q]
    exact hd i hi q oa hiq
   ·obtain ⟨F,f1,f2⟩:=hall i hi e1
    by_cases e2:q=p
    ·subst e2;exact f2
    ·rw [f1 q oa,hd i hi q oa hiq,hd p hp q oa oa];grind
  ·by_cases e1:i=p
   ·subst e1
    rw [hP n,<- h i hi]
    exact gM fun j _=>by rw [hP j]
   ·obtain ⟨F,f1,_⟩:=hall i hi e1
    rw [gM (h:=fun j=>(cv m i j-F*cv m p j)*y j) fun j hj=>by rw [f1 j oa],Aj,h i hi,h p hp,f1 n oa]
  ·by_cases e1:i=p
   ·subst e1
    rw [<- hP n,<- h i hi]
    exact gM fun j _=>by rw [hP j]
   ·obtain ⟨F,f1,_⟩:=hall i hi e1
    have h4:=h i hi
    have h5:=h p hp
    rw [gM (h:=fun j=>(cv m i j-F*cv m p j)*y j) fun j hj=>by rw [f1 j oa],Aj,f1 n oa] at h4
    rw [gM (h:=fun j=>cv m p j*y j) fun j _=>by rw [hP j],hP n] at h5
    grind
end
section
variable {N:Nat}
theorem Lp {n:Nat} (hn:n<=6) {p:Nat} (hp:p<n) {m:bQ} (hs:Shp n (n+1) m):∀ (c k yN:Nat),k+c=n->c<yN->∃ q:Nat,cQ N yN (n:Int) m (p:Int) (k:Int)=some (q:Int)/\k<=q/\q<=n:=by
 intro c
 induction c with
 | zero =>
  intro k yN hk hf
  obtain ⟨yN,rfl⟩:∃ k',yN=k'+1:=⟨yN-1,oa⟩
  rw [cQ,aN oa,ai]
  exact ⟨k,rfl,bN k,oa⟩
 | succ c ih =>
  intro k yN hk hf
  obtain ⟨yN,rfl⟩:∃ k',yN=k'+1:=⟨yN-1,oa⟩
  rw [cQ,aJ oa,ae,ixM (by rw [hs.1];omega),bs,jC (by rw [hs.2 k oa];omega),bs]
  cases (aH (bI m k) p).1 == 0 with
  | true =>
   rw [ae,bR oa oa,bs]
   obtain ⟨q,e,h1,h2⟩:=ih (k+1) yN oa oa
   exact ⟨q,e,oa,h2⟩
  | false =>
   rw [ai]
   exact ⟨k,rfl,bN k,oa⟩
theorem LX (hN:1073741824<=N) {n:Nat} (hn:n<=6):∀ (c p yN:Nat) (m:bQ),p+c=n->c<yN->Shp n (n+1) m->AH n p m ->
  ∃ s,cq N yN (n:Int) m (p:Int)=some s/\(s=.inl ([],false)\/∃ m' z,s=.inr (m',z)/\Shp n (n+1) m'/\AH n n m'/\∀ y,wy n m y↔wy n m' y):=by
 intro c
 induction c with
 | zero =>
  intro p yN m hpc hf hs hd
  obtain ⟨yN,rfl⟩:∃ k',yN=k'+1:=⟨yN-1,oa⟩
  obtain rfl:p=n:=by omega
  rw [cq,aN oa,ai]
  exact ⟨_,rfl,.inr ⟨m,_,rfl,hs,hd,fun _=>Iff.rfl⟩⟩
 | succ c ih =>
  intro p yN m hpc hf hs hd
  obtain ⟨yN,rfl⟩:∃ k',yN=k'+1:=⟨yN-1,oa⟩
  have hp:p<n:=by omega
  obtain ⟨k,e1,hk1,hk2⟩:=Lp (N:=N) hn hp hs (n-p) p N oa oa
  rw [cq,aJ oa,ae,e1,bs,lpB]
  by_cases hkn:k=n
  ·rw [show ((k:Int) == (n:Int))=true by rw [qk];omega,ae]
   exact ⟨_,rfl,.inl rfl⟩
  ·have hk:k<n:=by omega
   have hml:=hs.1
   rw [show ((k:Int) == (n:Int))=false by rw [l8];omega,ai,ixM oa,bs,ixM oa,bs,bs,ra oa,bs,ra (by rw [gd];omega),bs]
   have hs1:Shp n (n+1) (m.set k (bI m p)):=hs.set hk (hs.2 p hp)
   have hs2:Shp n (n+1) ((m.set k (bI m p)).set p (bI m k)):=hs1.set hp (hs.2 k hk)
   have hR:∀ a,bI ((m.set k (bI m p)).set p (bI m k)) a=if a=p then bI m k else if a=k then bI m p else bI m a:=fun a=>by
    rw [v7 (by rw [gd];omega),v7 oa]
   generalize (m.set k (bI m p)).set p (bI m k)=m2 at hs2 hR
   have hC:∀ a j,cv m2 a j=if a=p then cv m k j else if a=k then cv m p j else cv m a j:=fun a j=>by
    unfold cv cell
    rw [hR a]
    split
    ·rfl
    ·split <;> rfl
   have hd2:AH n p m2:=fun i hi q hq hiq=>by
    rw [hC i q]
    split
    ·exact hd k hk q hq oa
    ·split
     ·exact hd p hp q hq oa
     ·exact hd i hi q hq hiq
   have hsol:∀ y,wy n m y↔wy n m2 y:=fun y=>by
    have key:∀ a b,(∀ j,cv m2 a j=cv m b j)->(d6 n (fun j=>cv m2 a j*y j)=cv m2 a n↔d6 n (fun j=>cv m b j*y j)=cv m b n):=fun a b h=>by
     rw [h n,gM (g:=fun j=>cv m2 a j*y j) (h:=fun j=>cv m b j*y j) fun j _=>by rw [h j]]
    have kp:=key p k fun j=>by rw [hC p j,aK rfl]
    have kk:d6 n (fun j=>cv m2 k j*y j)=cv m2 k n↔d6 n (fun j=>cv m p j*y j)=cv m p n:=by
     by_cases e:k=p
     ·subst e;exact kp
     ·exact key k p fun j=>by rw [hC k j,aS e,aK rfl]
    constructor
    ·intro h i hi
     by_cases e1:i=p
     ·subst e1;exact kp.2 (h k hk)
     ·by_cases e2:i=k
      ·subst e2;exact kk.2 (h p hp)
      ·exact (key i i fun j=>by rw [hC i j,aS e1,aS e2]).2 (h i hi)
    ·intro h i hi
     by_cases e1:i=p
     ·subst e1;exact kk.1 (h k hk)
     ·by_cases e2:i=k
      ·subst e2;exact kp.1 (h p hp)
      ·exact (key i i fun j=>by rw [hC i j,aS e1,aS e2]).1 (h i hi)
   obtain ⟨ok,m3,e3,hs3,h3⟩:=LA hN hn hp hs2 hd2
   rw [e3,bs]
   dsimp only
   cases ok with
   | false =>
    rw [ai]
    exact ⟨_,rfl,.inl rfl⟩
   | true =>
    obtain ⟨h4,h5⟩:=h3 rfl
    rw [ae,bR oa oa,bs]
    obtain ⟨s,e6,h6⟩:=ih (p+1) yN m3 oa oa hs3 h4
    refine ⟨s,e6,h6.imp id ?_⟩
    rintro ⟨m',z,k1,k2,k3,k4⟩
    exact ⟨m',z,k1,k2,k3,fun y=>(hsol y).trans ((h5 y).trans (k4 y))⟩
theorem uf {o:bw} {v:dK} {j:Nat} (h:j<o.length):aH (o++[v]) j=aH o j:=by
 unfold aH;simp [tq h]
theorem sK {o:bw} {v:dK}:aH (o++[v]) o.length=v:=by
 unfold aH;simp
theorem NI (hN:1073741824<=N) {n:Nat} (hn:n<=6) {m:bQ} (hs:Shp n (n+1) m):∀ (c p yN:Nat) (o:bw),p+c=n->c<yN->o.length=p ->
  ∃ s,cu N yN (n:Int) m o (p:Int)=some s/\(s=.inl ([],false)\/∃ o' z,s=.inr (o',z)/\o'.length=n/\(∀ j,j<p->aH o' j=aH o j) /\
   ∀ j,p<=j->j<n->VR N (aH o' j)/\cv m j j≠0/\rv (aH o' j)*cv m j j=cv m j n):=by
 intro c
 induction c with
 | zero =>
  intro p yN o hpc hf ho
  obtain ⟨yN,rfl⟩:∃ k',yN=k'+1:=⟨yN-1,oa⟩
  rw [cu,aN oa,ai]
  exact ⟨_,rfl,.inr ⟨o,_,rfl,oa,fun _ _=>rfl,fun j h1 h2=>by omega⟩⟩
 | succ c ih =>
  intro p yN o hpc hf ho
  obtain ⟨yN,rfl⟩:∃ k',yN=k'+1:=⟨yN-1,oa⟩
  have hp:p<n:=by omega
  have hlp:=hs.2 p hp
  obtain ⟨r,ok,e,h⟩:=MU hN (aH (bI m p) n) (aH (bI m p) p)
  rw [cu,aJ oa,ae,ixM (by rw [hs.1];omega),bs,jC oa,bs,bs,jC oa,bs,e,bs]
  dsimp only
  cases ok with
  | false =>
   rw [ai]
   exact ⟨_,rfl,.inl rfl⟩
  | true =>
   rw [ae,bB (by decide) (by rw [bP];omega),bs,bR oa oa,bs]
   obtain ⟨s,e1,h1⟩:=ih (p+1) yN (o++[(r.1,r.2)]) oa oa (by rw [bZ,bP];omega)
   refine ⟨s,e1,h1.imp id ?_⟩
   rintro ⟨o',z,k1,k2,k3,k4⟩
   refine ⟨o',z,k1,k2,fun j hj=>by rw [k3 j oa,uf oa],fun j h1 h2=>?_⟩
   by_cases ej:j=p
   ·subst ej
    have hr:aH o' j=r:=by
     rw [k3 j oa,<- ho,sK]
    obtain ⟨g1,g2,g3,g4,g5⟩:=h rfl
    rw [hr]
    refine ⟨g3,?_,g5⟩
    intro h0
    have hd:=oe hN g2
    have hz:(((aH (bI m j) j).1:Int):Rat)≠0:=fun e=>g4 (vv.1 e)
    have:rv (aH (bI m j) j)=0:=h0
    unfold rv at this
    grind
   ·exact k4 j oa h2
theorem Nz (hN:1073741824<=N) {n:Nat} (hn:n<=6) {A:bQ} (hA:Shp n n A) {b:bw} (hb:b.length=n):∀ (c i yN:Nat) (m:bQ),i+c=n->c<yN->m.length=i ->
  ∃ s,cp N yN A b (n:Int) m (i:Int)=some s/\(s=.inl ([],false)\/∃ m' z,s=.inr (m',z)/\m'.length=n/\(∀ a,a<i->bI m' a=bI m a)/\∀ a,i<=a->a<n->bI m' a=bI A a++[aH b a]):=by
 intro c
 induction c with
 | zero =>
  intro i yN m hic hf hm
  obtain ⟨yN,rfl⟩:∃ k',yN=k'+1:=⟨yN-1,oa⟩
  rw [cp,aN oa,ai]
  exact ⟨_,rfl,.inr ⟨m,_,rfl,oa,fun _ _=>rfl,fun a h1 h2=>by omega⟩⟩
 | succ c ih =>
  intro i yN m hic hf hm
  obtain ⟨yN,rfl⟩:∃ k',yN=k'+1:=⟨yN-1,oa⟩
  have hi:i<n:=by omega
  have hAl:=hA.2 i hi
  rw [cp,aJ oa,ae,jC oa,bs]
  rcases mi hN (aH b i) with hv | hv
  ·unfold VR at hv
   rw [hv,bs,ae,ixM (by rw [hA.1];exact hi),bs,bs,bB (by decide) (by rw [gu];omega),bs,bB (by decide) (by rw [bZ,gu,bP];omega),bs,bB (by decide) (by rw [bP];omega),bs,bR oa oa,bs]
   obtain ⟨s,e1,h1⟩:=ih (i+1) yN (m++[[]++bI A i++[((aH b i).1,(aH b i).2)]]) oa oa (by rw [bZ,bP];omega)
   refine ⟨s,e1,h1.imp id ?_⟩
   rintro ⟨m',z,k1,k2,k3,k4⟩
   have hr1:∀ a,a<i->bI (m++[[]++bI A i++[((aH b i).1,(aH b i).2)]]) a=bI m a:=fun a ha=>by
    unfold bI;simp [tq (show a<m.length by omega)]
   have hr2:bI (m++[[]++bI A i++[((aH b i).1,(aH b i).2)]]) i=bI A i++[aH b i]:=by
    unfold bI;subst hm;simp
   refine ⟨m',z,k1,k2,fun a ha=>(k3 a oa).trans (hr1 a ha),fun a h1 h2=>?_⟩
   by_cases ea:a=i
   ·subst ea
    rw [k3 a oa,hr2]
   ·exact k4 a oa h2
  ·rw [hv,bs,ai]
   exact ⟨_,rfl,.inl rfl⟩
def JI (N:Nat) (A:bQ) (c:Nat):Prop:=∀ i,i<A.length->(bI A i).length=c/\∀ j,j<c->VR N (cell A i j)
theorem Oc (hN:1073741824<=N) {A:bQ} {c:Nat} (hc:c<=1000) {i:Nat} (hi:i<A.length) (hl:(bI A i).length=c):∀ (d j yN:Nat) (x:Int),j+d=c->d<yN ->
  ∃ s,fH N yN A x (c:Int) (i:Int) (j:Int)=some s/\((s=.inl false/\∃ q,j<=q/\q<c/\¬ VR N (cell A i q))\/∃ z,s=.inr z/\∀ q,j<=q->q<c->VR N (cell A i q)):=by
 intro d
 induction d with
 | zero =>
  intro j yN x hj hf
  obtain ⟨yN,rfl⟩:∃ k',yN=k'+1:=⟨yN-1,oa⟩
  rw [fH,aN oa,ai]
  exact ⟨_,rfl,.inr ⟨_,rfl,fun q h1 h2=>by omega⟩⟩
 | succ d ih =>
  intro j yN x hj hf
  obtain ⟨yN,rfl⟩:∃ k',yN=k'+1:=⟨yN-1,oa⟩
  rw [fH,aJ oa,ae,ixM hi,bs,jC oa,bs]
  rcases mi hN (aH (bI A i) j) with hv | hv
  ·have hv':=hv
   unfold VR at hv'
   rw [hv',bs,ae,bR oa oa,bs]
   obtain ⟨s,e,h⟩:=ih (j+1) yN x oa oa
   refine ⟨s,e,?_⟩
   rcases h with ⟨h1,q,h2,h3,h4⟩ | ⟨z,h1,h2⟩
   ·exact .inl ⟨h1,q,oa,h3,h4⟩
   ·refine .inr ⟨z,h1,fun q g1 g2=>?_⟩
    by_cases e:q=j
    ·subst e;exact hv
    ·exact h2 q oa g2
  ·rw [hv,bs,ai]
   refine ⟨_,rfl,.inl ⟨rfl,j,bN j,oa,fun h=>?_⟩⟩
   unfold VR cell at h
   rw [hv] at h;cases h
theorem Oe (hN:1073741824<=N) {A:bQ} (hA:A.length<=1000) {c:Nat} (hc:c<=1000):∀ (d i yN:Nat) (x:Int),i+d=A.length->d<yN ->
  ∃ s,fG N yN A x (c:Int) (i:Int)=some s/\((s=.inl false/\¬ JI N A c)\/∃ z,s=.inr z/\∀ q,i<=q->q<A.length->(bI A q).length=c/\∀ j,j<c->VR N (cell A q j)):=by
 intro d
 induction d with
 | zero =>
  intro i yN x hi hf
  obtain ⟨yN,rfl⟩:∃ k',yN=k'+1:=⟨yN-1,oa⟩
  rw [fG,aN oa,ai]
  exact ⟨_,rfl,.inr ⟨_,rfl,fun q h1 h2=>by omega⟩⟩
 | succ d ih =>
  intro i yN x hi hf
  obtain ⟨yN,rfl⟩:∃ k',yN=k'+1:=⟨yN-1,oa⟩
  have hil:i<A.length:=by omega
  rw [fG,aJ oa,ae,ixM hil,bs]
  by_cases hl:(bI A i).length=c
  ·rw [show (((bI A i).length:Int) != (c:Int))=false by rw [mn];omega,ai]
   obtain ⟨s,e,h⟩:=Oc hN hc hil hl c 0 N x oa oa
   have e':fH N N A x (c:Int) (i:Int) 0=some s:=e
   rw [e',bs]
   rcases h with ⟨rfl,q,_,h3,h4⟩ | ⟨z,rfl,h2⟩
   ·rw [nh]
    exact ⟨_,rfl,.inl ⟨rfl,fun h=>h4 ((h i hil).2 q h3)⟩⟩
   ·rw [jh,bR oa oa,bs]
    obtain ⟨s,e,h⟩:=ih (i+1) yN x oa oa
    refine ⟨s,e,h.imp id ?_⟩
    rintro ⟨z,h5,h6⟩
    refine ⟨z,h5,fun q g1 g2=>?_⟩
    by_cases e:q=i
    ·subst e;exact ⟨hl,fun j hj=>h2 j oa hj⟩
    ·exact h6 q oa g2
  ·rw [show (((bI A i).length:Int) != (c:Int))=true by rw [bne_iff_ne];omega,ae]
   exact ⟨_,rfl,.inl ⟨rfl,fun h=>hl (h i hil).1⟩⟩
theorem Br (hN:1073741824<=N) {A:bQ} (hA:A.length<=1000) {c:Nat} (hc:c<=1000) (n:Nat):∃ b,gr N A (n:Int) (c:Int)=some b/\(b=true↔JI N A c/\A.length=n):=by
 unfold gr
 obtain ⟨s,e,h⟩:=Oe hN hA hc A.length 0 N (n:Int) oa oa
 have e':fG N N A (n:Int) (c:Int) 0=some s:=e
 rw [e',bs]
 rcases h with ⟨rfl,h⟩ | ⟨z,rfl,h⟩
 ·rw [nh]
  exact ⟨false,rfl,fun h=>(by cases h),fun h2=>absurd h2.1 h⟩
 ·rw [jh]
  refine ⟨_,rfl,?_⟩
  rw [qk]
  exact ⟨fun h2=>⟨fun i hi=>h i oa hi,oa⟩,fun h2=>by omega⟩
theorem qd (hN:1073741824<=N) {n:Nat} (hn:n<=6) {A:bQ} (hA:Shp n n A) {b:bw} (hb:b.length=n) :
  ∃ x ok,cG N A b=some (x,ok)/\(ok=true->x.length=n/\(∀ j,j<n->VR N (aH x j)) /\
   ∀ y:Nat->Rat,(∀ i,i<n->d6 n (fun j=>cv A i j*y j)=rv (aH b i))↔∀ j,j<n->y j=rv (aH x j)):=by
 have hAl:=hA.1
 unfold cG
 rw [aN oa,ai,hb]
 obtain ⟨q,e0,_⟩:=Br hN (A:=A) oa (c:=n) oa n
 rw [e0,bs]
 cases q with
 | false=>exact ⟨_,_,rfl,fun h=>by cases h⟩
 | true =>
  rw [ae]
  obtain ⟨s1,e1,h1⟩:=Nz hN hn hA hb n 0 N [] oa oa rfl
  have e1':cp N N A b (n:Int) [] 0=some s1:=e1
  rw [e1',bs]
  rcases h1 with rfl | ⟨m,z,rfl,hm,_,hr⟩
  ·rw [nh];exact ⟨_,_,rfl,fun h=>by cases h⟩
  ·rw [jh]
   have hs:Shp n (n+1) m:=⟨hm,fun i hi=>by rw [hr i oa hi,bZ,hA.2 i hi,bP]⟩
   have hc1:∀ i j,i<n->j<n->cv m i j=cv A i j:=fun i j hi hj=>by
    unfold cv cell
    rw [hr i oa hi,uf (by rw [hA.2 i hi];exact hj)]
   have hc2:∀ i,i<n->cv m i n=rv (aH b i):=fun i hi=>by
    unfold cv cell
    have:=hA.2 i hi
    rw [hr i oa hi,<- this,sK]
   obtain ⟨s2,e2,h2⟩:=LX hN hn n 0 N m oa oa hs (fun i _ q hq=>by omega)
   have e2':cq N N (n:Int) m 0=some s2:=e2
   dsimp only
   rw [e2',bs]
   rcases h2 with rfl | ⟨m',z',rfl,hs',hd,hsol⟩
   ·rw [nh];exact ⟨_,_,rfl,fun h=>by cases h⟩
   ·rw [jh]
    obtain ⟨s3,e3,h3⟩:=NI hN hn hs' n 0 N [] oa oa rfl
    have e3':cu N N (n:Int) m' [] 0=some s3:=e3
    dsimp only
    rw [e3',bs]
    rcases h3 with rfl | ⟨o,z'',rfl,ho,_,h4⟩
    ·rw [nh];exact ⟨_,_,rfl,fun h=>by cases h⟩
    ·rw [jh]
     refine ⟨_,_,rfl,fun _=>⟨ho,fun j hj=>(h4 j oa hj).1,fun y=>?_⟩⟩
     have k1:(∀ i,i<n->d6 n (fun j=>cv A i j*y j)=rv (aH b i))↔wy n m y:=by
      unfold wy
      constructor
      ·intro h i hi
       rw [gM (h:=fun j=>cv A i j*y j) fun j hj=>by rw [hc1 i j hi hj],hc2 i hi]
       exact h i hi
      ·intro h i hi
       rw [<- hc2 i hi,<- h i hi]
       exact gM fun j hj=>by rw [hc1 i j hi hj]
     rw [k1,hsol y]
     unfold wy
     have k2:∀ i,i<n->d6 n (fun j=>cv m' i j*y j)=cv m' i i*y i:=fun i hi=>zm hi fun j hj hji=>by
      rw [hd i hi j hj (fun e=>hji e.symm)];exact xr _
     constructor
     ·intro h j hj
      have h5:=h j hj
      rw [k2 j hj] at h5
      obtain ⟨_,g2,g3⟩:=h4 j oa hj
      grind
     ·intro h i hi
      rw [k2 i hi,h i hi]
      obtain ⟨_,g2,g3⟩:=h4 i oa hi
      rw [<- g3,Rat.mul_comm]
end
section
variable {N:Nat}
theorem kn (hN:1073741824<=N) {v:Int} (h1:-1000000000<=v) (h2:v<=1000000000):VR N (v,1) :=
 (gT hN).2 ⟨(by decide:(1:Int)<=1),(by decide:(1:Int)<=1000000000),h1,h2,Int.gcd_one⟩
theorem mI (v:Int):rv (v,1)=(v:Rat):=by
 unfold rv
 have:((1:Int):Rat)=1:=rfl
 show (v:Rat) / ((1:Int):Rat)=_
 rw [this];grind
theorem Nb (hN:1073741824<=N) {n:Int} (h1:-1000000000<=n) (h2:n<=1000000000):cL N n 1=some ((n,1),true):=by
 obtain ⟨a1,a2,a3⟩:=yd n
 obtain ⟨g,e,g1,g2,g3,g4⟩:=uO (N:=N) hN a1 (by decide:(0:Int)<=1) (by decide)
 have hg:g=1:=by
  have:=g3 (.inr (by decide))
  have:=rO (by decide) g2
  omega
 subst hg
 have hv:=kn hN h1 h2
 unfold VR at hv
 have q1:qt n 1=some n:=by
  unfold qt;rw [aK ⟨by decide,by rw [Int.tdiv_one];exact qJ oa oa⟩,Int.tdiv_one]
 have q2:qt 1 1=some 1:=rfl
 unfold cL
 rw [show ((1:Int) == 0)=false from rfl,ai,fL oa oa,bs,fQ,bs,show inR n (0-4000000000000000000) 4000000000000000000=true from ck.2 oa,ae,bs,fQ,bs,show inR 1 (0-4000000000000000000) 4000000000000000000=true from ck.2 oa,ae,show decide ((1:Int)<0)=false from rfl,ai,fL oa oa,bs,e,bs,q1,bs,q2,bs,hv,bs,ae]
theorem Gx (hN:1073741824<=N) {a b:Int} (h1:0<=a) (h2:a<=1000) (h3:0<=b) (h4:b<=1000):cO N a 1 b 1=some ((a*b,1),true):=by
 have m:=mO (a:=a) (b:=b) oa oa oa oa
 have ha:=kn hN (v:=a) oa oa
 have hb:=kn hN (v:=b) oa oa
 have m2:0<=a*b:=qH h1 h3
 have m3:a*b<=1000*1000:=mM h2 h4 h3 (by decide)
 unfold VR at ha hb
 unfold cO
 rw [ha,bs,ae,hb,bs,ae,fv oa oa,bs,show ml 1 1=some 1 from rfl,bs,Nb hN oa oa,bs]
theorem Oq (hN:1073741824<=N) {a b:Int} (h1:0<=a) (h2:a<=10000000) (h3:0<=b) (h4:b<=10000000):cM N a 1 b 1=some ((a+b,1),true):=by
 have ha:=kn hN (v:=a) oa oa
 have hb:=kn hN (v:=b) oa oa
 unfold VR at ha hb
 unfold cM
 rw [ha,bs,ae,hb,bs,ae,fv oa oa,bs,fv oa oa,bs,sh,sh,bR oa oa,bs,show ml 1 1=some 1 from rfl,bs,Nb hN oa oa,bs]
theorem MY (hN:1073741824<=N) {a b:bw} (hl:a.length=b.length) (h10:a.length<=1000):∀ (c k yN:Nat) (x:dK) (u1 u2:Int),k+c=a.length->c<yN ->
  ∃ s,bV N yN a b u1 u2 x.1 x.2 (k:Int)=some s/\(s=.inl ((0,0),false)\/∃ r z:dK × Int,s=.inr (r.1.1,r.1.2,z.2)/\rv r.1=rv x+(d6 a.length (fun j=>rv (aH a j)*rv (aH b j))-d6 k (fun j=>rv (aH a j)*rv (aH b j)))/\(VR N x->VR N r.1)):=by
 intro c
 induction c with
 | zero =>
  intro k yN x u1 u2 hk hf
  obtain ⟨yN,rfl⟩:∃ k',yN=k'+1:=⟨yN-1,oa⟩
  rw [bV,aN oa,ai]
  obtain rfl:k=a.length:=by omega
  exact ⟨_,rfl,.inr ⟨(x,0),((0,0),_),rfl,by grind,id⟩⟩
 | succ c ih =>
  intro k yN x u1 u2 hk hf
  obtain ⟨yN,rfl⟩:∃ k',yN=k'+1:=⟨yN-1,oa⟩
  obtain ⟨r,ok,e,h⟩:=I5 hN (aH a k) (aH b k)
  obtain ⟨y,ok2,e2,h2⟩:=Ju hN x r
  rw [bV,aJ oa,ae,jC oa,bs,jC oa,bs,e,bs]
  dsimp only
  cases ok with
  | false=>rw [ai];exact ⟨_,rfl,.inl rfl⟩
  | true =>
   rw [ae,e2,bs]
   dsimp only
   cases ok2 with
   | false=>rw [ai];exact ⟨_,rfl,.inl rfl⟩
   | true =>
    rw [ae,bR oa oa,bs]
    obtain ⟨s,e3,h3⟩:=ih (k+1) yN y u1 u2 oa oa
    refine ⟨s,e3,h3.imp id ?_⟩
    rintro ⟨r',z,k1,k2,k3⟩
    obtain ⟨_,_,_,g4⟩:=h rfl
    obtain ⟨_,_,f3,f4⟩:=h2 rfl
    refine ⟨r',z,k1,?_,fun _=>k3 f3⟩
    rw [k2,f4,g4]
    have:d6 (k+1) (fun j=>rv (aH a j)*rv (aH b j))=d6 k (fun j=>rv (aH a j)*rv (aH b j))+rv (aH a k)*rv (aH b k):=rfl
    rw [this]
    grind
theorem Mb (hN:1073741824<=N) {a b:bw} (hl:a.length=b.length) (h10:a.length<=1000):∃ r ok,fq N a b=some (r,ok)/\(ok=true->VR N r/\rv r=d6 a.length (fun j=>rv (aH a j)*rv (aH b j))):=by
 unfold fq
 rw [show ((a.length:Int) != (b.length:Int))=false by rw [mn];omega,ai]
 obtain ⟨s,e,h⟩:=MY hN hl h10 a.length 0 N (0,1) 0 0 oa oa
 have e':bV N N a b 0 0 0 1 0=some s:=e
 rw [e',bs]
 rcases h with rfl | ⟨r,z,rfl,h1,h2⟩
 ·rw [nh];exact ⟨_,_,rfl,fun h=>by cases h⟩
 ·rw [jh]
  refine ⟨r.1,true,rfl,fun _=>⟨h2 (kn hN (by decide) (by decide)),?_⟩⟩
  rw [h1,mI]
  have e0:((0:Int):Rat)=0:=rfl
  have e1:d6 0 (fun j=>rv (aH a j)*rv (aH b j))=0:=rfl
  rw [e0,e1]
  grind
def o8 (r:dK):Prop:=r=(0,1)\/r=(1,1)
theorem KF (hN:1073741824<=N) {a b:bw} (hl:a.length=b.length) (h10:a.length<=1000) (ha:∀ j,j<a.length->o8 (aH a j)) (hb:∀ j,j<a.length->o8 (aH b j)):∀ (c k yN:Nat) (v:Int) (u1 u2:Int),k+c=a.length->c<yN->0<=v->v<=k ->
  ∃ v' z:Int,bV N yN a b u1 u2 v 1 (k:Int)=some (.inr (v',1,z))/\0<=v'/\v'<=a.length/\v<=v'/\∀ j,k<=j->j<a.length->aH a j=(1,1)->aH b j=(1,1)->v+1<=v':=by
 intro c
 induction c with
 | zero =>
  intro k yN v u1 u2 hk hf h0 h1
  obtain ⟨yN,rfl⟩:∃ k',yN=k'+1:=⟨yN-1,oa⟩
  rw [bV,aN oa,ai]
  exact ⟨v,_,rfl,h0,oa,lA v,fun j h1 h2=>by omega⟩
 | succ c ih =>
  intro k yN v u1 u2 hk hf h0 h1
  obtain ⟨yN,rfl⟩:∃ k',yN=k'+1:=⟨yN-1,oa⟩
  have hm:∃ p:Int,0<=p/\p<=1/\cO N (aH a k).1 (aH a k).2 (aH b k).1 (aH b k).2=some ((p,1),true)/\(aH a k=(1,1)->aH b k=(1,1)->p=1):=by
   rcases ha k oa with e1 | e1 <;> rcases hb k oa with e2 | e2 <;> rw [e1,e2]
   ·exact ⟨_,by decide,by decide,Gx hN (by decide) (by decide) (by decide) (by decide),fun h=>absurd h (by decide)⟩
   ·exact ⟨_,by decide,by decide,Gx hN (by decide) (by decide) (by decide) (by decide),fun h=>absurd h (by decide)⟩
   ·exact ⟨_,by decide,by decide,Gx hN (by decide) (by decide) (by decide) (by decide),fun _ h=>absurd h (by decide)⟩
   ·exact ⟨_,by decide,by decide,Gx hN (by decide) (by decide) (by decide) (by decide),fun _ _=>rfl⟩
  obtain ⟨p,p0,p1,ep,hp⟩:=hm
  rw [bV,aJ oa,ae,jC oa,bs,jC oa,bs,ep,bs]
  dsimp only
  rw [ae,Oq hN h0 oa p0 oa,bs]
  dsimp only
  rw [ae,bR oa oa,bs]
  obtain ⟨v',z,e3,g1,g2,g3,g4⟩:=ih (k+1) yN (v+p) u1 u2 oa oa oa oa
  refine ⟨v',z,e3,g1,g2,oa,fun j h1 h2 h3 h4=>?_⟩
  by_cases e:j=k
  ·subst e
   have:=hp h3 h4
   omega
  ·have:=g4 j oa h2 h3 h4
   omega
theorem On (hN:1073741824<=N) {a b:bw} (hl:a.length=b.length) (h10:a.length<=1000) (ha:∀ j,j<a.length->o8 (aH a j)) (hb:∀ j,j<a.length->o8 (aH b j)) :
  ∃ v:Int,fq N a b=some ((v,1),true)/\0<=v/\v<=1000/\∀ j,j<a.length->aH a j=(1,1)->aH b j=(1,1)->1<=v:=by
 unfold fq
 rw [show ((a.length:Int) != (b.length:Int))=false by rw [mn];omega,ai]
 obtain ⟨v',z,e,g1,g2,g3,g4⟩:=KF hN hl h10 ha hb a.length 0 N 0 0 0 oa oa (by decide) (by decide)
 have e':bV N N a b 0 0 0 1 0=_:=e
 rw [e',bs,jh]
 exact ⟨v',rfl,g1,oa,fun j h1 h2 h3=>by have:=g4 j oa h1 h2 h3;omega⟩
theorem Oa (hN:1073741824<=N) {A:bQ} {x:bw} (hA:A.length<=1000) (hx:x.length<=1000) (hl:∀ i,i<A.length->(bI A i).length=x.length):∀ (c i yN:Nat) (y:bw),i+c=A.length->c<yN->y.length=i ->
  ∃ s,bF N yN A x y (i:Int)=some s/\(s=.inl ([],false)\/∃ y' z,s=.inr (y',z)/\y'.length=A.length/\(∀ a,a<i->aH y' a=aH y a) /\
   ∀ a,i<=a->a<A.length->VR N (aH y' a)/\rv (aH y' a)=d6 x.length (fun j=>cv A a j*rv (aH x j))):=by
 intro c
 induction c with
 | zero =>
  intro i yN y hi hf hy
  obtain ⟨yN,rfl⟩:∃ k',yN=k'+1:=⟨yN-1,oa⟩
  rw [bF,aN oa,ai]
  exact ⟨_,rfl,.inr ⟨y,_,rfl,oa,fun _ _=>rfl,fun a h1 h2=>by omega⟩⟩
 | succ c ih =>
  intro i yN y hi hf hy
  obtain ⟨yN,rfl⟩:∃ k',yN=k'+1:=⟨yN-1,oa⟩
  have hil:i<A.length:=by omega
  have hrl:=hl i hil
  obtain ⟨r,ok,e,h⟩:=Mb hN hrl oa
  rw [bF,aJ oa,ae,ixM hil,bs,e,bs]
  dsimp only
  cases ok with
  | false=>rw [ai];exact ⟨_,rfl,.inl rfl⟩
  | true =>
   rw [ae,bB (by decide) (by rw [bP];omega),bs,bR oa oa,bs]
   obtain ⟨s,e1,h1⟩:=ih (i+1) yN (y++[(r.1,r.2)]) oa oa (by rw [bZ,bP];omega)
   refine ⟨s,e1,h1.imp id ?_⟩
   rintro ⟨y',z,k1,k2,k3,k4⟩
   refine ⟨y',z,k1,k2,fun a ha=>by rw [k3 a oa,uf oa],fun a h1 h2=>?_⟩
   by_cases ea:a=i
   ·subst ea
    have hr:aH y' a=r:=by rw [k3 a oa,<- hy,sK]
    obtain ⟨g1,g2⟩:=h rfl
    rw [hr]
    refine ⟨g1,?_⟩
    rw [g2,hrl]
    rfl
   ·exact k4 a oa h2
theorem IQ (hN:1073741824<=N) {A:bQ} {x:bw} (hA:A.length<=1000) (hx:x.length<=1000) (hl:∀ i,i<A.length->(bI A i).length=x.length) (hb:∀ i,i<A.length->∀ j,j<x.length->o8 (cell A i j)) (hxb:∀ j,j<x.length->o8 (aH x j)) (hc:∀ i,i<A.length->∃ j,j<x.length/\cell A i j=(1,1)/\aH x j=(1,1)):∀ (c i yN:Nat) (y:bw),i+c=A.length->c<yN->y.length=i->(∀ a,a<i->∃ v:Int,aH y a=(v,1)/\1<=v/\v<=1000) ->
  ∃ y' z,bF N yN A x y (i:Int)=some (.inr (y',z))/\y'.length=A.length/\∀ a,a<A.length->∃ v:Int,aH y' a=(v,1)/\1<=v/\v<=1000:=by
 intro c
 induction c with
 | zero =>
  intro i yN y hi hf hy hy2
  obtain ⟨yN,rfl⟩:∃ k',yN=k'+1:=⟨yN-1,oa⟩
  rw [bF,aN oa,ai]
  exact ⟨y,_,rfl,oa,fun a ha=>hy2 a oa⟩
 | succ c ih =>
  intro i yN y hi hf hy hy2
  obtain ⟨yN,rfl⟩:∃ k',yN=k'+1:=⟨yN-1,oa⟩
  have hil:i<A.length:=by omega
  have hrl:=hl i hil
  obtain ⟨v,e,v0,v1,h⟩:=On hN hrl oa (fun j hj=>hb i hil j oa) fun j hj=>hxb j oa
  rw [bF,aJ oa,ae,ixM hil,bs,e,bs]
  dsimp only
  rw [ae,bB (by decide) (by rw [bP];omega),bs,bR oa oa,bs]
  refine ih (i+1) yN (y++[(v,1)]) oa oa (by rw [bZ,bP];omega) fun a ha=>?_
  by_cases ea:a=i
  ·subst ea
   refine ⟨v,by rw [<- hy,sK],?_,v1⟩
   obtain ⟨j,h1,h2,h3⟩:=hc a hil
   exact h j oa h2 h3
  ·rw [uf oa]
   exact hy2 a oa
end
def mP (a:aV) (v:Int):dK:=bif decide (v∈a.2) then (1,1) else (0,1)
def f7 (yK:List aV) (v:Int):bw:=yK.map fun a=>mP a v
def bl (n:Nat) (yK:List aV):bQ:=(List.range' 0 n).map fun v:Nat=>f7 yK (v:Int)
def aI (n:Nat):bw:=List.replicate n (1,1)
theorem sJ (n:Nat):aI n++[(1,1)]=aI (n+1):=by unfold aI;rw [wV]
theorem Cc (n:Nat) (yK:List aV):bl n yK++[f7 yK (n:Int)]=bl (n+1) yK:=by
 unfold bl
 rw [pf,eU]
 simp
section
variable {N:Nat}
theorem MQ (hN:1073741824<=N) {n v:Int} {yK:List aV} {out:yP} {b1 b4:bQ} {b2 b3 b5 b6:bw} (ha:fB yK) (h4:yK.length<=1000) :
  eu N N n yK out b1 b2 b3 b4 b5 b6 v [] 0=some (f7 yK v,(yK.length:Int)) :=
 jv (fun k (o:bw) i=>eu N k n yK out b1 b2 b3 b4 b5 b6 v o i) yK.length (fun i=>f7 (yK.take i) v) (f7 yK v,(yK.length:Int))
  (fun k i h=>by
   show eu N (k+1) n yK out b1 b2 b3 b4 b5 b6 v (f7 (yK.take i) v) (i:Int)=eu N k n yK out b1 b2 b3 b4 b5 b6 v (f7 (yK.take (i+1)) v) ((i+1:Nat):Int)
   have hl:(f7 (yK.take i) v).length<=1000:=by unfold f7;rw [bT,c5];omega
   have e:f7 (yK.take (i+1)) v=f7 (yK.take i) v++[mP yK[i] v]:=by
    unfold f7
    rw [gR h,eU];rfl
   rw [eu,dlt h,ae,bh h,bs,oG hN (Ah ha h),bs,e]
   unfold mP
   cases decide (v∈yK[i].2) with
   | true=>rw [ae,ae,bB (by decide) (by rw [bP];omega),bs,ad1 oa,bs]
   | false=>rw [ai,ai,bB (by decide) (by rw [bP];omega),bs,ad1 oa,bs])
  (fun k=>by
   show eu N (k+1) n yK out b1 b2 b3 b4 b5 b6 v (f7 (yK.take yK.length) v) (yK.length:Int)=_
   rw [eu,dge oa,ai,gP]) N 0 oa oa
theorem Mu (hN:1073741824<=N) {n:Nat} (hn:n<=1000) {yK:List aV} {out:yP} {b1:bQ} {b2 b3 b6:bw} (ha:fB yK) (h4:yK.length<=1000) :
  eW N N (n:Int) yK out b1 b2 b3 [] [] b6 0=some (bl n yK,aI n,(n:Int)) :=
 jv (fun k (o:bQ × bw) i=>eW N k (n:Int) yK out b1 b2 b3 o.1 o.2 b6 i) n (fun i=>(bl i yK,aI i)) (bl n yK,aI n,(n:Int))
  (fun k i h=>by
   show eW N (k+1) (n:Int) yK out b1 b2 b3 (bl i yK) (aI i) b6 (i:Int)=eW N k (n:Int) yK out b1 b2 b3 (bl (i+1) yK) (aI (i+1)) b6 ((i+1:Nat):Int)
   have h1:(bl i yK).length=i:=by unfold bl;simp
   have h2:(aI i).length=i:=by unfold aI;simp
   rw [eW,dlt h,ae,MQ hN ha h4,bs,lpB]
   dsimp only
   rw [bB (by decide) (by rw [bP];omega),bs,bB (by decide) (by rw [bP];omega),bs,ad1 oa,bs,Cc,sJ])
  (fun k=>by
   show eW N (k+1) (n:Int) yK out b1 b2 b3 (bl n yK) (aI n) b6 (n:Int)=_
   rw [eW,dge oa,ai]) N 0 oa oa
theorem NC (hN:1073741824<=N) {n:Int} {yK:List aV} {out:yP} {b1 b4:bQ} {b2 b3 b5:bw} (h4:yK.length<=1000) :
  fd N N n yK out b1 b2 b3 b4 b5 [] 0=some (aI yK.length,(yK.length:Int)) :=
 jv (fun k (o:bw) i=>fd N k n yK out b1 b2 b3 b4 b5 o i) yK.length (fun i=>aI i) (aI yK.length,(yK.length:Int))
  (fun k i h=>by
   show fd N (k+1) n yK out b1 b2 b3 b4 b5 (aI i) (i:Int)=fd N k n yK out b1 b2 b3 b4 b5 (aI (i+1)) ((i+1:Nat):Int)
   have h2:(aI i).length=i:=by unfold aI;simp
   rw [fd,dlt h,ae,bB (by decide) (by rw [bP];omega),bs,ad1 oa,bs,sJ])
  (fun k=>by
   show fd N (k+1) n yK out b1 b2 b3 b4 b5 (aI yK.length) (yK.length:Int)=_
   rw [fd,dge oa,ai]) N 0 oa oa
theorem tZ (hN:1073741824<=N) {n:Nat} {yK:List aV} {out:yP} (ha:fB yK) (ho:okI out) (hq:fR (n:Int) yK out=true) :
  my N (n:Int) yK out=some ((bl n yK,aI n,aI yK.length),true):=by
 obtain ⟨_,n5,_,a4⟩:=lk hq
 unfold my
 rw [lf hN ha ho,bs,hq,ae,Mu hN oa ha oa,bs,lpB]
 dsimp only
 rw [NC hN oa,bs,lpB]
theorem dG {n:Nat} {yK:List aV}:(bl n yK).length=n:=by unfold bl;simp
theorem Dg {n v:Nat} {yK:List aV} (hv:v<n):bI (bl n yK) v=f7 yK (v:Int):=by
 unfold bI bl
 rw [nD,List.getElem?_map,List.getElem?_range' hv]
 simp
theorem nc {n v i:Nat} {yK:List aV} (hv:v<n) (hi:i<yK.length):cell (bl n yK) v i=mP (dz yK i) (v:Int):=by
 unfold cell
 rw [Dg hv]
 unfold f7 aH
 rw [kg hi]
 simp [hi]
theorem qx {n i:Nat} (h:i<n):aH (aI n) i=(1,1):=by unfold aH aI;simp [h]
theorem oO (a:aV) (v:Int):o8 (mP a v):=by
 unfold mP o8
 cases decide (v∈a.2)
 ·exact .inl rfl
 ·exact .inr rfl
theorem DM (hN:1073741824<=N) {r:dK} (h:o8 r):VR N r:=by
 rcases h with rfl | rfl
 ·exact kn hN (by decide) (by decide)
 ·exact kn hN (by decide) (by decide)
theorem qW {n:Nat} {yK:List aV}:Shp n yK.length (bl n yK) :=
 ⟨dG,fun i hi=>by rw [Dg hi];unfold f7;rw [bT]⟩
theorem Bv (hN:1073741824<=N) {n:Nat} {yK:List aV} (n1:1<=n) (n5:n<=5) (a1:1<=yK.length) (a4:yK.length<=4):dY N (bl n yK) (aI n) (aI yK.length)=some true:=by
 have l1:(aI n).length=n:=by unfold aI;simp
 have l2:(aI yK.length).length=yK.length:=by unfold aI;simp
 unfold dY
 have one:∀ k:Nat,k<=1000->JI N [aI k] k:=fun k _ i hi=>by
  obtain rfl:i=0:=by simpa using hi
  refine ⟨by show (aI k).length=k;unfold aI;simp,fun j hj=>?_⟩
  have:cell [aI k] 0 j=(1,1):=qx hj
  rw [this];exact kn hN (by decide) (by decide)
 obtain ⟨b1,e1,h1⟩:=Br hN (A:=bl n yK) (by rw [dG];omega) (c:=yK.length) oa n
 obtain ⟨b2,e2,h2⟩:=Br hN (A:=[aI yK.length]) (by simp) (c:=yK.length) oa 1
 obtain ⟨b3,e3,h3⟩:=Br hN (A:=[aI n]) (by simp) (c:=n) oa 1
 have t1:b1=true:=h1.2 ⟨fun i hi=>by
  rw [dG] at hi
  exact ⟨qW.2 i hi,fun j hj=>by rw [nc hi hj];exact DM hN (oO _ _)⟩,dG⟩
 have t2:b2=true:=h2.2 ⟨one _ oa,rfl⟩
 have t3:b3=true:=h3.2 ⟨one _ oa,rfl⟩
 have e2':gr N [aI yK.length] 1 (yK.length:Int)=some b2:=e2
 have e3':gr N [aI n] 1 (n:Int)=some b3:=e3
 rw [l1,l2,fQ,bs,show inR (yK.length:Int) 1 5=true from ck.2 oa,ae,fQ,bs,show inR (n:Int) 1 5=true from ck.2 oa,ae,e1,bs,t1,ae,e2',bs,t2,ae,e3',bs,t3]
theorem LW (hN:1073741824<=N) {x:bw} (hl:x.length<=1000) {sg:Int} {A:bQ} {B C:bw}:∀ (c k yN:Nat),k+c=x.length->c<yN ->
  ∃ s,eN N yN x sg A B C (k:Int)=some s/\((s=.inl false/\∃ j,k<=j/\j<x.length/\¬ (VR N (aH x j)/\0<=(aH x j).1))\/∃ z,s=.inr z/\∀ j,k<=j->j<x.length->VR N (aH x j)/\0<=(aH x j).1):=by
 intro c
 induction c with
 | zero =>
  intro k yN hk hf
  obtain ⟨yN,rfl⟩:∃ k',yN=k'+1:=⟨yN-1,oa⟩
  rw [eN,aN oa,ai]
  exact ⟨_,rfl,.inr ⟨_,rfl,fun j h1 h2=>by omega⟩⟩
 | succ c ih =>
  intro k yN hk hf
  obtain ⟨yN,rfl⟩:∃ k',yN=k'+1:=⟨yN-1,oa⟩
  rw [eN,aJ oa,ae,jC oa,bs]
  rcases mi hN (aH x k) with hv | hv
  ·have hv':=hv
   unfold VR at hv'
   rw [hv',bs,ae,bs]
   by_cases h0:(aH x k).1<0
   ·rw [aJ h0,ae]
    exact ⟨_,rfl,.inl ⟨rfl,k,bN k,oa,fun h=>by omega⟩⟩
   ·rw [aN h0,ai,bR oa oa,bs]
    obtain ⟨s,e,h⟩:=ih (k+1) yN oa oa
    refine ⟨s,e,?_⟩
    rcases h with ⟨h1,j,h2,h3,h4⟩ | ⟨z,h1,h2⟩
    ·exact .inl ⟨h1,j,oa,h3,h4⟩
    ·refine .inr ⟨z,h1,fun j g1 g2=>?_⟩
     by_cases e:j=k
     ·subst e;exact ⟨hv,oa⟩
     ·exact h2 j oa g2
  ·rw [hv,bs,ai]
   refine ⟨_,rfl,.inl ⟨rfl,k,bN k,oa,fun h=>?_⟩⟩
   have:=h.1
   unfold VR at this
   rw [hv] at this;cases this
theorem Ff (hN:1073741824<=N) {y B:bw} (hl:y.length<=1000) (hb:y.length<=B.length) {A:bQ} {C:bw} {u:Bool}:∀ (c k yN:Nat),k+c=y.length->c<yN ->
  ∃ s,dH N yN 1 A B C y u (k:Int)=some s/\((s=.inl false/\∃ j,k<=j/\j<y.length/\(VR N (aH y j)->VR N (aH B j)->rv (aH y j)<rv (aH B j)))\/∃ z,s=.inr z/\∀ j,k<=j->j<y.length->VR N (aH y j)->VR N (aH B j)->¬ rv (aH y j)<rv (aH B j)):=by
 intro c
 induction c with
 | zero =>
  intro k yN hk hf
  obtain ⟨yN,rfl⟩:∃ k',yN=k'+1:=⟨yN-1,oa⟩
  rw [dH,aN oa,ai]
  exact ⟨_,rfl,.inr ⟨_,rfl,fun j h1 h2=>by omega⟩⟩
 | succ c ih =>
  intro k yN hk hf
  obtain ⟨yN,rfl⟩:∃ k',yN=k'+1:=⟨yN-1,oa⟩
  obtain ⟨q,e1,q1,q2,h⟩:=Mj hN (aH y k) (aH B k)
  rw [dH,aJ oa,ae,jC oa,bs,jC oa,bs,e1,bs,fv oa oa,bs,sh]
  by_cases h0:q<0
  ·rw [aJ h0,ae]
   exact ⟨_,rfl,.inl ⟨rfl,k,bN k,oa,fun v1 v2=>(h v1 v2).1 h0⟩⟩
  ·rw [aN h0,ai,bR oa oa,bs]
   obtain ⟨s,e,h'⟩:=ih (k+1) yN oa oa
   refine ⟨s,e,?_⟩
   rcases h' with ⟨h1,j,h2,h3,h4⟩ | ⟨z,h1,h2⟩
   ·exact .inl ⟨h1,j,oa,h3,h4⟩
   ·refine .inr ⟨z,h1,fun j g1 g2=>?_⟩
    by_cases e:j=k
    ·subst e;exact fun v1 v2 hlt=>h0 ((h v1 v2).2 hlt)
    ·exact h2 j oa g2
structure FeasR (N n:Nat) (yK:List aV) (x:bw):Prop where
 len:x.length=yK.length
 ok:∀ j,j<x.length->VR N (aH x j)/\0<=(aH x j).1
 ge:∀ v,v<n->1<=d6 yK.length (fun j=>cv (bl n yK) v j*rv (aH x j))
theorem FU (hN:1073741824<=N) {n:Nat} {yK:List aV} (n1:1<=n) (n5:n<=5) (a1:1<=yK.length) (a4:yK.length<=4) {x:bw} (hx:x.length=yK.length) :
  ∃ b,gQ N (bl n yK) (aI n) (aI yK.length) x 1=some b/\(b=true->FeasR N n yK x) /\
   ((∀ j,j<x.length->o8 (aH x j))->(∀ v,v<n->∃ j,j<x.length/\cell (bl n yK) v j=(1,1)/\aH x j=(1,1))->b=true):=by
 have l1:(aI n).length=n:=by unfold aI;simp
 have l2:(aI yK.length).length=yK.length:=by unfold aI;simp
 unfold gQ
 rw [Bv hN n1 n5 a1 a4,bs,ae,l2,show ((x.length:Int) != (yK.length:Int))=false by rw [mn];omega,ai]
 obtain ⟨s1,e1,h1⟩:=LW hN (x:=x) oa (sg:=1) (A:=bl n yK) (B:=aI n) (C:=aI yK.length) x.length 0 N oa oa
 have e1':eN N N x 1 (bl n yK) (aI n) (aI yK.length) 0=some s1:=e1
 rw [e1',bs]
 rcases h1 with ⟨rfl,j,_,h2,h3⟩ | ⟨z,rfl,h1⟩
 ·rw [nh]
  refine ⟨_,rfl,fun h=>(by cases h),fun hb _=>absurd ⟨DM hN (hb j h2),?_⟩ h3⟩
  rcases hb j h2 with e | e <;> rw [e] <;> decide
 ·rw [jh]
  have hsh:=qW (n:=n) (yK:=yK)
  have hrl:∀ i,i<(bl n yK).length->(bI (bl n yK) i).length=x.length:=fun i hi=>by rw [hsh.2 i (by rw [<- dG (n:=n) (yK:=yK)];exact hi),hx]
  obtain ⟨s2,e2,h2⟩:=Oa hN (A:=bl n yK) (x:=x) (by rw [dG];omega) oa hrl (bl n yK).length 0 N [] oa (by rw [dG];omega) rfl
  have e2':bF N N (bl n yK) x [] 0=some s2:=e2
  unfold dj
  rw [e2',bs]
  rcases h2 with rfl | ⟨y,z',rfl,hy,_,hv⟩
  ·rw [nh,bs]
   obtain ⟨s3,e3,_⟩:=Ff hN (y:=[]) (B:=aI n) (by decide) (cV _) (A:=bl n yK) (C:=aI yK.length) (u:=false) 0 0 N rfl oa
   have e3':dH N N 1 (bl n yK) (aI n) (aI yK.length) [] false 0=some s3:=e3
   dsimp only
   rw [e3',bs]
   have bad:¬ ((∀ j,j<x.length->o8 (aH x j))/\∀ v,v<n->∃ j,j<x.length/\cell (bl n yK) v j=(1,1)/\aH x j=(1,1)):=by
    rintro ⟨hb,hc⟩
    obtain ⟨y',z2,e4,_⟩:=IQ hN (A:=bl n yK) (x:=x) (by rw [dG];omega) oa hrl (fun i hi j hj=>by
     rw [dG] at hi
     rw [nc hi oa];exact oO _ _) hb (fun i hi=>hc i (by rw [dG] at hi;exact hi)) (bl n yK).length 0 N [] oa (by rw [dG];omega) rfl (fun a ha=>by omega)
    have:=e4.symm.trans e2
    cases this
   cases s3 with
   | inl q =>
    rw [nh]
    refine ⟨q,rfl,?_,fun hb hc=>absurd ⟨hb,hc⟩ bad⟩
    rename_i h6
    rcases h6 with ⟨h7,j,_,h8,_⟩ | ⟨z3,h7,_⟩
    ·exact absurd h8 (uV _)
    ·cases h7
   | inr q =>
    rw [jh]
    exact ⟨false,rfl,fun h=>(by cases h),fun hb hc=>absurd ⟨hb,hc⟩ bad⟩
  ·rw [jh,bs]
   rw [dG] at hy hv
   obtain ⟨s3,e3,h3⟩:=Ff hN (y:=y) (B:=aI n) oa oa (A:=bl n yK) (C:=aI yK.length) (u:=true) y.length 0 N oa oa
   have e3':dH N N 1 (bl n yK) (aI n) (aI yK.length) y true 0=some s3:=e3
   dsimp only
   rw [e3',bs]
   have vB:∀ j,j<n->VR N (aH (aI n) j)/\rv (aH (aI n) j)=1:=fun j hj=>by
    rw [qx hj]
    exact ⟨kn hN (by decide) (by decide),mI 1⟩
   rcases h3 with ⟨rfl,j,_,g1,g2⟩ | ⟨z3,rfl,g⟩
   ·rw [nh]
    refine ⟨false,rfl,fun h=>(by cases h),fun hb hc=>?_⟩
    exfalso
    obtain ⟨y',z2,e4,_,h5⟩:=IQ hN (A:=bl n yK) (x:=x) (by rw [dG];omega) oa hrl (fun i hi j hj=>by
     rw [dG] at hi
     rw [nc hi oa];exact oO _ _) hb (fun i hi=>hc i (by rw [dG] at hi;exact hi)) (bl n yK).length 0 N [] oa (by rw [dG];omega) rfl (fun a ha=>by omega)
    have h6:=e4.symm.trans e2
    have h7:y'=y:=by
     have:=bL h6
     injection this with this
     exact aX Prod.fst this
    subst h7
    obtain ⟨w,hw,w1,_⟩:=h5 j (by rw [dG];omega)
    have g3:=g2 (hv j oa oa).1 (vB j oa).1
    rw [(vB j oa).2,hw,mI] at g3
    have:((1:Int):Rat)<=(w:Rat):=rX.2 w1
    have e1:((1:Int):Rat)=1:=rfl
    grind
   ·rw [jh]
    refine ⟨true,rfl,fun _=>⟨hx,fun j hj=>h1 j oa hj,fun v hv'=>?_⟩,fun _ _=>rfl⟩
    obtain ⟨k1,k2⟩:=hv v oa hv'
    have g3:=g v oa oa k1 (vB v hv').1
    rw [(vB v hv').2,k2,hx] at g3
    exact Rat.not_lt.1 g3
end
def eL:Nat->Nat->Nat->List (yP)
 | 0,_,_=>[[]]
 | n+1,f,t=>(List.range' f (t-n-f)).flatMap fun i:Nat=>(eL n (i+1) t).map fun l=>(i:Int) :: l
theorem ua:∀ (n f t:Nat),(eL n f t).length<=t ^ n
 | 0,f,t=>by rw [Nat.pow_zero];exact bN 1
 | n+1,f,t=>by
  unfold eL
  have h:=nJ (g:=fun i:Nat=>(eL n (i+1) t).map fun l=>(i:Int) :: l) (k:=t ^ n) (fun i=>by rw [bT];exact ua n (i+1) t) (List.range' f (t-n-f))
  rw [ta] at h
  refine Nat.le_trans h ?_
  rw [oC,nA]
  exact Nat.mul_le_mul_left _ oa
theorem oD:∀ {n f t:Nat} {l:yP},l∈eL n f t->l.length=n/\∀ v∈l,(f:Int)<=v/\v<t
 | 0,f,t,l,h=>by
  rw [d7.1 h];exact ⟨rfl,by simp⟩
 | n+1,f,t,l,h=>by
  unfold eL at h
  obtain ⟨i,hi,h⟩:=pp.1 h
  obtain ⟨s,hs,rfl⟩:=dh.1 h
  obtain ⟨h1,h2⟩:=oD hs
  rw [tB] at hi
  refine ⟨by rw [b9,h1],fun v hv=>?_⟩
  rcases bX.1 hv with rfl | hv
  ·omega
  ·have:=h2 v hv;omega
theorem Cb:∀ {n f t:Nat} {l:List Nat},l.length=n->l.Pairwise (·<·)->(∀ v∈l,f<=v/\v<t)->l.map (fun v:Nat=>(v:Int))∈eL n f t
 | 0,f,t,l,h,_,_=>by
  rw [ko.1 h];exact d7.2 rfl
 | n+1,f,t,[],h,_,_=>by simp at h
 | n+1,f,t,i :: l,h,hp,hb=>by
  obtain ⟨p1,p2⟩:=jo.1 hp
  have hl:l.length=n:=by simpa using h
  have hi:=hb i cx
  have room:∀ (k a:Nat) (s:List Nat),s.length=k->s.Pairwise (·<·)->(∀ v∈s,a<v/\v<t)->a<t->a+k<t:=by
   intro k
   induction k with
   | zero=>intro a s _ _ _ h;omega
   | succ k ih =>
    intro a s hs hp2 hb2 hat
    cases s with
    | nil=>simp at hs
    | cons b s =>
     obtain ⟨q1,q2⟩:=jo.1 hp2
     have hb3:=hb2 b cx
     have:=ih b s (by simpa using hs) q2 (fun v hv=>⟨q1 v hv,(hb2 v (cD _ hv)).2⟩) hb3.2
     omega
  have hr:=room n i l hl p2 (fun v hv=>⟨p1 v hv,(hb v (cD _ hv)).2⟩) hi.2
  unfold eL
  refine pp.2 ⟨i,tB.2 ⟨hi.1,oa⟩,?_⟩
  rw [gH]
  exact dh.2 ⟨_,Cb hl p2 (fun v hv=>⟨p1 v hv,(hb v (cD _ hv)).2⟩),rfl⟩
theorem LQ {rec:Int->Int->Int->Option (List (yP))} {N:Nat} {t n i:Int} {acc rest:List (yP)} (hN:rest.length<N) (hr:rest.length<=100000) (ha:acc.length<=1000000) (hl:∀ l∈rest,l.length<=1000) :
  ib rec N N t n acc i rest 0=some (acc++rest.map (fun l=>i :: l),(rest.length:Int)):=by
 have h:=jv (fun k (o:List (yP)) j=>ib rec N k t n o i rest j) rest.length (fun j=>acc++(rest.take j).map fun l=>i :: l) (acc++rest.map (fun l=>i :: l),(rest.length:Int))
  (fun k j h=>by
   have hm:=hl _ (bA h)
   show ib rec N (k+1) t n (acc++(rest.take j).map fun l=>i :: l) i rest (j:Int)=ib rec N k t n (acc++(rest.take (j+1)).map fun l=>i :: l) i rest ((j+1:Nat):Int)
   rw [ib,dlt h,ae,bh h,bs,bB (by decide) (by rw [bP];omega),bs,bB (by decide) (by rw [bZ,bT,c5,bP];omega),bs,ad1 oa,bs,gR h,eU,eS]
   rfl)
  (fun k=>by
   show ib rec N (k+1) t n (acc++(rest.take rest.length).map fun l=>i :: l) i rest (rest.length:Int)=_
   rw [ib,dge oa,ai,gP]) N 0 oa oa
 rw [List.take_zero,ou,jI] at h
 exact h
theorem Gw {t n:Nat} (ht:t<=9) (hn:n<=4):t ^ n<=6561 :=
 Nat.le_trans (nX ht n) (Nat.le_trans (ka (by decide) hn) (by decide))
theorem wa:∀ (n M f t:Nat),n<=4->t<=9->f<=10->10000+n<M->iX M (f:Int) (t:Int) (n:Int)=some (eL n f t)
 | 0,M,f,t,_,_,_,hM=>by
  obtain ⟨M,rfl⟩:∃ k,M=k+1:=⟨M-1,oa⟩
  rw [iX,show (((0:Nat):Int) == 0)=true from rfl,ae];rfl
 | n+1,M,f,t,hn,ht,hf,hM=>by
  obtain ⟨M,rfl⟩:∃ k,M=k+1:=⟨M-1,oa⟩
  rw [iX,show (((n+1:Nat):Int) == 0)=false by rw [l8];omega,ai]
  have key:∀ (d i yN:Nat) (acc:List (yP)),t-n-i=d->d<yN->i<=10->acc.length+d*6561<=1000000 ->
    ∃ z,mj (iX M) M yN (t:Int) ((n+1:Nat):Int) acc (i:Int)=some (acc++(List.range' i d).flatMap (fun i:Nat=>(eL n (i+1) t).map fun l=>(i:Int) :: l),z):=by
   intro d
   induction d with
   | zero =>
    intro i yN acc hd hfu hi ha
    obtain ⟨yN,rfl⟩:∃ k,yN=k+1:=⟨yN-1,oa⟩
    rw [mj,bR oa oa,bs,aN oa,ai]
    refine ⟨(i:Int),?_⟩
    rw [List.range'_zero,List.flatMap_nil,jI]
   | succ d ih =>
    intro i yN acc hd hfu hi ha
    obtain ⟨yN,rfl⟩:∃ k,yN=k+1:=⟨yN-1,oa⟩
    have hlen:=Nat.le_trans (ua n (i+1) t) (Gw (n:=n) ht oa)
    have e1:iX M ((i:Int)+1) (t:Int) ((n+1:Nat)-1:Int)=some (eL n (i+1) t):=by
     have h:=wa n M (i+1) t oa ht oa oa
     rw [show ((i:Int)+1)=((i+1:Nat):Int) by omega,show (((n+1:Nat):Int)-1)=(n:Int) by omega]
     exact h
    rw [mj,bR oa oa,bs,aJ oa,ae,bR oa oa,bs,fL oa oa,bs,e1,bs,LQ oa oa oa (fun l hl=>by have:=(oD hl).1;omega),bs,lpB]
    dsimp only
    rw [bs]
    obtain ⟨z,h⟩:=ih (i+1) yN (acc++(eL n (i+1) t).map fun l=>(i:Int) :: l) oa oa oa (by rw [bZ,bT];omega)
    refine ⟨z,?_⟩
    rw [vt,th,<- eS]
    exact h
  obtain ⟨z,h⟩:=key (t-n-f) f M [] rfl oa hf (by rw [gu];omega)
  rw [h,bs,lpB,mc]
  rfl
def fV (n i:Nat):bw:=(List.replicate n (0,1)).set i (1,1)
def jg (A:bQ) (m n:Nat) (j:Nat):bw:=if j<m then bI A j else fV n (j-m)
def kE (m:Nat) (j:Nat):dK:=if j<m then (1,1) else (0,1)
def lg (l:yP):List Nat:=l.map Int.toNat
def fm (A:bQ) (m n:Nat) (l:yP):bQ:=(lg l).map (jg A m n)
def eT (m:Nat) (l:yP):bw:=(lg l).map (kE m)
section
variable {N:Nat}
theorem M8 (hN:1073741824<=N) {n:Nat} (hn:n<=1000) {sg m i k j:Int} {A a out:bQ} {B C b:bw} {l:List (yP)} :
  dN N N sg A B C out (n:Int) m l i a b k j [] 0=some (List.replicate n (0,1),(n:Int)) :=
 jv (fun q (o:bw) v=>dN N q sg A B C out (n:Int) m l i a b k j o v) n (fun v=>List.replicate v (0,1)) (List.replicate n (0,1),(n:Int))
  (fun q v h=>by
   show dN N (q+1) sg A B C out (n:Int) m l i a b k j (List.replicate v (0,1)) (v:Int)=dN N q sg A B C out (n:Int) m l i a b k j (List.replicate (v+1) (0,1)) ((v+1:Nat):Int)
   rw [dN,dlt h,ae,bB (by decide) (by rw [mb,bP];omega),bs,ad1 oa,bs,wV])
  (fun q=>by
   show dN N (q+1) sg A B C out (n:Int) m l i a b k j (List.replicate n (0,1)) (n:Int)=_
   rw [dN,dge oa,ai]) N 0 oa oa
theorem IM (hN:1073741824<=N) {n m:Nat} (hn:n<=4) (hm:m<=5) {sg:Int} {A out:bQ} {C:bw} (hA:A.length=m) {L:List (yP)} {i:Nat} (hi:i<L.length) (hl:L[i].length=n) (hb:∀ v∈L[i],0<=v/\v<(m+n:Nat)) :
  dr N N sg A (aI m) C out (n:Int) (m:Int) L (i:Int) [] [] 0=some (fm A m n L[i],eT m L[i],(n:Int)):=by
 have h:=jv (fun q (o:bQ × bw) k=>dr N q sg A (aI m) C out (n:Int) (m:Int) L (i:Int) o.1 o.2 k) n (fun k=>(fm A m n (L[i].take k),eT m (L[i].take k))) (fm A m n L[i],eT m L[i],(n:Int))
  (fun q k h=>by
   show dr N (q+1) sg A (aI m) C out (n:Int) (m:Int) L (i:Int) (fm A m n (L[i].take k)) (eT m (L[i].take k)) (k:Int)=dr N q sg A (aI m) C out (n:Int) (m:Int) L (i:Int) (fm A m n (L[i].take (k+1))) (eT m (L[i].take (k+1))) ((k+1:Nat):Int)
   have hk:k<L[i].length:=by omega
   have hv:=hb _ (bA hk)
   have l1:(fm A m n (L[i].take k)).length<=1000:=by unfold fm lg;rw [bT,bT,c5];omega
   have l2:(eT m (L[i].take k)).length<=1000:=by unfold eT lg;rw [bT,bT,c5];omega
   have eA:fm A m n (L[i].take (k+1))=fm A m n (L[i].take k)++[jg A m n L[i][k].toNat]:=by
    unfold fm lg
    rw [gR hk,eU,eU];rfl
   have eB:eT m (L[i].take (k+1))=eT m (L[i].take k)++[kE m L[i][k].toNat]:=by
    unfold eT lg
    rw [gR hk,eU,eU];rfl
   rw [dr,dlt h,ae,bh hi,bs,bh hk,bs,eA,eB]
   unfold jg kE
   obtain ⟨j,hj⟩:∃ j:Nat,L[i][k]=(j:Int):=⟨L[i][k].toNat,oa⟩
   rw [hj] at hv ⊢
   rw [eJ]
   by_cases hjm:j<m
   ·have ones:(aI m).length=m:=by unfold aI;simp
    rw [aJ oa,ae,aK hjm,aK hjm,ixM oa,bs,bB (by decide) (by rw [bP];omega),bs,jC oa,bs,qx hjm,bB (by decide) (by rw [bP];omega),bs,ad1 oa,bs]
   ·have hlr:j-m<(List.replicate n ((0:Int),(1:Int))).length:=by rw [mb];omega
    rw [aN oa,ai,aS hjm,aS hjm,M8 hN oa,bs,lpB]
    dsimp only
    rw [fL oa oa,bs,show ((j:Int)-(m:Int))=((j-m:Nat):Int) by omega,bh hlr,bs,ra hlr,bs,bB (by decide) (by rw [bP];omega),bs,bB (by decide) (by rw [bP];omega),bs,ad1 oa,bs]
    rfl)
  (fun q=>by
   show dr N (q+1) sg A (aI m) C out (n:Int) (m:Int) L (i:Int) (fm A m n (L[i].take n)) (eT m (L[i].take n)) (n:Int)=_
   rw [dr,dge oa,ai,<- hl,gP]) N 0 oa oa
 exact h
theorem Jj (hN:1073741824<=N) {a b:bw} (ha:a.length<=1000):∃ q,gh N a b=some q:=by
 unfold gh
 by_cases hl:a.length=b.length
 ·rw [show ((a.length:Int) != (b.length:Int))=false by rw [mn];omega,ai]
  have key:∀ (c k yN:Nat),k+c=a.length->c<yN->∃ s,cH N yN a b (k:Int)=some s:=by
   intro c
   induction c with
   | zero =>
    intro k yN hk hf
    obtain ⟨yN,rfl⟩:∃ k',yN=k'+1:=⟨yN-1,oa⟩
    rw [cH,aN oa,ai]
    exact ⟨_,rfl⟩
   | succ c ih =>
    intro k yN hk hf
    obtain ⟨yN,rfl⟩:∃ k',yN=k'+1:=⟨yN-1,oa⟩
    rw [cH,aJ oa,ae,jC oa,bs,jC oa,bs]
    cases (aH a k).1 == (aH b k).1&&(aH a k).2 == (aH b k).2 with
    | true =>
     rw [ae,bR oa oa,bs]
     exact ih (k+1) yN oa oa
    | false=>rw [ai];exact ⟨_,rfl⟩
  obtain ⟨s,e⟩:=key a.length 0 N oa oa
  have e':cH N N a b 0=some s:=e
  rw [e',bs]
  cases s with
  | inl q=>rw [nh];exact ⟨_,rfl⟩
  | inr q=>rw [jh];exact ⟨_,rfl⟩
 ·rw [show ((a.length:Int) != (b.length:Int))=true by rw [bne_iff_ne];omega,ae]
  exact ⟨_,rfl⟩
theorem Mc (hN:1073741824<=N) {sg n m i:Int} {A:bQ} {B C x:bw} {L:List (yP)} {out:bQ} (ho:out.length<=100000) (hl:∀ j,j<out.length->(bI out j).length<=1000):∀ (c k yN:Nat) (b:Bool),k+c=out.length->c<yN ->
  ∃ b' z,dp N yN sg A B C out n m L i x b (k:Int)=some (b',z)/\(out.length=0->b'=b):=by
 intro c
 induction c with
 | zero =>
  intro k yN b hk hf
  obtain ⟨yN,rfl⟩:∃ k',yN=k'+1:=⟨yN-1,oa⟩
  rw [dp,aN oa,ai]
  exact ⟨b,_,rfl,fun _=>rfl⟩
 | succ c ih =>
  intro k yN b hk hf
  obtain ⟨yN,rfl⟩:∃ k',yN=k'+1:=⟨yN-1,oa⟩
  rw [dp,aJ oa,ae]
  cases b with
  | true =>
   rw [ae,bR oa oa,bs]
   obtain ⟨b',z,e,_⟩:=ih (k+1) yN true oa oa
   exact ⟨b',z,e,fun h=>by omega⟩
  | false =>
   obtain ⟨q,eq⟩:=Jj hN (a:=bI out k) (b:=x) (hl k oa)
   rw [ai,ixM oa,bs,eq,bs,bR oa oa,bs]
   obtain ⟨b',z,e,_⟩:=ih (k+1) yN q oa oa
   exact ⟨b',z,e,fun h=>by omega⟩
def fw (N n:Nat) (yK:List aV) (x:bw):Prop:=FeasR N n yK x/\∃ l∈eL yK.length 0 (n+yK.length),cG N (fm (bl n yK) n yK.length l) (eT n l)=some (x,true)
theorem rM (n i:Nat):(fV n i).length=n:=by unfold fV;simp
theorem uY {n:Nat} {yK:List aV} {l:yP} (hl:l.length=yK.length):Shp yK.length yK.length (fm (bl n yK) n yK.length l):=by
 refine ⟨by unfold fm lg;rw [bT,bT,hl],fun i hi=>?_⟩
 have e:bI (fm (bl n yK) n yK.length l) i=jg (bl n yK) n yK.length (l[i]'oa).toNat:=by
  unfold bI fm lg
  simp [hl,hi]
 rw [e]
 unfold jg
 split
 ·rename_i h;exact qW.2 _ h
 ·exact rM _ _
theorem Ao (hN:1073741824<=N) {n:Nat} {yK:List aV} (n1:1<=n) (n5:n<=5) (a1:1<=yK.length) (a4:yK.length<=4) :
  ∃ P,eM N (bl n yK) (aI n) (aI yK.length)=some P/\P.length<=100000/\(∀ x∈P,fw N n yK x)/\((∃ x,fw N n yK x/\gQ N (bl n yK) (aI n) (aI yK.length) x 1=some true)->P≠[]):=by
 have l1:(aI n).length=n:=by unfold aI;simp
 have l2:(aI yK.length).length=yK.length:=by unfold aI;simp
 have hPl:=Nat.le_trans (ua yK.length 0 (n+yK.length)) (Gw oa a4)
 have ep:=wa yK.length N 0 (n+yK.length) a4 oa oa oa
 have hmem:=fun l (hl:l∈eL yK.length 0 (n+yK.length))=>oD hl
 have key:∀ (c i yN:Nat) (out:bQ),i+c=(eL yK.length 0 (n+yK.length)).length->c<yN->out.length<=i->(∀ x∈out,fw N n yK x) ->
   ∃ P z,cg N yN 1 (bl n yK) (aI n) (aI yK.length) out (yK.length:Int) (n:Int) (eL yK.length 0 (n+yK.length)) (i:Int)=some (P,z)/\P.length<=100000/\(∀ x∈P,fw N n yK x)/\(out≠[]->P≠[]) /\
    ∀ j (hj:j<(eL yK.length 0 (n+yK.length)).length),i<=j->(∃ x,cG N (fm (bl n yK) n yK.length (eL yK.length 0 (n+yK.length))[j]) (eT n (eL yK.length 0 (n+yK.length))[j])=some (x,true)/\gQ N (bl n yK) (aI n) (aI yK.length) x 1=some true)->P≠[]:=by
  intro c
  induction c with
  | zero =>
   intro i yN out hi hf hol hop
   obtain ⟨yN,rfl⟩:∃ k',yN=k'+1:=⟨yN-1,oa⟩
   rw [cg,aN oa,ai]
   exact ⟨out,_,rfl,oa,hop,id,fun j hj h=>by omega⟩
  | succ c ih =>
   intro i yN out hi hf hol hop
   obtain ⟨yN,rfl⟩:∃ k',yN=k'+1:=⟨yN-1,oa⟩
   have hiL:i<(eL yK.length 0 (n+yK.length)).length:=by omega
   obtain ⟨m1,m2⟩:=hmem _ (bA hiL)
   have hsh:=uY (n:=n) (yK:=yK) m1
   have hbl:(eT n (eL yK.length 0 (n+yK.length))[i]).length=yK.length:=by unfold eT lg;rw [bT,bT,m1]
   obtain ⟨x,ok,es,hsol⟩:=qd hN (n:=yK.length) oa hsh hbl
   rw [cg,aJ oa,ae,IM hN a4 n5 dG hiL m1 (fun v hv=>by have:=m2 v hv;omega),bs,lpB]
   dsimp only
   rw [es,bs]
   dsimp only
   cases ok with
   | false =>
    rw [ai,bR oa oa,bs]
    obtain ⟨P,z,e,g1,g2,g3,g4⟩:=ih (i+1) yN out oa oa oa hop
    refine ⟨P,z,e,g1,g2,g3,fun j hj hij hx=>?_⟩
    by_cases e:j=i
    ·subst e
     obtain ⟨x',e',_⟩:=hx
     rw [es] at e';cases e'
    ·exact g4 j hj oa hx
   | true =>
    have hxl:=(hsol rfl).1
    obtain ⟨b,eb,hb,_⟩:=FU hN n1 n5 a1 a4 (x:=x) hxl
    rw [ae,eb,bs]
    cases b with
    | false =>
     rw [ai,bR oa oa,bs]
     obtain ⟨P,z,e,g1,g2,g3,g4⟩:=ih (i+1) yN out oa oa oa hop
     refine ⟨P,z,e,g1,g2,g3,fun j hj hij hx=>?_⟩
     by_cases e:j=i
     ·subst e
      obtain ⟨x',e',e2⟩:=hx
      rw [es] at e'
      obtain rfl:x=x':=aX Prod.fst (bL e')
      rw [eb] at e2;cases e2
     ·exact g4 j hj oa hx
    | true =>
     have hpx:fw N n yK x:=⟨hb rfl,_,bA hiL,es⟩
     obtain ⟨k,z,ek,hk⟩:=Mc hN (sg:=1) (n:=(yK.length:Int)) (m:=(n:Int)) (i:=(i:Int)) (A:=bl n yK) (B:=aI n) (C:=aI yK.length) (x:=x) (L:=eL yK.length 0 (n+yK.length)) (out:=out) oa (fun j hj=>by
      have hm:bI out j∈out:=by unfold bI;simp [hj]
      have:=(hop _ hm).1.len
      omega) out.length 0 N false oa oa
     have ek':dp N N 1 (bl n yK) (aI n) (aI yK.length) out (yK.length:Int) (n:Int) (eL yK.length 0 (n+yK.length)) (i:Int) x false 0=some (k,z):=ek
     rw [ae,ek',bs,lpB]
     dsimp only
     cases k with
     | true =>
      rw [ae,bR oa oa,bs]
      obtain ⟨P,z,e,g1,g2,g3,g4⟩:=ih (i+1) yN out oa oa oa hop
      have hne:out≠[]:=fun h0=>by
       rw [h0] at hk
       exact absurd (hk rfl) (by decide)
      exact ⟨P,z,e,g1,g2,g3,fun _ _ _ _=>g3 hne⟩
     | false =>
      rw [ai,bB (by decide) (by rw [bP];omega),bs,bR oa oa,bs]
      obtain ⟨P,z,e,g1,g2,g3,g4⟩:=ih (i+1) yN (out++[x]) oa oa (by rw [bZ,bP];omega) (fun y hy=>by
       rcases cU.1 hy with h | h
       ·exact hop y h
       ·rw [d7.1 h];exact hpx)
      exact ⟨P,z,e,g1,g2,fun _=>g3 (by simp),fun _ _ _ _=>g3 (by simp)⟩
 obtain ⟨P,z,e,g1,g2,_,g4⟩:=key (eL yK.length 0 (n+yK.length)).length 0 N [] oa oa (cV _) (by simp)
 have e':cg N N 1 (bl n yK) (aI n) (aI yK.length) [] (yK.length:Int) (n:Int) (eL yK.length 0 (n+yK.length)) 0=some (P,z):=e
 have ep':iX N 0 ((n:Int)+(yK.length:Int)) (yK.length:Int)=some (eL yK.length 0 (n+yK.length)):=by
  rw [show ((n:Int)+(yK.length:Int))=((n+yK.length:Nat):Int) by omega]
  exact ep
 refine ⟨P,?_,g1,g2,?_⟩
 ·unfold eM oP
  rw [Bv hN n1 n5 a1 a4,bs,ae,l1,l2,bR oa oa,bs,ep',bs,e',bs,lpB,bs]
 ·rintro ⟨x,⟨_,l,hl,hs⟩,hside⟩
  obtain ⟨j,hj,rfl⟩:=gg hl
  exact g4 j hj (cV _) ⟨x,hs,hside⟩
end
section
variable {N:Nat}
theorem JA (hN:1073741824<=N) {a b K:Int} (hK:K=1\/K=2\/K=3) (ha:a=1\/a=K) (hb:b=1\/b=K):∃ g,gO N a b=some g/\∃ q,qt a g=some q/\ml q b=some (if b=1 then a else K):=by
 obtain ⟨g,e,g1,g2,g3,g4⟩:=uO (N:=N) hN (x:=a) (y:=b) oa oa oa
 have gp:=g3 (.inl oa)
 refine ⟨g,e,?_⟩
 have l1:=rO oa g1
 have l2:=rO oa g2
 by_cases h1:a=1
 ·obtain rfl:g=1:=by omega
  refine ⟨a,by rw [h1];rfl,?_⟩
  rw [fv (by rw [h1];omega) (by rw [h1];omega),h1,uR]
  split
  ·rename_i h;rw [h]
  ·rcases hb with h | h
   ·contradiction
   ·rw [h]
 ·by_cases h2:b=1
  ·obtain rfl:g=1:=by omega
   refine ⟨a,?_,?_⟩
   ·rcases hK with h | h | h <;> rcases ha with h3 | h3 <;> first | (exact absurd h3 h1) | (rw [h3,h];rfl)
   ·rw [aK h2,h2,fv oa oa,sh]
  ·have ea:a=K:=by omega
   have eb:b=K:=by omega
   have l3:=rO gp (g4 K (by rw [ea];exact Int.dvd_refl K) (by rw [eb];exact Int.dvd_refl K))
   obtain rfl:g=K:=by omega
   refine ⟨1,?_,?_⟩
   ·rcases hK with h | h | h <;> rw [ea,h] <;> rfl
   ·rw [aS h2,eb,fv oa oa,uR]
structure DenOk (N:Nat) (K:Int) (x:bw):Prop where
 hK:K=1\/K=2\/K=3
 len:x.length<=4
 ok:∀ j,j<x.length->VR N (aH x j)/\0<=(aH x j).1
 den:∀ j,j<x.length->(aH x j).2=1\/(aH x j).2=K
theorem DenOk.w (hN:1073741824<=N) {K:Int} {x:bw} (h:DenOk N K x):∀ i,i<x.length->wOk N (x.getD i (0,0))=true:=fun i hi=>by
 obtain ⟨h1,h2⟩:=h.ok i hi
 unfold VR at h1
 rw [s7] at h1
 unfold wOk
 have e:x.getD i (0,0)=aH x i:=rfl
 rw [e,h1,aJ h2];rfl
theorem LI (hN:1073741824<=N) {K:Int} {x:bw} (h:DenOk N K x):∀ (c k yN:Nat) (d:Int),k+c=x.length->c<yN->(d=1\/d=K) ->
  ∃ d' z,c4 N yN x d (k:Int)=some (.inr (d',z))/\(d'=1\/d'=K)/\(d=K->d'=K)/\∀ j,k<=j->j<x.length->(aH x j).2=1\/(aH x j).2=d':=by
 intro c
 induction c with
 | zero =>
  intro k yN d hk hf hd
  obtain ⟨yN,rfl⟩:∃ k',yN=k'+1:=⟨yN-1,oa⟩
  rw [c4,aN oa,ai]
  exact ⟨d,_,rfl,hd,id,fun j h1 h2=>by omega⟩
 | succ c ih =>
  intro k yN d hk hf hd
  obtain ⟨yN,rfl⟩:∃ k',yN=k'+1:=⟨yN-1,oa⟩
  have hx4:=h.len
  have hKK:=h.hK
  obtain ⟨h1,h2⟩:=h.ok k oa
  have h3:=h.den k oa
  obtain ⟨g,eg,q,eq,em⟩:=JA hN hKK hd h3
  unfold VR at h1
  rw [c4,aJ oa,ae,jC oa,bs,h1,bs,ae,bs,aN oa,ai,bs,eg,bs,eq,bs,bs,em,bs]
  have hd2:(if (aH x k).2=1 then d else K)=1\/(if (aH x k).2=1 then d else K)=K:=by
   split
   ·exact hd
   ·exact .inr rfl
  have hle:¬ (1000<(if (aH x k).2=1 then d else K)):=by rcases hd2 with h | h <;> rw [h] <;> omega
  rw [aN hle,ai,bR oa oa,bs]
  obtain ⟨d',z,e,g1,g2,g3⟩:=ih (k+1) yN _ oa oa hd2
  refine ⟨d',z,e,g1,fun hdK=>g2 (by rw [hdK];split <;> rfl),fun j hj hjl=>?_⟩
  by_cases ej:j=k
  ·subst ej
   by_cases h5:(aH x j).2=1
   ·exact .inl h5
   ·refine .inr ?_
    rw [g2 (by rw [aS h5])]
    rcases h3 with h | h
    ·contradiction
    ·exact h
  ·exact g3 j oa hjl
theorem Gl (hN:1073741824<=N) {K:Int} {x:bw} (h:DenOk N K x):∃ d:Int,(d=1\/d=K)/\cB N x=some (kI x d x.length,d)/\∀ j,j<x.length->∃ v:Int,(kI x d x.length).getD j 0=v/\0<=v/\(v:Rat)=(d:Rat)*rv (aH x j):=by
 obtain ⟨d,z,e,h1,_,h2⟩:=LI hN h x.length 0 N 1 oa (by have:=h.len;omega) (.inl rfl)
 have hKK:=h.hK
 have hx4:=h.len
 have e':c4 N N x 1 0=some (.inr (d,z)):=e
 refine ⟨d,h1,?_,fun j hj=>?_⟩
 ·unfold cB
  rw [e',bs,jh]
  dsimp only
  rw [CP hN oa (h.w hN) oa oa,bs,lpB]
 ·have hj2:=h2 j oa hj
  obtain ⟨g1,g2⟩:=h.ok j hj
  have ev:(kI x d x.length).getD j 0=(aH x j).1*d.tdiv (aH x j).2:=by
   unfold kI aH
   simp [hj]
  refine ⟨_,ev,?_,?_⟩
  ·refine qH g2 (Int.tdiv_nonneg oa oa)
  ·have hq:=oe hN g1
   have key:(d.tdiv (aH x j).2)*(aH x j).2=d:=by
    rcases hj2 with h | h
    ·rw [h,Int.tdiv_one,sh]
    ·rw [h,Int.tdiv_self oa,uR]
   have kR:((d.tdiv (aH x j).2:Int):Rat)*((aH x j).2:Rat)=(d:Rat):=by
    rw [<- kq,key]
   rw [kq]
   unfold rv
   rw [<- kR]
   grind
end
abbrev Q4:=(Int × Int × Int × Int) × Int
abbrev V4:=Int × Int × Int × Int
def lnI (e:V4) (y:V4):Int:=e.1*y.1+e.2.1*y.2.1+e.2.2.1*y.2.2.1+e.2.2.2*y.2.2.2
def wn:List Q4:=[((1,0,0,0),1),((0,1,0,0),1),((1,1,0,0),1),((0,0,1,0),1),((1,0,1,0),1),((0,1,1,0),1),((1,1,1,0),1),((0,0,0,1),1),((1,0,0,1),1),((0,1,0,1),1),((1,1,0,1),1),((0,0,1,1),1),((1,0,1,1),1),((0,1,1,1),1),((1,1,1,1),1),((1,0,0,0),0),((0,1,0,0),0),((0,0,1,0),0),((0,0,0,1),0)]
def Nk:List V4:=[(0,0,0,(-1)),(0,0,(-1),0),(0,(-1),0,0),((-1),0,0,0),((-1),0,0,1),((-1),0,1,0),(0,(-1),0,1),(0,0,(-1),1),(0,(-1),1,0),((-1),1,0,0),((-1),(-1),0,1),((-1),0,(-1),1),((-1),(-1),1,0),(0,(-1),(-1),1),((-1),0,1,(-1)),((-1),1,(-1),0),(0,(-1),1,(-1)),((-1),1,0,(-1)),((-1),0,1,1),((-1),1,0,1),(0,(-1),1,1),((-1),1,1,0),((-1),(-1),1,1),(0,0,(-1),(-1)),(0,(-1),0,(-1)),(0,(-1),(-1),0),((-1),0,0,(-1)),((-1),0,(-1),0),((-1),(-1),0,0),((-1),1,(-1),1),((-1),1,1,(-1)),((-1),(-1),(-1),1),((-1),(-1),1,(-1)),((-1),1,(-1),(-1)),(0,(-1),(-1),(-1)),((-1),0,(-1),(-1)),((-1),(-1),0,(-1)),((-1),(-1),(-1),0),((-1),(-1),(-1),(-1)),((-1),1,1,1),((-1),1,1,(-2)),((-1),1,(-1),2),((-1),1,(-2),1),((-1),1,2,(-1)),((-1),(-1),1,2),((-1),(-2),1,1),((-1),2,1,(-1)),((-2),(-1),1,1),((-2),1,(-1),1),((-1),(-1),2,1),((-1),2,(-1),1),((-2),1,1,(-1)),((-2),1,1,1),((-1),2,(-1),(-1)),((-1),(-1),2,(-1)),((-1),(-1),(-1),2)]
def d2 (a b c d:Int):Int:=a*d-b*c
def d3 (a b c d e f g h i:Int):Int:=a*d2 e f h i-b*d2 d f g i+c*d2 d e g h
def d4 (a b c d:V4):Int:=a.1*d3 b.2.1 b.2.2.1 b.2.2.2 c.2.1 c.2.2.1 c.2.2.2 d.2.1 d.2.2.1 d.2.2.2-a.2.1*d3 b.1 b.2.2.1 b.2.2.2 c.1 c.2.2.1 c.2.2.2 d.1 d.2.2.1 d.2.2.2+a.2.2.1*d3 b.1 b.2.1 b.2.2.2 c.1 c.2.1 c.2.2.2 d.1 d.2.1 d.2.2.2-a.2.2.2*d3 b.1 b.2.1 b.2.2.1 c.1 c.2.1 c.2.2.1 d.1 d.2.1 d.2.2.1
def cr (f:Q4->V4) (a b c d:Q4):Int:=d4 (f a) (f b) (f c) (f d)
def AP (a b c d:Q4):V4:=(cr (fun e=>(e.2,e.1.2)) a b c d,cr (fun e=>(e.1.1,e.2,e.1.2.2)) a b c d,cr (fun e=>(e.1.1,e.1.2.1,e.2,e.1.2.2.2)) a b c d,cr (fun e=>(e.1.1,e.1.2.1,e.1.2.2.1,e.2)) a b c d)
def Jq (y:V4):Bool:=decide (y.1.natAbs<=3)&&decide (y.2.1.natAbs<=3)&&decide (y.2.2.1.natAbs<=3)&&decide (y.2.2.2.natAbs<=3)
def IC:List Q4->Bool
 | [a,b,c,d]=>!(cr (fun e=>e.1) a b c d == 0)&&decide ((cr (fun e=>e.1) a b c d).natAbs<=3)&&Jq (AP a b c d)&&[a,b,c,d].all fun e=>lnI e.1 (AP a b c d) == cr (fun e=>e.1) a b c d*e.2
 | _=>false
def HG (F:List Q4):Bool:=Nk.any (fun k=>F.all fun e=>lnI e.1 k == 0)||IC F
def yf {α:Type}:Nat->List α->List (List α)
 | _,[]=>[[]]
 | 0,_ :: _=>[[]]
 | k+1,a :: l=>(yf k l).map (a :: ·)++yf (k+1) l
theorem N5:(yf 4 wn).all HG=true:=by decide +kernel
theorem xy {α:Type}:∀ {l s:List α} {k:Nat},s.Sublist l->s.length<=k->s∈yf k l
 | [],s,k,h,_=>by
  rw [List.sublist_nil.1 h]
  cases k <;> exact d7.2 rfl
 | a :: l,s,0,_,hk=>by
  rw [ko.1 (Nat.le_zero.1 hk)]
  exact d7.2 rfl
 | a :: l,s,k+1,h,hk=>by
  unfold yf
  cases h with
  | cons _ h=>exact jx _ (xy h hk)
  | cons_cons _ h=>exact ie _ (dh.2 ⟨_,xy h (by simpa using hk),rfl⟩)
abbrev R4:=Rat × Rat × Rat × Rat
def lnR (e:V4) (y:R4):Rat:=e.1*y.1+e.2.1*y.2.1+e.2.2.1*y.2.2.1+e.2.2.2*y.2.2.2
def vL (y:V4):R4:=(y.1,y.2.1,y.2.2.1,y.2.2.2)
theorem EH (e y:V4):lnR e (vL y)=((lnI e y:Int):Rat):=by
 unfold lnR vL lnI
 simp only [Rat.intCast_add,kq]
def Hb (x y:R4):R4:=(x.1+y.1,x.2.1+y.2.1,x.2.2.1+y.2.2.1,x.2.2.2+y.2.2.2)
def zl (c:Rat) (y:R4):R4:=(c*y.1,c*y.2.1,c*y.2.2.1,c*y.2.2.2)
theorem LR (e:V4) (x y:R4):lnR e (Hb x y)=lnR e x+lnR e y:=by
 unfold lnR Hb
 grind
theorem L5 (e:V4) (c:Rat) (y:R4):lnR e (zl c y)=c*lnR e y:=by
 unfold lnR zl
 grind
theorem KK:∀ k∈Nk,k≠(0,0,0,0):=by decide
theorem Ef {E:List Q4} (hE:∀ e∈E,e∈wn) (hl:E.length<=4) {x:R4} (hx:∀ e∈E,lnR e.1 x=(e.2:Rat)) (hu:∀ y:R4,(∀ e∈E,lnR e.1 y=(e.2:Rat))->y=x) :
  ∃ D:Int,D≠0/\D.natAbs<=3/\∃ y:V4,zl D x=vL y/\Jq y=true:=by
 have hF:wn.filter (fun e=>decide (e∈E))∈yf 4 wn:=by
  refine xy Aq ?_
  refine Nat.le_trans (List.Nodup.length_le_of_subset ?_ ?_) hl
  ·exact List.Nodup.sublist Aq (by decide)
  ·intro e he
   exact ny (jn.1 he).2
 have hFE:∀ e,e∈wn.filter (fun e=>decide (e∈E))↔e∈E:=by
  intro e
  rw [jn,dm]
  exact ⟨fun h=>h.2,fun h=>⟨hE e h,h⟩⟩
 have hs:=df.1 N5 _ hF
 generalize wn.filter (fun e=>decide (e∈E))=F at hF hFE hs
 unfold HG at hs
 rw [rQ] at hs
 rcases hs with hs | hs
 ·exfalso
  obtain ⟨k,hk,hs⟩:=List.any_eq_true.1 hs
  have h1:=hu (Hb x (vL k)) (fun e he=>by
   have h2:=df.1 hs e ((hFE e).2 he)
   rw [qk] at h2
   rw [LR,EH,h2,hx e he]
   exact Rat.add_zero _)
  have h3:∀ {a:Rat} {z:Int},a+(z:Rat)=a->z=0:=by
   intro a z h
   have h4:(z:Rat)=((0:Int):Rat):=by
    have e0:((0:Int):Rat)=0:=rfl
    rw [e0];grind
   exact Rat.intCast_inj.1 h4
  unfold Hb vL at h1
  have e1:=aX Prod.fst h1
  have e2:=aX (fun p:R4=>p.2.1) h1
  have e3:=aX (fun p:R4=>p.2.2.1) h1
  have e4:=aX (fun p:R4=>p.2.2.2) h1
  refine KK k hk ?_
  obtain ⟨k1,k2,k3,k4⟩:=k
  rw [show k1=0 from h3 e1,show k2=0 from h3 e2,show k3=0 from h3 e3,show k4=0 from h3 e4]
 ·match F,hs,hFE with
  | [a,b,c,d],hs,hFE =>
   unfold IC at hs
   rw [ce,ce,ce,dm] at hs
   obtain ⟨⟨⟨h1,h2⟩,ht⟩,h3⟩:=hs
   have hD:cr (fun e=>e.1) a b c d≠0:=by
    intro h
    rw [h] at h1
    exact absurd h1 (by decide)
   have h4:∀ e∈E,lnI e.1 (AP a b c d)=cr (fun e=>e.1) a b c d*e.2:=fun e he=>by
    have h5:=df.1 h3 e ((hFE e).2 he)
    rw [qk] at h5
    exact h5
   generalize cr (fun e=>e.1) a b c d=D at hD h2 h4
   generalize AP a b c d=y at h4 ht
   refine ⟨D,hD,h2,y,?_,ht⟩
   have hDR:(D:Rat)≠0:=fun h=>hD (vv.1 h)
   have h6:=hu (zl (D:Rat)⁻¹ (vL y)) (fun e he=>by
    rw [L5,EH,h4 e he,kq,<- Rat.mul_assoc,Rat.inv_mul_cancel _ hDR,Rat.one_mul])
   rw [<- h6]
   unfold zl vL
   simp only [<- Rat.mul_assoc,Rat.mul_inv_cancel _ hDR,Rat.one_mul]
def oX (y:R4):Nat->Rat
 | 0=>y.1
 | 1=>y.2.1
 | 2=>y.2.2.1
 | 3=>y.2.2.2
 | _=>0
def mk4 (g:Nat->Rat):R4:=(g 0,g 1,g 2,g 3)
theorem HH (g:Nat->Rat) {j:Nat} (h:j<4):oX (mk4 g) j=g j:=by
 match j,h with
 | 0,_=>rfl
 | 1,_=>rfl
 | 2,_=>rfl
 | 3,_=>rfl
theorem Jp (y:R4):mk4 (oX y)=y:=rfl
theorem Iy {g h:Nat->Rat} (e:∀ j,j<4->g j=h j):mk4 g=mk4 h:=by
 unfold mk4
 rw [e 0 (by decide),e 1 (by decide),e 2 (by decide),e 3 (by decide)]
theorem No {g:Nat->Rat}:∀ {n:Nat},n<=4->(∀ j,n<=j->j<4->g j=0)->d6 4 g=d6 n g:=by
 intro n hn h
 match n,hn,h with
 | 4,_,_=>rfl
 | 3,_,h =>
  have h3:=h 3 (by decide) (by decide)
  show d6 3 g+g 3=_
  rw [h3];grind
 | 2,_,h =>
  have h3:=h 3 (by decide) (by decide)
  have h2:=h 2 (by decide) (by decide)
  show d6 2 g+g 2+g 3=_
  rw [h3,h2];grind
 | 1,_,h =>
  have h3:=h 3 (by decide) (by decide)
  have h2:=h 2 (by decide) (by decide)
  have h1:=h 1 (by decide) (by decide)
  show d6 1 g+g 1+g 2+g 3=_
  rw [h3,h2,h1];grind
 | 0,_,h =>
  have h3:=h 3 (by decide) (by decide)
  have h2:=h 2 (by decide) (by decide)
  have h1:=h 1 (by decide) (by decide)
  have h0:=h 0 (by decide) (by decide)
  show d6 0 g+g 0+g 1+g 2+g 3=_
  rw [h3,h2,h1,h0];grind
theorem CM {g:Nat->Rat}:∀ {n:Nat},(∀ j,j<n->g j=0)->d6 n g=0
 | 0,_=>rfl
 | n+1,h=>by
  have h1:=CM (n:=n) fun j hj=>h j oa
  have h2:=h n oa
  unfold d6
  rw [h1,h2];grind
def qw (r:bw) (b:Int):Q4:=(((aH r 0).1,(aH r 1).1,(aH r 2).1,(aH r 3).1),b)
theorem Hr {r:dK} (h:o8 r):rv r=(r.1:Rat):=by
 rcases h with rfl | rfl
 ·exact mI 0
 ·exact mI 1
theorem Fw {r:bw} {na:Nat} (hl:r.length=na) (h4:na<=4) (hb:∀ j,j<na->o8 (aH r j)) (b:Int) (y:R4):lnR (qw r b).1 y=d6 na (fun j=>rv (aH r j)*oX y j):=by
 have h0:∀ j,na<=j->(aH r j).1=0:=fun j hj=>by
  unfold aH
  rw [nD,List.getElem?_eq_none oa];rfl
 have e1:d6 na (fun j=>rv (aH r j)*oX y j)=d6 na (fun j=>((aH r j).1:Rat)*oX y j):=gM fun j hj=>by rw [Hr (hb j hj)]
 rw [e1,<- No h4 fun j h1 h2=>by
  rw [h0 j h1]
  have:((0:Int):Rat)=0:=rfl
  rw [this];exact xr _]
 show _=(0:Rat)+_*_+_*_+_*_+_*_
 unfold lnR qw oX
 dsimp only
 grind
theorem Ce {n j:Nat} (h:j<n):aH (List.replicate n (0,1)) j=(0,1):=by
 unfold aH;simp [h]
theorem EK (y:R4):∀ j,j<4->lnR (qw (fV 4 j) 0).1 y=oX y j:=by
 intro j hj
 rw [Fw (rM 4 j) (bN 4) (fun i hi=>?_) 0 y]
 ·rw [zm hj fun i hi hij=>?_]
  ·have:aH (fV 4 j) j=(1,1):=by unfold fV;rw [sj (by rw [mb];exact hj),aK rfl]
   rw [this,mI]
   have e:((1:Int):Rat)=1:=rfl
   rw [e];grind
  ·have:aH (fV 4 j) i=(0,1):=by
    unfold fV
    rw [sj (by rw [mb];exact hj),aS hij]
    exact Ce hi
   rw [this,mI]
   have e:((0:Int):Rat)=0:=rfl
   rw [e];exact xr _
 ·unfold fV
  rw [sj (by rw [mb];exact hj)]
  split
  ·exact .inr rfl
  ·exact .inl (Ce hi)
theorem Kl:∀ a∈([0,1]:yP),∀ b∈([0,1]:yP),∀ c∈([0,1]:yP),∀ d∈([0,1]:yP),(a=0/\b=0/\c=0/\d=0)\/((a,b,c,d),(1:Int))∈wn:=by decide
theorem F4:∀ na,na<=4->∀ i,i<na->qw (fV na i) 0∈wn:=by
 intro na hna
 match na,hna with
 | 0,_=>intro i hi;exact absurd hi (uV i)
 | 1,_=>intro i hi;match i,hi with
  | 0,_=>decide
 | 2,_=>intro i hi;match i,hi with
  | 0,_=>decide
  | 1,_=>decide
 | 3,_=>intro i hi;match i,hi with
  | 0,_=>decide
  | 1,_=>decide
  | 2,_=>decide
 | 4,_=>intro i hi;match i,hi with
  | 0,_=>decide
  | 1,_=>decide
  | 2,_=>decide
  | 3,_=>decide
theorem CG {n i j:Nat} (hi:i<n) (hj:j<n):o8 (aH (fV n i) j):=by
 unfold fV
 rw [sj (by simpa using hi)]
 split
 ·exact .inr rfl
 ·refine .inl ?_
  unfold aH;simp [hj]
section
variable {N:Nat}
theorem w8 (hN:1073741824<=N) {n:Nat} {yK:List aV} (n5:n<=5) (a1:1<=yK.length) (a4:yK.length<=4) {x:bw} (hp:fw N n yK x) :
  ∃ K:Int,DenOk N K x/\∀ j,j<x.length->(K:Rat)*rv (aH x j)<=3:=by
 obtain ⟨F,l,hl,hs⟩:=hp
 obtain ⟨m1,m2⟩:=oD hl
 have hxl:=F.len
 have hsh:=uY (n:=n) (yK:=yK) m1
 have hbl:(eT n l).length=yK.length:=by unfold eT lg;rw [bT,bT,m1]
 obtain ⟨x',ok,es,hsol⟩:=qd hN (n:=yK.length) oa hsh hbl
 rw [hs] at es
 obtain ⟨rfl,rfl⟩:x=x'/\true=ok:=by
  have:=bL es
  exact ⟨aX Prod.fst this,aX Prod.snd this⟩
 obtain ⟨_,hv,hiff⟩:=hsol rfl
 have hrow:∀ i (hi:i<yK.length),bI (fm (bl n yK) n yK.length l) i=jg (bl n yK) n yK.length (l[i]'oa).toNat/\aH (eT n l) i=kE n (l[i]'oa).toNat:=fun i hi=>by
  constructor
  ·unfold bI fm lg
   simp [m1,hi]
  ·unfold aH eT lg
   simp [m1,hi]
 -- the rows are bits
 have hrb:∀ k:Nat,k<n+yK.length->(jg (bl n yK) n yK.length k).length=yK.length/\∀ j,j<yK.length->o8 (aH (jg (bl n yK) n yK.length k) j):=fun k hk=>by
  unfold jg
  split
  ·rename_i h
   refine ⟨qW.2 k h,fun j hj=>?_⟩
   have:aH (bI (bl n yK) k) j=cell (bl n yK) k j:=rfl
   rw [this,nc h hj]
   exact oO _ _
  ·exact ⟨rM _ _,fun j hj=>CG oa hj⟩
 have hlt:∀ i (hi:i<yK.length),(l[i]'oa).toNat<n+yK.length:=fun i hi=>by
  have:=m2 _ (bA (show i<l.length by omega))
  omega
 let E:List Q4:=(List.range' 0 yK.length).map (fun i=>qw (jg (bl n yK) n yK.length (l.getD i 0).toNat) (kE n (l.getD i 0).toNat).1)++(List.range' yK.length (4-yK.length)).map (fun j=>qw (fV 4 j) 0)
 have hgd:∀ i (hi:i<yK.length),l.getD i 0=l[i]'oa:=fun i hi=>by simp [m1,hi]
 have memE:∀ e,e∈E->(∃ i,∃ hi:i<yK.length,e=qw (bI (fm (bl n yK) n yK.length l) i) (aH (eT n l) i).1)\/∃ j,yK.length<=j/\j<4/\e=qw (fV 4 j) 0:=fun e he=>by
  rcases cU.1 he with h | h
  ·obtain ⟨i,hi,rfl⟩:=dh.1 h
   have hi:i<yK.length:=by simpa using hi
   refine .inl ⟨i,hi,?_⟩
   rw [(hrow i hi).1,(hrow i hi).2,hgd i hi]
  ·obtain ⟨j,hj,rfl⟩:=dh.1 h
   rw [tB] at hj
   exact .inr ⟨j,hj.1,oa,rfl⟩
 have inE1:∀ i,i<yK.length->qw (bI (fm (bl n yK) n yK.length l) i) (aH (eT n l) i).1∈E:=fun i hi=>by
  refine ie _ (dh.2 ⟨i,by simpa using hi,?_⟩)
  rw [(hrow i hi).1,(hrow i hi).2,hgd i hi]
 have inE2:∀ j,yK.length<=j->j<4->qw (fV 4 j) 0∈E:=fun j h1 h2 =>
  jx _ (dh.2 ⟨j,tB.2 ⟨h1,oa⟩,rfl⟩)
 have hrl:∀ i (hi:i<yK.length) (b:Int) (y:R4),lnR (qw (bI (fm (bl n yK) n yK.length l) i) b).1 y=d6 yK.length (fun j=>cv (fm (bl n yK) n yK.length l) i j*oX y j):=fun i hi b y=>by
  obtain ⟨k1,k2⟩:=hrb _ (hlt i hi)
  rw [(hrow i hi).1,Fw k1 a4 k2]
  refine gM fun j hj=>?_
  unfold cv cell
  rw [(hrow i hi).1]
 have hrhs:∀ i (hi:i<yK.length),rv (aH (eT n l) i)=((aH (eT n l) i).1:Rat):=fun i hi=>by
  rw [(hrow i hi).2]
  refine Hr ?_
  unfold kE
  split
  ·exact .inr rfl
  ·exact .inl rfl
 have hE:∀ e∈E,e∈wn:=fun e he=>by
  rcases memE e he with ⟨i,hi,rfl⟩ | ⟨j,h1,h2,rfl⟩
  ·obtain ⟨k1,k2⟩:=hrb _ (hlt i hi)
   rw [(hrow i hi).1,(hrow i hi).2]
   by_cases hn:(l[i]'oa).toNat<n
   ·have er:jg (bl n yK) n yK.length (l[i]'oa).toNat=bI (bl n yK) (l[i]'oa).toNat:=by unfold jg;rw [aK hn]
    have eb:kE n (l[i]'oa).toNat=(1,1):=by unfold kE;rw [aK hn]
    rw [eb]
    have hz:=F.ge _ hn
    rw [er] at k1 k2 ⊢
    have hbit:∀ j,(aH (bI (bl n yK) (l[i]'oa).toNat) j).1∈([0,1]:yP):=fun j=>by
     by_cases hj:j<yK.length
     ·rcases k2 j hj with h | h <;> rw [h] <;> decide
     ·have:(aH (bI (bl n yK) (l[i]'oa).toNat) j).1=0:=by
       unfold aH
       rw [nD,List.getElem?_eq_none oa];rfl
      rw [this];decide
    rcases Kl _ (hbit 0) _ (hbit 1) _ (hbit 2) _ (hbit 3) with ⟨z0,z1,z2,z3⟩ | h
    ·exfalso
     have hall:∀ j,j<yK.length->cv (bl n yK) (l[i]'oa).toNat j=0:=fun j hj=>by
      have hzj:(aH (bI (bl n yK) (l[i]'oa).toNat) j).1=0:=by
       match j,(show j<4 by omega) with
       | 0,_=>exact z0
       | 1,_=>exact z1
       | 2,_=>exact z2
       | 3,_=>exact z3
      exact Gq hzj
     rw [CM fun j hj=>by rw [hall j hj];exact xr _] at hz
     exact absurd hz (by decide)
    ·exact h
   ·have er:jg (bl n yK) n yK.length (l[i]'oa).toNat=fV yK.length ((l[i]'oa).toNat-n):=by unfold jg;rw [aS hn]
    have eb:kE n (l[i]'oa).toNat=(0,1):=by unfold kE;rw [aS hn]
    rw [er,eb]
    exact F4 _ a4 _ (by have:=hlt i hi;omega)
  ·exact F4 4 (bN 4) j h2
 have hEl:E.length<=4:=by
  show (List.map _ _++List.map _ _).length<=4
  rw [bZ,bT,bT,ta,ta]
  omega
 have hx4:∀ j,j<4->oX (mk4 fun j=>if j<yK.length then rv (aH x j) else 0) j=if j<yK.length then rv (aH x j) else 0:=fun j hj=>HH _ hj
 have hself:=(hiff fun j=>rv (aH x j)).2 fun j _=>rfl
 obtain ⟨D,D0,D3,y,hy,ht⟩:=Ef hE hEl (x:=mk4 fun j=>if j<yK.length then rv (aH x j) else 0) (fun e he=>by
  rcases memE e he with ⟨i,hi,rfl⟩ | ⟨j,h1,h2,rfl⟩
  ·rw [hrl i hi]
   show _=(((aH (eT n l) i).1:Int):Rat)
   rw [<- hrhs i hi,<- hself i hi]
   refine gM fun j hj=>?_
   rw [hx4 j oa,aK hj]
  ·rw [EK _ j h2,hx4 j h2,aS oa]
   rfl) (fun z hz=>by
  have h1:=(hiff (oX z)).1 fun i hi=>by
   have h2:=hz _ (inE1 i hi)
   rw [hrl i hi] at h2
   rw [hrhs i hi]
   exact h2
  rw [<- Jp z]
  refine Iy fun j hj=>?_
  by_cases hja:j<yK.length
  ·rw [aK hja];exact h1 j hja
  ·rw [aS hja]
   have h3:=hz _ (inE2 j oa hj)
   rw [EK _ j hj] at h3
   exact h3)
 have hcomp:∀ j,j<x.length->∃ w:Int,w.natAbs<=3/\(D:Rat)*rv (aH x j)=(w:Rat):=fun j hj=>by
  have hja:j<yK.length:=by omega
  have h1:=aX (fun z=>oX z j) hy
  unfold Jq at ht
  simp only [ce,dm] at ht
  have h2:oX (zl (D:Rat) (mk4 fun j=>if j<yK.length then rv (aH x j) else 0)) j=(D:Rat)*rv (aH x j):=by
   have h3:oX (zl (D:Rat) (mk4 fun j=>if j<yK.length then rv (aH x j) else 0)) j=(D:Rat)*(if j<yK.length then rv (aH x j) else 0):=by
    match j,(show j<4 by omega) with
    | 0,_=>rfl
    | 1,_=>rfl
    | 2,_=>rfl
    | 3,_=>rfl
   rw [h3,aK hja]
  rw [h2] at h1
  match j,(show j<4 by omega),h1 with
  | 0,_,h1=>exact ⟨y.1,ht.1.1.1,h1⟩
  | 1,_,h1=>exact ⟨y.2.1,ht.1.1.2,h1⟩
  | 2,_,h1=>exact ⟨y.2.2.1,ht.1.2,h1⟩
  | 3,_,h1=>exact ⟨y.2.2.2,ht.2,h1⟩
 have hden:∀ j,j<x.length->(aH x j).2 ∣ D:=fun j hj=>by
  obtain ⟨w,_,hw⟩:=hcomp j hj
  obtain ⟨g1,_⟩:=F.ok j hj
  have hq:=oe hN g1
  have hg:=((gT hN).1 g1).2.2.2.2
  have h1:((D*(aH x j).1:Int):Rat)=((w*(aH x j).2:Int):Rat):=by
   rw [kq,kq,<- hw]
   unfold rv
   grind
  have h2:=Rat.intCast_inj.1 h1
  have h3:(aH x j).2 ∣ D*(aH x j).1:=by rw [h2];exact Int.dvd_mul_left _ _
  have h4:=Int.natAbs_dvd_natAbs.2 h3
  rw [Int.natAbs_mul] at h4
  have h5:Nat.Coprime (aH x j).2.natAbs (aH x j).1.natAbs:=by
   unfold Nat.Coprime
   rw [Nat.gcd_comm]
   exact hg
  exact Int.natAbs_dvd_natAbs.1 (h5.dvd_of_dvd_mul_right h4)
 refine ⟨(D.natAbs:Int),⟨oa,oa,F.ok,fun j hj=>?_⟩,fun j hj=>?_⟩
 ·have h1:=hden j hj
  have h2:(aH x j).2 ∣ (D.natAbs:Int):=Int.dvd_natAbs.2 h1
  have h3:=((gT hN).1 (F.ok j hj).1).1
  have h4:=rO oa h2
  generalize (aH x j).2=q at h2 h3 h4
  by_cases e1:q=1
  ·exact .inl e1
  ·by_cases e2:q=(D.natAbs:Int)
   ·exact .inr e2
   ·have e3:q=2:=by omega
    have e4:(D.natAbs:Int)=3:=by omega
    rw [e3,e4] at h2
    exact absurd h2 (by decide)
 ·obtain ⟨w,w3,hw⟩:=hcomp j hj
  have h0:0<=rv (aH x j):=by
   have h1:=(F.ok j hj).2
   have h3:=((gT hN).1 (F.ok j hj).1).1
   unfold rv
   rw [nB]
   exact mo (uF.2 h1) (qB (Rat.inv_pos.2 (uI.2 oa)))
  have e3:((3:Int):Rat)=3:=rfl
  rcases Int.natAbs_eq D with e | e
  ·rw [<- e,hw,<- e3]
   exact rX.2 oa
  ·have h5:((D.natAbs:Int):Rat)*rv (aH x j)=((-w:Int):Rat):=by
    have h6:(D.natAbs:Int)=-D:=by omega
    rw [h6,wX,wX,Rat.neg_mul,hw]
   rw [h5,<- e3]
   exact rX.2 oa
end
def wtL (k:Nat->Nat) (I:List Nat):List Nat:=I.flatMap fun i=>List.replicate (k i) i
theorem Hc (c:Nat->Bool) (m i:Nat):((List.replicate m i).filter c).length=if c i=true then m else 0:=by
 rw [List.filter_replicate]
 split <;> simp
theorem Fe (c:Nat->Bool) (k:Nat->Nat):∀ I:List Nat,((wtL k I).filter c).length=smN (I.map fun i=>if c i=true then k i else 0)
 | []=>rfl
 | i :: I=>by
  have ih:=Fe c k I
  unfold wtL at ih ⊢
  rw [th,uP,bZ,Hc,ih];rfl
theorem yb:∀ a b:List Nat,prN (a++b)=prN a*prN b
 | [],b=>by rw [mc];exact (jL _).symm
 | x :: a,b=>by
  have:=yb a b
  show x*prN (a++b)=x*prN a*prN b
  rw [this,Nat.mul_assoc]
theorem LT (m x:Nat):prN (List.replicate m x)=x ^ m:=by
 induction m with
 | zero=>rfl
 | succ m ih =>
  rw [Bs,oC,nA]
  show x*prN (List.replicate m x)=_
  rw [ih]
theorem IW (k f:Nat->Nat):∀ I:List Nat,prN ((wtL k I).map f)=prN (I.map fun i=>f i ^ k i)
 | []=>rfl
 | i :: I=>by
  have ih:=IW k f I
  unfold wtL at ih ⊢
  rw [th,eU,yb,ih,List.map_replicate,LT];rfl
theorem EM (k:Nat->Nat):∀ n:Nat,d6 n (fun j=>((k j:Nat):Rat))=((smN ((List.range' 0 n).map k):Nat):Rat)
 | 0=>rfl
 | n+1=>by
  have ih:=EM k n
  rw [pf,eU,wb]
  unfold d6
  rw [ih,uC]
  simp only [dA,jL,gH,ou]
  congr 1
theorem El {g:Nat->Rat} {c:Rat}:∀ n:Nat,c*d6 n g=d6 n (fun j=>c*g j)
 | 0=>by unfold d6;grind
 | n+1=>by
  have:=El (g:=g) (c:=c) n
  unfold d6
  rw [<- this];grind
section
variable {N:Nat}
theorem oo (hN:1073741824<=N) {n:Nat} {yK:List aV} (n5:n<=5) (a1:1<=yK.length) (a4:yK.length<=4) {x:bw} (hp:fw N n yK x) :
  ∃ (d:Nat) (k:Nat->Nat),1<=d/\d<=3/\(∀ i,i<yK.length->k i<=3)/\cB N x=some ((List.range' 0 yK.length).map (fun i:Nat=>(k i:Int)),(d:Int))/\Cov yK n (wtL k (List.range' 0 yK.length)) d:=by
 obtain ⟨K,hD,hK⟩:=w8 hN n5 a1 a4 hp
 obtain ⟨F,_⟩:=hp
 have hxl:=F.len
 obtain ⟨d,hd,es,hv⟩:=Gl hN hD
 have hKK:=hD.hK
 have hd3:1<=d/\d<=3/\d<=K:=by omega
 refine ⟨d.toNat,fun i=>((kI x d x.length).getD i 0).toNat,oa,oa,fun i hi=>?_,?_,?_⟩
 ·obtain ⟨v,e,v0,ev⟩:=hv i oa
  have h1:=hK i oa
  have h0:0<=rv (aH x i):=by
   have h1:=(F.ok i oa).2
   have h3:=((gT hN).1 (F.ok i oa).1).1
   unfold rv
   rw [nB]
   exact mo (uF.2 h1) (qB (Rat.inv_pos.2 (uI.2 oa)))
  have h2:(d:Rat)*rv (aH x i)<=(K:Rat)*rv (aH x i):=Be (rX.2 hd3.2.2) h0
  have h3:(v:Rat)<=((3:Int):Rat):=by
   rw [ev]
   exact uX h2 h1
  have h4:=rX.1 h3
  show ((kI x d x.length).getD i 0).toNat<=3
  rw [e];omega
 ·rw [es,u9 oa]
  congr 2
  have hl:(kI x d x.length).length=yK.length:=by unfold kI;simp [hxl]
  refine kS (by rw [hl];simp) fun i h1 h2=>?_
  obtain ⟨v,e,v0,_⟩:=hv i oa
  rw [bu h1] at e
  simp only [iS,pu,dA,jL]
  rw [bu h1,e,u9 v0]
 ·refine ⟨oa,fun i hi=>?_,fun v h0 h1=>?_⟩
  ·unfold wtL at hi
   obtain ⟨j,hj,h⟩:=pp.1 hi
   rw [wW h]
   simpa using hj
  ·rw [Fe]
   obtain ⟨u,rfl⟩:∃ u:Nat,v=(u:Int):=⟨v.toNat,oa⟩
   have hg:=F.ge u oa
   have h2:(d:Rat)*1<=(d:Rat)*d6 yK.length (fun j=>cv (bl n yK) u j*rv (aH x j)):=vd hg (uF.2 oa)
   rw [El,gM (h:=fun j=>(((if decide ((u:Int)∈(dz yK j).2)=true then ((kI x d x.length).getD j 0).toNat else 0:Nat):Nat):Rat)) fun j hj=>by
    obtain ⟨w,e,w0,ew⟩:=hv j oa
    have hb:cv (bl n yK) u j=if decide ((u:Int)∈(dz yK j).2)=true then 1 else 0:=by
     unfold cv
     rw [nc oa hj]
     unfold mP
     cases decide ((u:Int)∈(dz yK j).2) with
     | true=>rw [ae,aK rfl,mI];rfl
     | false=>rw [ai,aS (by decide),mI];rfl
    have hw:((w.toNat:Nat):Rat)=(w:Rat):=by
     rw [<- Rat.intCast_natCast,u9 w0]
    rw [hb]
    split
    ·rw [e,hw,ew];grind
    ·have e0:((0:Nat):Rat)=0:=rfl
     rw [e0];grind,EM] at h2
   have h3:((d.toNat:Nat):Rat)=(d:Rat):=by rw [<- Rat.intCast_natCast,u9 oa]
   rw [Rat.mul_one,<- h3] at h2
   exact Rat.natCast_le_natCast.1 h2
end
def Ai {α:Type}:List (List α)->List (List α)
 | []=>[[]]
 | l :: ls=>l.flatMap fun a=>(Ai ls).map fun s=>a :: s
theorem vN {ι α:Type} {f:ι->List α} {g:ι->α}:∀ {I:List ι},(∀ i∈I,g i∈f i)->I.map g∈Ai (I.map f)
 | [],_=>d7.2 rfl
 | i :: I,h=>pp.2 ⟨g i,h i cx,dh.2 ⟨_,vN fun j hj=>h j (cD _ hj),rfl⟩⟩
def ya (na:Nat) (S:List Nat) (i:Nat):List bw:=Ai ((List.range' 0 na).map fun j=>bif S.contains j then [bif Nat.beq j i then (1,1) else (0,1)] else [(0,1),(1,1)])
def xQ (na:Nat) (S:List Nat):List Nat:=(List.range' 0 na).filter fun j=>!S.contains j
def ptS (na:Nat) (S:List Nat):bw:=(List.range' 0 na).map fun j=>bif S.contains j then (1,1) else (0,1)
def Gu (na:Nat) (S:List Nat) (R:bQ):bQ:=R++(xQ na S).map (fV na)
def GS (na:Nat) (S:List Nat):bw:=S.map (fun _=>(1,1))++(xQ na S).map fun _=>(0,1)
def NR (M na:Nat) (S:List Nat) (R:bQ):Bool:=decide (cG (M+100) (Gu na S R) (GS na S)=some (ptS na S,true))
def GI (na s:Nat):List (List Nat):=(Ai (List.replicate s (List.range' 0 na))).filter fun S=>decide S.Nodup
def tC (M na s:Nat):Bool:=(GI na s).all fun S=>(Ai (S.map (ya na S))).all fun R=>NR M na S R
theorem Oz (M:Nat):tC M 1 1=true:=by kernel_rfl
theorem N4 (M:Nat):(tC M 2 1&&tC M 2 2)=true:=by kernel_rfl
theorem OB (M:Nat):(tC M 3 1&&(tC M 3 2&&tC M 3 3))=true:=by kernel_rfl
theorem N7 (M:Nat):tC M 4 1=true:=by kernel_rfl
theorem NW (M:Nat):tC M 4 2=true:=by kernel_rfl
theorem N1 (M:Nat):tC M 4 3=true:=by kernel_rfl
theorem N3 (M:Nat):tC M 4 4=true:=by kernel_rfl
theorem Ov (bit:Nat->Nat->Bool) (n:Nat):∀ (m:Nat) (S:List Nat),S.length<=m->S.Nodup->(∀ v,v<n->∃ j∈S,bit v j=true) ->
  ∃ S':List Nat,S'.Nodup/\(∀ j∈S',j∈S)/\(∀ v,v<n->∃ j∈S',bit v j=true)/\∀ i∈S',∃ v,v<n/\bit v i=true/\∀ j∈S',j≠i->bit v j=false:=by
 intro m
 induction m with
 | zero =>
  intro S hm hn hc
  have:S=[]:=ko.1 oa
  subst this
  exact ⟨[],hn,fun _ h=>h,hc,by simp⟩
 | succ m ih =>
  intro S hm hn hc
  by_cases h:∃ i∈S,∀ v,v<n->∃ j∈S.erase i,bit v j=true
  ·obtain ⟨i,hi,h⟩:=h
   have hl:=Az hi
   obtain ⟨S',h1,h2,h3,h4⟩:=ih (S.erase i) oa (hn.erase i) h
   exact ⟨S',h1,fun j hj=>List.mem_of_mem_erase (h2 j hj),h3,h4⟩
  ·refine ⟨S,hn,fun _ h=>h,hc,fun i hi=>?_⟩
   have h1:¬ ∀ v,v<n->∃ j∈S.erase i,bit v j=true:=fun h2=>h ⟨i,hi,h2⟩
   obtain ⟨v,h2⟩:=Classical.not_forall.1 h1
   have hv:v<n:=nC fun h3=>h2 fun h4=>absurd h4 h3
   have h5:∀ j∈S,j≠i->bit v j=false:=fun j hj hji=>by
    cases hb:bit v j with
    | false=>rfl
    | true=>exact absurd (fun _=>⟨j,(List.mem_erase_of_ne hji).2 hj,hb⟩) h2
   obtain ⟨j,hj,hb⟩:=hc v hv
   by_cases e:j=i
   ·subst e;exact ⟨v,hv,hb,h5⟩
   ·rw [h5 j hj e] at hb;cases hb
theorem Ca {S:List Nat} {na:Nat} (hn:S.Nodup) (hb:∀ j∈S,j<na):S.length+(xQ na S).length=na:=by
 have h1:((List.range' 0 na).filter fun j=>S.contains j).length=S.length:=by
  refine Nat.le_antisymm (List.Nodup.length_le_of_subset (List.Nodup.sublist Aq List.nodup_range') fun j hj=>?_) (List.Nodup.length_le_of_subset hn fun j hj=>?_)
  ·simpa using (jn.1 hj).2
  ·exact jn.2 ⟨by simpa using hb j hj,by simpa using hj⟩
 have h2:∀ I:List Nat,(I.filter fun j=>S.contains j).length+(I.filter fun j=>!S.contains j).length=I.length:=by
  intro I
  induction I with
  | nil=>rfl
  | cons i I ih =>
   rw [qy,qy]
   cases S.contains i
   ·simp only [Bool.not_false,if_true,xn,nv,b9];omega
   ·simp only [Bool.not_true,if_true,xn,nv,b9];omega
 have h3:=h2 (List.range' 0 na)
 rw [ta,h1] at h3
 exact h3
theorem Lx {M na:Nat} (h4:na<=4) {S:List Nat} (hn:S.Nodup) (hb:∀ j∈S,j<na) (hs:S≠[]) {R:bQ} (hR:R∈Ai (S.map (ya na S))):cG (M+100) (Gu na S R) (GS na S)=some (ptS na S,true):=by
 have hl:=Ca hn hb
 have hp:=uZ.2 hs
 have key:tC M na S.length=true:=by
  have c2:=N4 M
  have c3:=OB M
  simp only [ce] at c2 c3
  match na,h4,S.length,(show S.length<=na by omega),hp with
  | 0,_,k,h1,h2=>omega
  | 1,_,1,_,_=>exact Oz M
  | 2,_,1,_,_=>exact c2.1
  | 2,_,2,_,_=>exact c2.2
  | 3,_,1,_,_=>exact c3.1
  | 3,_,2,_,_=>exact c3.2.1
  | 3,_,3,_,_=>exact c3.2.2
  | 4,_,1,_,_=>exact N7 M
  | 4,_,2,_,_=>exact NW M
  | 4,_,3,_,_=>exact N1 M
  | 4,_,4,_,_=>exact N3 M
 have hm:S∈GI na S.length:=by
  unfold GI
  rw [jn,dm]
  refine ⟨?_,hn⟩
  have h:=vN (f:=fun _:Nat=>List.range' 0 na) (g:=fun j=>j) (I:=S) fun j hj=>by simpa using hb j hj
  rw [List.map_id'] at h
  have e:S.map (fun _:Nat=>List.range' 0 na)=List.replicate S.length (List.range' 0 na):=List.map_const' ..
  rw [e] at h
  exact h
 have h1:=df.1 (df.1 key S hm) R hR
 exact ny h1
section
variable {N:Nat}
theorem y4 (hN:1073741824<=N) {n:Nat} {yK:List aV} (n1:1<=n) (n5:n<=5) (a1:1<=yK.length) (a4:yK.length<=4) (hc:∀ v,v<n->∃ j,j<yK.length/\((v:Nat):Int)∈(dz yK j).2) :
  ∃ x,fw N n yK x/\gQ N (bl n yK) (aI n) (aI yK.length) x 1=some true:=by
 obtain ⟨S,s1,s2,s3,s4⟩:=Ov (fun v j=>decide ((v:Int)∈(dz yK j).2)) n yK.length (List.range' 0 yK.length) (by simp) List.nodup_range' fun v hv=>by
  obtain ⟨j,h1,h2⟩:=hc v hv
  exact ⟨j,by simpa using h1,aJ h2⟩
 have hpx:∀ i,∃ v,i∈S->v<n/\decide (((v:Nat):Int)∈(dz yK i).2)=true/\∀ j∈S,j≠i->decide (((v:Nat):Int)∈(dz yK j).2)=false:=fun i=>by
  by_cases h:i∈S
  ·obtain ⟨v,h1⟩:=s4 i h
   exact ⟨v,fun _=>h1⟩
  ·exact ⟨0,fun h'=>absurd h' h⟩
 obtain ⟨p,hp⟩:=Classical.skolem.1 hpx
 have inj:∀ i∈S,∀ j∈S,p i=p j->i=j:=fun i hi j hj e=>by
  refine nC fun hne=>?_
  have h1:=(hp i hi).2.2 j hj fun h=>hne h.symm
  have h2:=(hp j hj).2.1
  rw [<- e,h1] at h2;cases h2
 -- in the yL of the rows
 have hperm:=List.mergeSort_perm S (fun a b=>decide (p a<=p b))
 have hsort:(S.mergeSort fun a b=>decide (p a<=p b)).Pairwise fun a b=>decide (p a<=p b)=true :=
  List.pairwise_mergeSort (le:=fun a b=>decide (p a<=p b)) (fun a b c h1 h2=>aJ (Nat.le_trans (ny h1) (ny h2))) (fun a b=>by
   rcases Nat.le_total (p a) (p b) with h | h
   ·rw [aJ h];rfl
   ·rw [aJ h,Bool.or_true]) S
 generalize S.mergeSort (fun a b=>decide (p a<=p b))=T at hperm hsort
 have hT:∀ j,j∈T↔j∈S:=fun j=>hperm.mem_iff
 have tn:T.Nodup:=hperm.nodup_iff.2 s1
 have tb:∀ j∈T,j<yK.length:=fun j hj=>by simpa using s2 j ((hT j).1 hj)
 have tne:T≠[]:=fun e=>by
  obtain ⟨j,hj,_⟩:=s3 0 oa
  rw [<- hT j,e] at hj;cases hj
 have hlen:=Ca tn tb
 have hrowB:∀ i∈T,bI (bl n yK) (p i)=(List.range' 0 yK.length).map fun j=>mP (dz yK j) (p i:Int):=fun i hi=>by
  have hpi:=(hp i ((hT i).1 hi)).1
  refine kS (by rw [qW.2 _ hpi];simp) fun j h1 h2=>?_
  have hj:j<yK.length:=by rw [qW.2 _ hpi] at h1;exact h1
  have h3:=nc (yK:=yK) hpi hj
  unfold cell aH at h3
  rw [iS,pu,dA,jL,<- h3]
  simp [h1]
 have hR:T.map (fun i=>bI (bl n yK) (p i))∈Ai (T.map (ya yK.length T)):=vN fun i hi=>by
  rw [hrowB i hi]
  unfold ya
  refine vN fun j hj=>?_
  obtain ⟨_,g2,g3⟩:=hp i ((hT i).1 hi)
  by_cases hjT:j∈T
  ·rw [show T.contains j=true by simpa using hjT,ae,d7]
   unfold mP
   by_cases e:j=i
   ·subst e
    rw [g2,show Nat.beq j j=true from Nat.beq_refl j,ae]
   ·rw [g3 j ((hT j).1 hjT) e,show Nat.beq j i=false from by
     cases hb:Nat.beq j i with
     | false=>rfl
     | true=>exact absurd (tv hb) e,ai]
  ·rw [show T.contains j=false by simpa using hjT,ai]
   unfold mP
   cases decide ((p i:Int)∈(dz yK j).2)
   ·exact cx
   ·exact cD _ cx
 obtain ⟨M,rfl⟩:∃ M,N=M+100:=⟨N-100,oa⟩
 have hsol:=Lx (M:=M) a4 tn tb tne hR
 -- the pick
 let l:List Nat:=T.map p++(xQ yK.length T).map fun j=>n+j
 have hll:l.length=yK.length:=by
  show (T.map p++(xQ yK.length T).map fun j=>n+j).length=_
  rw [bZ,bT,bT];exact hlen
 have hasc:l.Pairwise (·<·):=by
  refine uD.2 ⟨?_,?_,fun a ha b hb=>?_⟩
  ·rw [List.pairwise_map]
   refine (List.Pairwise.and hsort tn).imp_of_mem fun {a b} ha hb h=>?_
   have h1:p a<=p b:=ny h.1
   have h2:p a≠p b:=fun e=>h.2 (inj a ((hT a).1 ha) b ((hT b).1 hb) e)
   omega
  ·rw [List.pairwise_map]
   have:(xQ yK.length T).Pairwise (·<·):=List.Pairwise.sublist Aq List.pairwise_lt_range'
   exact this.imp fun h=>by omega
  ·obtain ⟨i,hi,rfl⟩:=dh.1 ha
   obtain ⟨j,_,rfl⟩:=dh.1 hb
   have:=(hp i ((hT i).1 hi)).1
   omega
 have hlb:∀ v∈l,0<=v/\v<n+yK.length:=fun v hv=>by
  refine ⟨cV v,?_⟩
  rcases cU.1 hv with h | h
  ·obtain ⟨i,hi,rfl⟩:=dh.1 h
   have:=(hp i ((hT i).1 hi)).1
   omega
  ·obtain ⟨j,hj,rfl⟩:=dh.1 h
   have:j<yK.length:=by simpa using (jn.1 hj).1
   omega
 have hpick:=Cb hll hasc hlb
 have enat:lg (l.map fun v:Nat=>(v:Int))=l:=by
  unfold lg
  rw [nx]
  have:(Int.toNat ∘ fun v:Nat=>(v:Int))=id:=funext fun v=>eJ v
  rw [this,List.map_id]
 have eA:fm (bl n yK) n yK.length (l.map fun v:Nat=>(v:Int))=Gu yK.length T (T.map fun i=>bI (bl n yK) (p i)):=by
  unfold fm Gu
  rw [enat]
  show (T.map p++(xQ yK.length T).map fun j=>n+j).map _=_
  rw [eU,nx,nx]
  congr 1
  ·refine n6 fun i hi=>?_
   show jg (bl n yK) n yK.length (p i)=_
   unfold jg
   rw [aK (hp i ((hT i).1 hi)).1]
  ·refine n6 fun j _=>?_
   show jg (bl n yK) n yK.length (n+j)=_
   unfold jg
   rw [aS oa,pv]
 have eB:eT n (l.map fun v:Nat=>(v:Int))=GS yK.length T:=by
  unfold eT GS
  rw [enat]
  show (T.map p++(xQ yK.length T).map fun j=>n+j).map _=_
  rw [eU,nx,nx]
  congr 1
  ·refine n6 fun i hi=>?_
   show kE n (p i)=_
   unfold kE
   rw [aK (hp i ((hT i).1 hi)).1]
  ·refine n6 fun j _=>?_
   show kE n (n+j)=_
   unfold kE
   rw [aS oa]
 have hpl:(ptS yK.length T).length=yK.length:=by unfold ptS;simp
 have hpc:∀ j,j<yK.length->aH (ptS yK.length T) j=bif T.contains j then (1,1) else (0,1):=fun j hj=>by
  unfold ptS aH;simp [hj]
 obtain ⟨b,eb,hb1,hb2⟩:=FU hN n1 n5 a1 a4 hpl
 have hbt:b=true:=hb2 (fun j hj=>by
  rw [hpc j oa]
  cases T.contains j
  ·exact .inl rfl
  ·exact .inr rfl) fun v hv=>by
  obtain ⟨j,hj,hbit⟩:=s3 v hv
  have hjl:j<yK.length:=by simpa using s2 j hj
  refine ⟨j,oa,?_,?_⟩
  ·rw [nc hv hjl]
   unfold mP
   rw [hbit];rfl
  ·rw [hpc j hjl,show T.contains j=true by simpa using (hT j).2 hj];rfl
 subst hbt
 exact ⟨ptS yK.length T,⟨hb1 rfl,_,hpick,by rw [eA,eB];exact hsol⟩,eb⟩
end
section
variable {N:Nat}
theorem L7 (hN:1073741824<=N) {ss:yP} {d e:Int} (d0:0<=d) (d3:d<=3) (e0:0<=e) (e3:e<=3) {na:Nat} (hna:na<=4):∀ (c i yN:Nat) (xs ys:yP),i+c=na->c<yN->xs.length=na->ys.length=na->(∀ j,i<=j->j<na->(0<=xs.getD j 0/\xs.getD j 0<=3)/\(0<=ys.getD j 0/\ys.getD j 0<=3)) ->
  ∃ xs' ys' z,di N yN ss xs d ys e (i:Int)=some (xs',ys',z)/\xs'.length=na/\ys'.length=na:=by
 intro c
 induction c with
 | zero =>
  intro i yN xs ys hi hf hx hy hb
  obtain ⟨yN,rfl⟩:∃ k',yN=k'+1:=⟨yN-1,oa⟩
  rw [di,aN oa,ai]
  exact ⟨xs,ys,_,rfl,hx,hy⟩
 | succ c ih =>
  intro i yN xs ys hi hf hx hy hb
  obtain ⟨yN,rfl⟩:∃ k',yN=k'+1:=⟨yN-1,oa⟩
  obtain ⟨⟨x0,x3⟩,y0,y3⟩:=hb i (bN i) oa
  have m1:0<=xs.getD i 0*e/\xs.getD i 0*e<=3*3:=⟨qH x0 e0,mM x3 e3 e0 (by decide)⟩
  have m2:0<=ys.getD i 0*d/\ys.getD i 0*d<=3*3:=⟨qH y0 d0,mM y3 d3 d0 (by decide)⟩
  rw [di,aJ oa,ae,ixD oa,bs,fv oa oa,bs,bs,ra oa,bs,ixD oa,bs,fv oa oa,bs,bs,ra oa,bs,bR oa oa,bs]
  refine ih (i+1) yN _ _ oa oa (by rw [gd];exact hx) (by rw [gd];exact hy) fun j h1 h2=>?_
  have g:∀ (zs:yP) (v:Int),(zs.set i v).getD j 0=zs.getD j 0:=fun zs v=>by
   simp [vb (show i≠j by omega)]
  rw [g,g]
  exact hb j oa h2
theorem Jw (hN:1073741824<=N) {n:Nat} {yK:List aV} (n5:n<=5) (a1:1<=yK.length) (a4:yK.length<=4) {ss:yP} (hs:ss.length=yK.length) (hv:∀ v∈ss,0<=v/\v<=16) {x y:bw} (hx:fw N n yK x) (hy:fw N n yK y) :
  ∃ c,i6 N ss x y=some c:=by
 obtain ⟨d,k,d1,d3,hk,ed,_⟩:=oo hN n5 a1 a4 hx
 obtain ⟨e,q,e1,e3,hq,ee,_⟩:=oo hN n5 a1 a4 hy
 have l1:∀ f:Nat->Nat,((List.range' 0 yK.length).map fun i:Nat=>(f i:Int)).length=yK.length:=fun f=>by simp
 have g1:∀ (f:Nat->Nat) (j:Nat),j<yK.length->((List.range' 0 yK.length).map fun i:Nat=>(f i:Int)).getD j 0=(f j:Int):=fun f j hj=>by
  rw [bu (by rw [l1];exact hj),iS,pu,dA,jL]
 unfold i6
 rw [ed,bs,ee,bs]
 dsimp only
 rw [show ((d:Int) == 0)=false by rw [l8];omega,ai,show ((e:Int) == 0)=false by rw [l8];omega,ai,l1,l1,hs,show ((yK.length:Int) != (yK.length:Int))=false by rw [mn],ai,ai]
 obtain ⟨xs',ys',z,e4,h1,h2⟩:=L7 hN (ss:=ss) (d:=(d:Int)) (e:=(e:Int)) oa oa oa oa a4 yK.length 0 N _ _ oa oa (l1 k) (l1 q) fun j _ hj=>by
  rw [g1 k j hj,g1 q j hj]
  have:=hk j hj
  have:=hq j hj
  omega
 have e4':di N N ss _ (d:Int) _ (e:Int) 0=some (xs',ys',z):=e4
 rw [e4',bs,lpB]
 dsimp only
 obtain ⟨r1,p1,_,q1⟩:=xP hN (xs:=ss) (ks:=xs') oa fun v hv'=>by have:=hv v hv';omega
 obtain ⟨r2,p2,_,q2⟩:=xP hN (xs:=ss) (ks:=ys') oa fun v hv'=>by have:=hv v hv';omega
 rw [p1,bs,p2,bs]
 obtain ⟨c,ec,_⟩:=tE hN q1.1 q2.1
 cases r1.2 with
 | false=>rw [ai];exact ⟨_,rfl⟩
 | true =>
  rw [ae]
  cases r2.2 with
  | false=>rw [ai];exact ⟨_,rfl⟩
  | true=>rw [ae,ec,bs];exact ⟨_,rfl⟩
theorem J4 (hN:1073741824<=N) {ss:yP} (hs:ss.length<=1000) (hv:∀ v∈ss,0<=v/\v<=16) {A:bQ} {B C:bw}:∀ (c i yN:Nat),i+c=ss.length->c<yN ->
  ∃ z,d9 N yN ss A B C (i:Int)=some (.inr z):=by
 intro c
 induction c with
 | zero =>
  intro i yN hi hf
  obtain ⟨yN,rfl⟩:∃ k',yN=k'+1:=⟨yN-1,oa⟩
  rw [d9,aN oa,ai]
  exact ⟨_,rfl⟩
 | succ c ih =>
  intro i yN hi hf
  obtain ⟨yN,rfl⟩:∃ k',yN=k'+1:=⟨yN-1,oa⟩
  have hil:i<ss.length:=by omega
  have h1:=hv _ (bA hil)
  rw [d9,aJ oa,ae,bh hil,bs,fQ,bs,show inR ss[i] 0 16=true from ck.2 h1,ae,bR oa oa,bs]
  exact ih (i+1) yN oa oa
theorem NY (hN:1073741824<=N) {n:Nat} {yK:List aV} (n5:n<=5) (a1:1<=yK.length) (a4:yK.length<=4) {ss:yP} (hs:ss.length=yK.length) (hv:∀ v∈ss,0<=v/\v<=16) {P:bQ} (hP:∀ x∈P,fw N n yK x) (hl:P.length<=100000):∀ (c i yN:Nat) (x:bw),i+c=P.length->c<yN->fw N n yK x ->
  ∃ x' z,dq N yN ss P x (i:Int)=some (x',z)/\fw N n yK x':=by
 intro c
 induction c with
 | zero =>
  intro i yN x hi hf hx
  obtain ⟨yN,rfl⟩:∃ k',yN=k'+1:=⟨yN-1,oa⟩
  rw [dq,aN oa,ai]
  exact ⟨x,_,rfl,hx⟩
 | succ c ih =>
  intro i yN x hi hf hx
  obtain ⟨yN,rfl⟩:∃ k',yN=k'+1:=⟨yN-1,oa⟩
  have hil:i<P.length:=by omega
  have hm:bI P i∈P:=by unfold bI;simp [hil]
  obtain ⟨q,eq⟩:=Jw hN n5 a1 a4 hs hv (hP _ hm) hx
  rw [dq,aJ oa,ae,ixM hil,bs,eq,bs]
  cases decide (q.1<0) with
  | true =>
   rw [ae,bs,bR oa oa,bs]
   exact ih (i+1) yN _ oa oa (hP _ hm)
  | false =>
   rw [ai,bR oa oa,bs]
   exact ih (i+1) yN x oa oa hx
theorem D2 (hN:1073741824<=N) {n:Nat} {yK:List aV} {out:yP} (ha:fB yK) (ho:okI out) (hq:fR (n:Int) yK out=true) (hc:∀ v,v<n->∃ j,j<yK.length/\((v:Nat):Int)∈(dz yK j).2) {ss:yP} (hs:ss.length=yK.length) (hv:∀ v∈ss,0<=v/\v<=16) :
  ∃ x,mL N (n:Int) yK out ss=some (x,true)/\fw N n yK x:=by
 obtain ⟨n1,n5,a1,a4⟩:=lk hq
 have n1:1<=n:=by omega
 have n5:n<=5:=by omega
 have a1:1<=yK.length:=by omega
 have a4:yK.length<=4:=by omega
 obtain ⟨P,eP,hl,hP,hne⟩:=Ao hN n1 n5 a1 a4
 have hne:=hne (y4 hN n1 n5 a1 a4 hc)
 have h0:0<P.length:=uZ.2 hne
 have hm:bI P 0∈P:=by unfold bI;simp [h0]
 unfold mL
 rw [tZ hN ha ho hq,bs]
 dsimp only
 rw [ae,show ((ss.length:Int) != (yK.length:Int))=false by rw [mn];omega,ai]
 obtain ⟨z,e1⟩:=J4 hN (ss:=ss) oa hv (A:=bl n yK) (B:=aI n) (C:=aI yK.length) ss.length 0 N oa oa
 have e1':d9 N N ss (bl n yK) (aI n) (aI yK.length) 0=some (.inr z):=e1
 have i0:ix P 0=some (bI P 0):=ixM (i:=0) h0
 obtain ⟨x,z2,e2,hx⟩:=NY hN n5 a1 a4 hs hv hP hl (P.length-1) 1 N (bI P 0) oa oa (hP _ hm)
 have e2':dq N N ss P (bI P 0) 1=some (x,z2):=e2
 rw [e1',bs,jh,eP,bs,i0,bs,e2',bs,lpB]
 exact ⟨x,rfl,hx⟩
end
section
variable {N:Nat}
theorem GY (hN:1073741824<=N) {a b:yP} (ha:Cn a) (hb:Cn b) (la:a.length<=60) (lb:b.length<=60) (h:vB a*vB b<10 ^ 60):∃ r,i8 N a b=some (r,true)/\vB r=vB a*vB b/\Cn r/\r.length<=60:=by
 obtain ⟨r,e1,e2,_⟩:=vU hN (a:=a) (b:=b) oa oa
 obtain ⟨q,e3,h1,h2⟩:=FQ hN ha hb la lb
 rw [e2] at e3
 obtain rfl:=bL e3
 have ht:=h2.2 h
 obtain ⟨r1,r2⟩:=r
 obtain rfl:r2=true:=ht
 exact ⟨r1,e1,h1 rfl⟩
theorem wk (hN:1073741824<=N) {n:Int} (h0:0<=n) (h1:n<=9223372036854775807) {d:Nat} (hd:d<=100) (h:∀ j,j<d->n ^ (j+1)<10 ^ 60):∃ r,gX N n (d:Int)=some (r,true)/\vB r=n ^ d/\Cn r/\r.length<=60:=by
 obtain ⟨r,e1,e2,_⟩:=y5 hN (n:=n) (k:=(d:Int)) h1
 obtain ⟨q,e3,h2,h3⟩:=LZ hN h0 h1 hd
 rw [e2] at e3
 obtain rfl:=bL e3
 have ht:=h3.2 h
 obtain ⟨r1,r2⟩:=r
 obtain rfl:r2=true:=ht
 exact ⟨r1,e1,h2 rfl⟩
theorem Hj (hN:1073741824<=N) {a b:yP} (ha:Cn a) (hb:Cn b) (la:a.length<=60) (lb:b.length<=60):∃ q,fx N a b=some q/\(q<=0↔vB a<=vB b):=by
 obtain ⟨c,e1,e2⟩:=tE hN (a:=a) (b:=b) oa oa
 obtain ⟨q,e3,h⟩:=Lk hN ha hb la lb
 rw [e2] at e3
 obtain rfl:=bL e3
 exact ⟨c,e1,h⟩
theorem MZ (hN:1073741824<=N) {a b:yP} (ha:Cn a) (hb:Cn b) (la:a.length<=60) (lb:b.length<=60):∃ q,fx N a b=some q/\(q<0↔vB a<vB b)/\-1<=q/\q<=1:=by
 obtain ⟨c,e1,e2⟩:=tE hN (a:=a) (b:=b) oa oa
 obtain ⟨q,e3,_,h⟩:=EO hN ha hb la lb
 rw [e2] at e3
 obtain rfl:=bL e3
 exact ⟨c,e1,h⟩
theorem Ka (hN:1073741824<=N):∃ b,fX N 1=some b/\vB b=1/\Cn b/\b.length<=60:=by
 obtain ⟨r,e,h1,h2,h3⟩:=wk hN (n:=1) (by decide) (by decide) (d:=0) (by decide) (fun j hj=>absurd hj (uV j))
 refine ⟨r,?_,by rw [h1];rfl,h2,h3⟩
 unfold gX at e
 rw [show decide ((1:Int)<0)=false from rfl,ai,fQ,bs,show inR ((0:Nat):Int) 0 100=true from ck.2 oa,ae] at e
 cases hb:fX N 1 with
 | none=>rw [hb] at e;cases e
 | some b =>
  rw [hb,bs] at e
  obtain ⟨k,rfl⟩:∃ k,N=k+1:=⟨N-1,oa⟩
  rw [d8,aN oa,ai,bs,jh] at e
  injection e with e
  exact aX some (aX Prod.fst e)
theorem Dx (hN:1073741824<=N) {na:Nat} (h4:na<=4) {s k:Nat->Nat} (hs:∀ i,i<na->s i<=16) (hk:∀ i,i<na->k i<=3) :
  ∃ r,dl N ((List.range' 0 na).map fun i:Nat=>(s i:Int)) ((List.range' 0 na).map fun i:Nat=>(k i:Int))=some (r,true)/\vB r=((prN ((List.range' 0 na).map fun i=>s i ^ k i):Nat):Int)/\Cn r/\r.length<=60/\prN ((List.range' 0 na).map fun i=>s i ^ k i)<=4096 ^ na:=by
 have l1:∀ f:Nat->Nat,((List.range' 0 na).map fun i:Nat=>(f i:Int)).length=na:=fun f=>by simp
 have g1:∀ (f:Nat->Nat) (j:Nat),j<na->((List.range' 0 na).map fun i:Nat=>(f i:Int)).getD j 0=(f j:Int):=fun f j hj=>by
  rw [bu (by rw [l1];exact hj),iS,pu,dA,jL]
 have pw:∀ i,i<na->s i ^ k i<=4096:=fun i hi=>by
  rcases od (s i) with h0 | h0
  ·rw [h0]
   rcases od (k i) with h1 | h1
   ·rw [h1];decide
   ·rw [pd h1];decide
  ·exact Nat.le_trans (ka h0 (hk i hi)) (nX (hs i hi) 3)
 have ps:∀ i,prN ((List.range' 0 (i+1)).map fun i=>s i ^ k i)=prN ((List.range' 0 i).map fun i=>s i ^ k i)*s i ^ k i:=fun i=>by
  rw [pf,eU,yb]
  simp only [dA,jL,gH,ou,prN,n9]
 have pb:∀ i,i<=na->prN ((List.range' 0 i).map fun i=>s i ^ k i)<=4096 ^ i:=by
  intro i
  induction i with
  | zero =>
   intro _
   exact bN 1
  | succ i ih =>
   intro hi
   rw [ps,oC]
   exact lI (ih oa) (pw i oa)
 have key:∀ (c i yN:Nat) (b:yP),i+c=na->c<yN->Cn b->b.length<=60->vB b=((prN ((List.range' 0 i).map fun i=>s i ^ k i):Nat):Int) ->
   ∃ r z,bC N yN ((List.range' 0 na).map fun i:Nat=>(s i:Int)) ((List.range' 0 na).map fun i:Nat=>(k i:Int)) [] b (i:Int)=some (.inr (r,z))/\vB r=((prN ((List.range' 0 na).map fun i=>s i ^ k i):Nat):Int)/\Cn r/\r.length<=60:=by
  intro c
  induction c with
  | zero =>
   intro i yN b hi hf hb lb hv
   obtain ⟨yN,rfl⟩:∃ k',yN=k'+1:=⟨yN-1,oa⟩
   rw [bC,l1,aN oa,ai]
   obtain rfl:i=na:=by omega
   exact ⟨b,_,rfl,hv,hb,lb⟩
  | succ c ih =>
   intro i yN b hi hf hb lb hv
   obtain ⟨yN,rfl⟩:∃ k',yN=k'+1:=⟨yN-1,oa⟩
   have hsi:=hs i oa
   have hki:=hk i oa
   have hp:=pw i oa
   obtain ⟨r,e,hr,cr,lr⟩:=wk hN (n:=(s i:Int)) oa oa (d:=k i) oa fun j hj=>by
    have h1:s i ^ (j+1)<=16 ^ 3:=by
     rcases od (s i) with h0 | h0
     ·rw [h0,pd oa];decide
     ·exact Nat.le_trans (ka h0 oa) (nX hsi 3)
    have h2:((s i:Int)) ^ (j+1)=((s i ^ (j+1):Nat):Int):=(qg ..).symm
    rw [h2]
    have:((s i ^ (j+1):Nat):Int)<=4096:=by omega
    exact xd this (by decide)
   have hr':vB r=((s i ^ k i:Nat):Int):=by rw [hr,qg]
   have hb':=pb i oa
   have hi4:(4096:Nat) ^ i<=4096 ^ 4:=ka (by decide) oa
   have hmul:=lI (Nat.le_trans hb' hi4) hp
   have hm:vB b*vB r=((prN ((List.range' 0 (i+1)).map fun i=>s i ^ k i):Nat):Int):=by
    rw [hv,hr',ps,xf]
   obtain ⟨y,e2,hy,cy,ly⟩:=GY hN hb cr lb lr (by
    rw [hm,ps]
    have:((prN ((List.range' 0 i).map fun i=>s i ^ k i)*s i ^ k i:Nat):Int)<=((4096 ^ 4*4096:Nat):Int):=tN.2 hmul
    exact xd this (by decide))
   rw [bC,l1,aJ oa,ae,ixD (by rw [l1];omega),bs,g1 s i oa,ixD (by rw [l1];omega),bs,g1 k i oa,e,bs]
   dsimp only
   rw [e2,bs]
   dsimp only
   rw [ae,ae,bR oa oa,bs]
   exact ih (i+1) yN y oa oa cy ly (by rw [hy,hm])
 obtain ⟨b,eb,hb,cb,lb⟩:=Ka hN
 obtain ⟨r,z,e,h1,h2,h3⟩:=key na 0 N b oa oa cb lb (by rw [hb];rfl)
 refine ⟨r,?_,h1,h2,h3,pb na (bN _)⟩
 unfold dl
 have e':bC N N ((List.range' 0 na).map fun i:Nat=>(s i:Int)) ((List.range' 0 na).map fun i:Nat=>(k i:Int)) [] b 0=_:=e
 rw [l1,l1,show ((na:Int) != (na:Int))=false by rw [mn],ai,eb,bs,e',bs,jh]
end
section
variable {N:Nat}
theorem Hu (hN:1073741824<=N) {na:Nat} (h4:na<=4) {s k:Nat->Nat} (hs:∀ i,i<na->s i<=16) (hk:∀ i,i<na->k i<=9) :
  ∃ r,dl N ((List.range' 0 na).map fun i:Nat=>(s i:Int)) ((List.range' 0 na).map fun i:Nat=>(k i:Int))=some (r,true)/\vB r=((prN ((List.range' 0 na).map fun i=>s i ^ k i):Nat):Int)/\Cn r/\r.length<=60/\prN ((List.range' 0 na).map fun i=>s i ^ k i)<=68719476736 ^ na:=by
 have l1:∀ f:Nat->Nat,((List.range' 0 na).map fun i:Nat=>(f i:Int)).length=na:=fun f=>by simp
 have g1:∀ (f:Nat->Nat) (j:Nat),j<na->((List.range' 0 na).map fun i:Nat=>(f i:Int)).getD j 0=(f j:Int):=fun f j hj=>by
  rw [bu (by rw [l1];exact hj),iS,pu,dA,jL]
 have pw:∀ i,i<na->s i ^ k i<=68719476736:=fun i hi=>by
  rcases od (s i) with h0 | h0
  ·rw [h0]
   rcases od (k i) with h1 | h1
   ·rw [h1];decide
   ·rw [pd h1];decide
  ·exact Nat.le_trans (ka h0 (hk i hi)) (nX (hs i hi) 9)
 have ps:∀ i,prN ((List.range' 0 (i+1)).map fun i=>s i ^ k i)=prN ((List.range' 0 i).map fun i=>s i ^ k i)*s i ^ k i:=fun i=>by
  rw [pf,eU,yb]
  simp only [dA,jL,gH,ou,prN,n9]
 have pb:∀ i,i<=na->prN ((List.range' 0 i).map fun i=>s i ^ k i)<=68719476736 ^ i:=by
  intro i
  induction i with
  | zero =>
   intro _
   exact bN 1
  | succ i ih =>
   intro hi
   rw [ps,oC]
   exact lI (ih oa) (pw i oa)
 have key:∀ (c i yN:Nat) (b:yP),i+c=na->c<yN->Cn b->b.length<=60->vB b=((prN ((List.range' 0 i).map fun i=>s i ^ k i):Nat):Int) ->
   ∃ r z,bC N yN ((List.range' 0 na).map fun i:Nat=>(s i:Int)) ((List.range' 0 na).map fun i:Nat=>(k i:Int)) [] b (i:Int)=some (.inr (r,z))/\vB r=((prN ((List.range' 0 na).map fun i=>s i ^ k i):Nat):Int)/\Cn r/\r.length<=60:=by
  intro c
  induction c with
  | zero =>
   intro i yN b hi hf hb lb hv
   obtain ⟨yN,rfl⟩:∃ k',yN=k'+1:=⟨yN-1,oa⟩
   rw [bC,l1,aN oa,ai]
   obtain rfl:i=na:=by omega
   exact ⟨b,_,rfl,hv,hb,lb⟩
  | succ c ih =>
   intro i yN b hi hf hb lb hv
   obtain ⟨yN,rfl⟩:∃ k',yN=k'+1:=⟨yN-1,oa⟩
   have hsi:=hs i oa
   have hki:=hk i oa
   have hp:=pw i oa
   obtain ⟨r,e,hr,cr,lr⟩:=wk hN (n:=(s i:Int)) oa oa (d:=k i) oa fun j hj=>by
    have h1:s i ^ (j+1)<=16 ^ 9:=by
     rcases od (s i) with h0 | h0
     ·rw [h0,pd oa];decide
     ·exact Nat.le_trans (ka h0 oa) (nX hsi 9)
    have h2:((s i:Int)) ^ (j+1)=((s i ^ (j+1):Nat):Int):=(qg ..).symm
    rw [h2]
    have:((s i ^ (j+1):Nat):Int)<=68719476736:=by omega
    exact xd this (by decide)
   have hr':vB r=((s i ^ k i:Nat):Int):=by rw [hr,qg]
   have hb':=pb i oa
   have hi4:(68719476736:Nat) ^ i<=68719476736 ^ 4:=ka (by decide) oa
   have hmul:=lI (Nat.le_trans hb' hi4) hp
   have hm:vB b*vB r=((prN ((List.range' 0 (i+1)).map fun i=>s i ^ k i):Nat):Int):=by
    rw [hv,hr',ps,xf]
   obtain ⟨y,e2,hy,cy,ly⟩:=GY hN hb cr lb lr (by
    rw [hm,ps]
    have:((prN ((List.range' 0 i).map fun i=>s i ^ k i)*s i ^ k i:Nat):Int)<=((68719476736 ^ 4*68719476736:Nat):Int):=tN.2 hmul
    exact xd this (by decide))
   rw [bC,l1,aJ oa,ae,ixD (by rw [l1];omega),bs,g1 s i oa,ixD (by rw [l1];omega),bs,g1 k i oa,e,bs]
   dsimp only
   rw [e2,bs]
   dsimp only
   rw [ae,ae,bR oa oa,bs]
   exact ih (i+1) yN y oa oa cy ly (by rw [hy,hm])
 obtain ⟨b,eb,hb,cb,lb⟩:=Ka hN
 obtain ⟨r,z,e,h1,h2,h3⟩:=key na 0 N b oa oa cb lb (by rw [hb];rfl)
 refine ⟨r,?_,h1,h2,h3,pb na (bN _)⟩
 unfold dl
 have e':bC N N ((List.range' 0 na).map fun i:Nat=>(s i:Int)) ((List.range' 0 na).map fun i:Nat=>(k i:Int)) [] b 0=_:=e
 rw [l1,l1,show ((na:Int) != (na:Int))=false by rw [mn],ai,eb,bs,e',bs,jh]
def xsF (na:Nat) (k:Nat->Nat) (e i:Nat):yP:=(List.range' 0 na).map fun j:Nat=>(((if j<i then k j*e else k j):Nat):Int)
theorem mJ (na:Nat) (k:Nat->Nat) (e i:Nat):(xsF na k e i).length=na:=by unfold xsF;simp
theorem Ba {na:Nat} {k:Nat->Nat} {e i j:Nat} (h:j<na):(xsF na k e i).getD j 0=(((if j<i then k j*e else k j):Nat):Int):=by
 rw [bu (by rw [mJ];exact h)]
 unfold xsF
 rw [iS,pu,dA,jL]
theorem Dj (na:Nat) (k:Nat->Nat) (e:Nat):xsF na k e 0=(List.range' 0 na).map fun j:Nat=>(k j:Int):=by
 unfold xsF
 simp
theorem DV (na:Nat) (k:Nat->Nat) (e:Nat):xsF na k e na=(List.range' 0 na).map fun j:Nat=>((k j*e:Nat):Int):=by
 unfold xsF
 refine n6 fun j hj=>?_
 rw [aK (by simp at hj;omega)]
theorem Fm {na:Nat} {k:Nat->Nat} {e i:Nat} (h:i<na):(xsF na k e i).set i ((k i*e:Nat):Int)=xsF na k e (i+1):=by
 refine kS (by rw [gd,mJ,mJ]) fun j h1 h2=>?_
 rw [gd,mJ] at h1
 rw [List.getElem_set]
 have g1:=Ba (k:=k) (e:=e) (i:=i) h1
 have g2:=Ba (k:=k) (e:=e) (i:=i+1) h1
 rw [bu (by rw [mJ];exact h1)] at g1 g2
 rw [g1,g2]
 by_cases hij:i=j
 ·subst hij
  rw [aK rfl,aK oa]
 ·rw [aS hij]
  by_cases hl:j<i
  ·rw [aK hl,aK oa]
  ·rw [aS hl,aS oa]
theorem Lm (hN:1073741824<=N) {ss:yP} {d e:Nat} (d3:d<=3) (e3:e<=3) {na:Nat} (hna:na<=4) {k q:Nat->Nat} (hk:∀ i,i<na->k i<=3) (hq:∀ i,i<na->q i<=3):∀ (c i yN:Nat),i+c=na->c<yN ->
  ∃ z,di N yN ss (xsF na k e i) (d:Int) (xsF na q d i) (e:Int) (i:Int)=some (xsF na k e na,xsF na q d na,z):=by
 intro c
 induction c with
 | zero =>
  intro i yN hi hf
  obtain ⟨yN,rfl⟩:∃ k',yN=k'+1:=⟨yN-1,oa⟩
  rw [di,mJ,aN oa,ai]
  obtain rfl:i=na:=by omega
  exact ⟨_,rfl⟩
 | succ c ih =>
  intro i yN hi hf
  obtain ⟨yN,rfl⟩:∃ k',yN=k'+1:=⟨yN-1,oa⟩
  have hin:i<na:=by omega
  have m1:k i*e<=3*3:=lI (hk i hin) e3
  have m2:q i*d<=3*3:=lI (hq i hin) d3
  have x1:(xsF na k e i).getD i 0=(k i:Int):=by rw [Ba hin,aS oa]
  have x2:(xsF na q d i).getD i 0=(q i:Int):=by rw [Ba hin,aS oa]
  have p1:(k i:Int)*(e:Int)=((k i*e:Nat):Int):=(xf ..).symm
  have p2:(q i:Int)*(d:Int)=((q i*d:Nat):Int):=(xf ..).symm
  rw [di,mJ,aJ oa,ae,ixD (by rw [mJ];exact hin),bs,x1,fv (by rw [p1];omega) (by rw [p1];omega),bs,p1,bs,ra (by rw [mJ];exact hin),bs,Fm hin,ixD (by rw [mJ];exact hin),bs,x2,fv (by rw [p2];omega) (by rw [p2];omega),bs,p2,bs,ra (by rw [mJ];exact hin),bs,Fm hin,bR oa oa,bs]
  exact ih (i+1) yN oa oa
def PVx (N:Nat) (na:Nat) (s:Nat->Nat) (x:bw):Nat × Nat :=
 match cB N x with
 | some (ws,d)=>(prN ((List.range' 0 na).map fun i=>s i ^ (ws.getD i 0).toNat),d.toNat)
 | none=>(0,0)
theorem IL {na:Nat} {s k:Nat->Nat} {d:Nat} {x:bw} (h:cB N x=some ((List.range' 0 na).map (fun i:Nat=>(k i:Int)),(d:Int))):PVx N na s x=(prN ((List.range' 0 na).map fun i=>s i ^ k i),d):=by
 unfold PVx
 rw [h]
 dsimp only
 congr 2
 refine n6 fun i hi=>?_
 have hin:i<na:=by simp at hi;omega
 rw [bu (by simp;exact hin),iS,pu,dA,jL,eJ]
def LeV (N na:Nat) (s:Nat->Nat) (x y:bw):Prop:=(PVx N na s x).1 ^ (PVx N na s y).2<=(PVx N na s y).1 ^ (PVx N na s x).2
theorem LeV.refl {na:Nat} {s:Nat->Nat} (x:bw):LeV N na s x x:=bN _
theorem LeV.trans {na:Nat} {s:Nat->Nat} {x y z:bw} (hy:1<=(PVx N na s y).2) (h1:LeV N na s x y) (h2:LeV N na s y z):LeV N na s x z:=by
 unfold LeV at *
 generalize PVx N na s x=X at *
 generalize PVx N na s y=Y at *
 generalize PVx N na s z=Z at *
 refine (Nat.pow_le_pow_iff_left (show Y.2≠0 by omega)).1 ?_
 have a1:=nX h1 Z.2
 have a2:=nX h2 X.2
 rw [<- Nat.pow_mul,<- Nat.pow_mul] at a1 a2 ⊢
 rw [nA Z.2 Y.2,nA X.2 Y.2]
 rw [nA X.2 Z.2] at a1
 rw [nA Z.2 X.2] at a2
 refine Nat.le_trans a1 ?_
 rw [nA Z.2 X.2]
 exact Nat.le_trans a2 (Nat.le_of_eq (by rw [nA]))
end
section
variable {N:Nat}
theorem IB {ss:yP} (hv:∀ v∈ss,0<=v/\v<=16):∃ s:Nat->Nat,(∀ i,i<ss.length->s i<=16)/\ss=(List.range' 0 ss.length).map fun i:Nat=>(s i:Int):=by
 refine ⟨fun i=>(ss.getD i 0).toNat,fun i hi=>?_,kS (by simp) fun i h1 h2=>?_⟩
 ·have:=hv _ (bA hi)
  dsimp only
  rw [bu hi]
  omega
 ·have:=hv _ (bA h1)
  rw [iS,pu,dA,jL]
  dsimp only
  rw [bu h1]
  omega
end
theorem FW {g:Nat->Rat}:∀ {n i:Nat},i<n->(∀ j,j<n->0<=g j)->g i<=d6 n g
 | 0,i,h,_=>absurd h (uV i)
 | n+1,i,h,h0=>by
  have hn:0<=d6 n g:=by
   clear h
   have:∀ m,m<=n->0<=d6 m g:=by
    intro m
    induction m with
    | zero=>intro _;exact Rat.le_refl
    | succ m ih =>
     intro hm
     have h1:=ih oa
     have h2:=h0 m oa
     unfold d6
     grind
   exact this n (bN n)
  have hl:=h0 n oa
  unfold d6
  by_cases e:i=n
  ·subst e
   grind
  ·have:=FW (g:=g) (n:=n) (i:=i) oa fun j hj=>h0 j oa
   grind
section
variable {N:Nat}
theorem Jg (hN:1073741824<=N) {n:Nat} {yK:List aV} {x:bw} (F:FeasR N n yK x) {i:Nat} (hi:i<yK.length):0<=rv (aH x i):=by
 have hxl:=F.len
 have h1:=(F.ok i oa).2
 have h3:=((gT hN).1 (F.ok i oa).1).1
 unfold rv
 rw [nB]
 exact mo (uF.2 h1) (qB (Rat.inv_pos.2 (uI.2 oa)))
theorem MB (hN:1073741824<=N) {n:Nat} {yK:List aV} (a4:yK.length<=4) {x:bw} (hp:fw N n yK x) {i:Nat} (hi:i<yK.length):rv (aH x i)<=1:=by
 obtain ⟨F,l,hl,hs⟩:=hp
 obtain ⟨m1,m2⟩:=oD hl
 have hsh:=uY (n:=n) (yK:=yK) m1
 have hbl:(eT n l).length=yK.length:=by unfold eT lg;rw [bT,bT,m1]
 obtain ⟨x',ok,es,hsol⟩:=qd hN (n:=yK.length) oa hsh hbl
 rw [hs] at es
 obtain ⟨rfl,rfl⟩:x=x'/\true=ok:=by
  have:=bL es
  exact ⟨aX Prod.fst this,aX Prod.snd this⟩
 obtain ⟨_,_,hiff⟩:=hsol rfl
 have hnn:∀ j,j<yK.length->0<=rv (aH x j):=fun j hj=>Jg hN F hj
 have hX:=(hiff fun j=>rv (aH x j)).2 fun j _=>rfl
 have hrow:∀ r (hr:r<yK.length),(∀ j,j<yK.length->cv (fm (bl n yK) n yK.length l) r j=0\/cv (fm (bl n yK) n yK.length l) r j=1)/\rv (aH (eT n l) r)<=1:=fun r hr=>by
  have hlr:r<l.length:=by omega
  have hm:=m2 _ (bA hlr)
  have e1:bI (fm (bl n yK) n yK.length l) r=jg (bl n yK) n yK.length (l[r]'oa).toNat:=by
   unfold bI fm lg
   simp [m1,hr]
  have e2:aH (eT n l) r=kE n (l[r]'oa).toNat:=by
   unfold aH eT lg
   simp [m1,hr]
  have b1:∀ q:dK,o8 q->rv q=0\/rv q=1:=fun q hq=>by
   rcases hq with rfl | rfl
   ·left;rw [mI];rfl
   ·right;rw [mI];rfl
  refine ⟨fun j hj=>b1 _ ?_,?_⟩
  ·unfold cell
   rw [e1]
   unfold jg
   split
   ·rename_i h
    have:=nc (yK:=yK) h hj
    unfold cell at this
    rw [this]
    exact oO _ _
   ·exact CG oa hj
  ·rw [e2]
   unfold kE
   split
   ·rw [mI];exact Rat.le_refl
   ·rw [mI]
    have:((0:Int):Rat)=0:=rfl
    rw [this]
    grind
 refine nC fun hgt=>?_
 have hz:∀ r,r<yK.length->cv (fm (bl n yK) n yK.length l) r i=0:=fun r hr=>by
  obtain ⟨h1,h2⟩:=hrow r hr
  rcases h1 i hi with h | h
  ·exact h
  ·exfalso
   have h3:=FW (g:=fun j=>cv (fm (bl n yK) n yK.length l) r j*rv (aH x j)) hi fun j hj=>by
    have:=hnn j hj
    rcases h1 j hj with h | h
    ·rw [h];grind
    ·rw [h];grind
   have h4:=hX r hr
   rw [h4] at h3
   rw [h] at h3
   grind
 have hy:=(hiff fun j=>if j=i then rv (aH x j)+1 else rv (aH x j)).1 fun r hr=>by
  rw [<- hX r hr]
  refine gM fun j hj=>?_
  by_cases e:j=i
  ·subst e
   rw [hz r hr]
   grind
  ·rw [aS e]
 have h5:=hy i hi
 rw [aK rfl] at h5
 grind
theorem IR (hN:1073741824<=N) {n:Nat} {yK:List aV} (n5:n<=5) (a1:1<=yK.length) (a4:yK.length<=4) {x:bw} (hp:fw N n yK x) {d:Nat} {k:Nat->Nat} (ed:cB N x=some ((List.range' 0 yK.length).map (fun i:Nat=>(k i:Int)),(d:Int))):∀ i,i<yK.length->k i<=d:=by
 intro i hi
 obtain ⟨K,hD,_⟩:=w8 hN n5 a1 a4 hp
 have h1:=MB hN a4 hp hi
 have hxl:=hp.1.len
 obtain ⟨d',_,es,hv⟩:=Gl hN hD
 rw [ed] at es
 have es:=bL es
 have e1:((d:Nat):Int)=d':=aX Prod.snd es
 have e2:=aX Prod.fst es
 dsimp only at e2
 obtain ⟨v,ev,v0,hvv⟩:=hv i oa
 rw [<- e2,bu (by simp;exact hi),iS,pu,dA,jL] at ev
 rw [<- e1] at hvv
 rw [<- ev] at hvv
 have h2:(((d:Nat):Int):Rat)*rv (aH x i)<=(((d:Nat):Int):Rat)*1:=vd h1 (uF.2 oa)
 rw [<- hvv,Rat.mul_one] at h2
 have:=rX.1 h2
 omega
theorem CK (f:Nat->Nat) (c:Nat):∀ L:List Nat,(∀ i∈L,f i<=c)->prN (L.map f)<=c ^ L.length
 | [],_=>bN _
 | i :: L,h=>by
  rw [b9,oC,nA]
  exact lI (h i cx) (CK f c L fun j hj=>h j (cD _ hj))
theorem Ew {na:Nat} (h4:na<=4) {s k:Nat->Nat} {d:Nat} (d1:1<=d) (hs:∀ i,i<na->s i<=16) (hk:∀ i,i<na->k i<=d):prN ((List.range' 0 na).map fun i=>s i ^ k i)<100001 ^ d:=by
 have h1:=CK (fun i=>s i ^ k i) (16 ^ d) (List.range' 0 na) fun i hi=>by
  have hin:i<na:=by simp at hi;omega
  rcases od (s i) with h0 | h0
  ·rw [h0]
   rcases od (k i) with h1 | h1
   ·rw [h1];exact Nat.one_le_pow _ _ (by decide)
   ·rw [pd h1];exact cV _
  ·exact Nat.le_trans (ka h0 (hk i hin)) (nX (hs i hin) d)
 rw [ta,<- Nat.pow_mul] at h1
 have h2:(16:Nat) ^ (d*na)<=16 ^ (4*d):=ka (by decide) (by rw [nA d na];exact me d h4)
 have h3:(16:Nat) ^ (4*d)=65536 ^ d:=by rw [Nat.pow_mul]
 have h4:(65536:Nat) ^ d<100001 ^ d:=Nat.pow_lt_pow_left (by decide) oa
 omega
end
section
variable {N:Nat}
theorem ud {c:Nat} (hc:c<=9007199254740992) {d:Nat} (hd:d<=3):∀ j,j<d->((c:Int)) ^ (j+1)<10 ^ 60:=fun j hj=>by
 have h1:c ^ (j+1)<=9007199254740992 ^ 3:=by
  rcases od c with h0 | h0
  ·rw [h0,pd oa];exact cV _
  ·exact Nat.le_trans (ka h0 oa) (nX hc 3)
 rw [<- qg]
 exact xd (tN.2 h1) (by decide)
theorem Lu {M P d:Nat} (hd:1<=d) (h:M ^ d<=P):M<=P:=by
 rcases od M with h0 | h0
 ·omega
 ·have:=ka h0 hd
  rw [Nat.pow_one] at this
  omega
theorem NG (hN:1073741824<=N) {na:Nat} (h4:na<=4) {s k:Nat->Nat} (hs:∀ i,i<na->s i<=16) (hk:∀ i,i<na->k i<=3) {d:Nat} (d1:1<=d) (d3:d<=3) {x:bw} (ex:cB N x=some ((List.range' 0 na).map (fun i:Nat=>(k i:Int)),(d:Int))) {c:Nat} (hc:c ^ d<=prN ((List.range' 0 na).map fun i=>s i ^ k i)) :
  cE N ((List.range' 0 na).map fun i:Nat=>(s i:Int)) x (c:Int)=some true:=by
 obtain ⟨r,er,hr,cr,lr,hb⟩:=Dx hN h4 hs hk
 have hb4:(4096:Nat) ^ na<=4096 ^ 4:=ka (by decide) h4
 have hcP:=Lu d1 hc
 have hcb:c<=281474976710656:=Nat.le_trans hcP (Nat.le_trans hb hb4)
 obtain ⟨y,ey,hy,cy,ly⟩:=wk hN (n:=(c:Int)) oa oa (d:=d) oa (ud oa d3)
 obtain ⟨q,eq,hq⟩:=Hj hN cy cr ly lr
 unfold cE
 rw [ex,bs]
 dsimp only
 rw [er,bs,ey,bs,aJ oa,ae]
 dsimp only
 rw [ae,ae,eq,bs]
 have:q<=0:=hq.2 (by rw [hy,hr,<- qg];exact tN.2 hc)
 rw [aJ this]
end
section
variable {N:Nat}
theorem wg (hN:1073741824<=N) {n:Nat} {yK:List aV} (n5:n<=5) (a1:1<=yK.length) (a4:yK.length<=4) {s:Nat->Nat} (hs:∀ i,i<yK.length->s i<=16) {x:bw} (hx:fw N n yK x) :
  1<=(PVx N yK.length s x).2/\(PVx N yK.length s x).1<100001 ^ (PVx N yK.length s x).2/\∀ c:Nat,c<=9007199254740992->cE N ((List.range' 0 yK.length).map fun i:Nat=>(s i:Int)) x (c:Int)=some (decide (c ^ (PVx N yK.length s x).2<=(PVx N yK.length s x).1)):=by
 obtain ⟨d,k,d1,d3,hk,ed,_⟩:=oo hN n5 a1 a4 hx
 have hkd:=IR hN n5 a1 a4 hx ed
 have v1:=IL (s:=s) ed
 rw [v1]
 refine ⟨d1,Ew a4 d1 hs hkd,fun c hc=>?_⟩
 dsimp only
 obtain ⟨r,er,hr,cr,lr,_⟩:=Dx hN a4 hs hk
 obtain ⟨y,ey,hy,cy,ly⟩:=wk hN (n:=(c:Int)) oa oa (d:=d) oa (ud hc d3)
 obtain ⟨q,eq,hq⟩:=Hj hN cy cr ly lr
 unfold cE
 rw [ed,bs]
 dsimp only
 rw [er,bs,ey,bs]
 dsimp only
 rw [aJ oa,ae,ae,ae,eq,bs]
 have:(q<=0)↔(c ^ d<=prN ((List.range' 0 yK.length).map fun i=>s i ^ k i)):=by
  rw [hq,hy,hr,<- qg]
  exact tN
 congr 1
 exact xz.2 this
end
section
variable {N:Nat}
theorem JV {α:Type} (N:Nat) (x:Int) (k:Int->Option α):(nq N x).bind k=(sb 0 x).bind fun y=>k (imx x y):=by
 unfold nq
 cases sb 0 x <;> rfl
theorem yV (N:Nat) (x a b:Int):dy N x a b=dv N x a b:=by
 rw [gi];unfold dy inR
 by_cases h:a<=x
 ·rw [aJ h,ae,eG]
 ·rw [aN h,ai,kT]
theorem zc (N:Nat) (n d:Int):iY N n d=cL N n d:=by
 unfold iY cL
 have e:sb 0 4000000000000000000=some (-4000000000000000000):=by decide
 simp only [e,rF,yV,s7,zy,JV]
theorem GU (N:Nat) (a b c d:Int):iE N a b c d=(aR N a b).bind fun r=>bif r then aR N c d else some false:=by
 unfold iE
 simp only [s7]
 cases bU N a b with
 | none=>rfl
 | some r =>
  cases r
  ·rfl
  ·simp only [rF,ae]
   cases bU N c d <;> rfl
theorem t9 {α:Type} (N:Nat) (a b c d:Int) {x y:Option α}:(iE N a b c d).bind (fun r=>bif r then x else y)=(aR N a b).bind fun r=>bif r then (aR N c d).bind fun r=>bif r then x else y else y:=by
 rw [GU]
 cases aR N a b with
 | none=>rfl
 | some r=>cases r <;> rfl
theorem DT (N:Nat) (a b c d:Int):jQ N a b c d=cM N a b c d:=by
 unfold jQ cM
 rw [t9];simp only [zc]
theorem DK (N:Nat) (a b c d:Int):jT N a b c d=cO N a b c d:=by
 unfold jT cO
 rw [t9];simp only [zc]
theorem Dr (N:Nat) (a b c d:Int):ig N a b c d=fA N a b c d:=by
 unfold ig fA
 rw [t9]
 simp only [jW,rF,lP]
 have e:∀ x y:Int,(some (if x<y then (-1:Int) else if y<x then 1 else 0))=(bif decide (x<y) then some (-1) else bif decide (y<x) then some 1 else some 0):=by
  intro x y
  by_cases h1:x<y
  ·rw [aK h1,aJ h1,ae]
  ·rw [aS h1,aN h1,ai]
   by_cases h2:y<x
   ·rw [aK h2,aJ h2,ae]
   ·rw [aS h2,aN h2,ai]
 simp only [e]
theorem Jy (N:Nat) (n:Int):cL N n 0=some ((0,0),false):=by
 unfold cL;rfl
theorem D4 (hN:1073741824<=N) (a b c d:Int):jN N a b c d=gK N a b c d:=by
 unfold jN gK
 rw [t9];simp only [zc]
 rcases mi hN (a,b) with h | h
 ·rcases mi hN (c,d) with h2 | h2
  ·by_cases hc:c=0
   ·subst hc
    have e1:=(gT hN).1 h
    have e2:=(gT hN).1 h2
    have hm:=mO (a:=a) (b:=d) e1.2.2.1 e1.2.2.2.1 (by have:=e2.1;simp only at this;omega) e2.2.1
    have m1:ml a d=some (a*d):=fv oa oa
    have m2:ml b 0=some (b*0):=fv oa oa
    have h:aR N a b=some true:=h
    have h2:aR N 0 d=some true:=h2
    rw [h,h2,m1,m2]
    simp only [rF,ae,tO,Jy]
    rfl
   ·have e:(c == 0)=false:=by simpa using hc
    simp only [e,ai]
  ·have h2:aR N c d=some false:=h2
   rw [h2];rfl
 ·have h:aR N a b=some false:=h
  rw [h];rfl
def Rs (N:Nat) (r:dK) (ok:Bool):Prop:=ok=true/\VR N r\/ok=false/\r=(0,0)
theorem My {N:Nat} {n d:Int} {r:dK} {ok:Bool} (h:cL N n d=some (r,ok)):Rs N r ok:=by
 unfold cL at h
 have fin:∀ {x y:Int} {q:Bool},aR N x y=some q->(bif q then some ((x,y),true) else some ((0,0),false))=some (r,ok)->Rs N r ok:=by
  intro x y q hq h
  cases q
  ·cases h;exact .inr ⟨rfl,rfl⟩
  ·cases h;exact .inl ⟨rfl,hq⟩
 have no:some (((0:Int),(0:Int)),false)=some (r,ok)->Rs N r ok:=by
  intro h;cases h;exact .inr ⟨rfl,rfl⟩
 rcases oif h with ⟨_,h⟩ | ⟨_,h⟩
 ·exact no h
 obtain ⟨_,_,h⟩:=ob h
 obtain ⟨_,_,h⟩:=ob h
 rcases oif h with ⟨_,h⟩ | ⟨_,h⟩
 rotate_left
 ·exact no h
 obtain ⟨_,_,h⟩:=ob h
 obtain ⟨_,_,h⟩:=ob h
 rcases oif h with ⟨_,h⟩ | ⟨_,h⟩
 rotate_left
 ·exact no h
 rcases oif h with ⟨_,h⟩ | ⟨_,h⟩
 ·obtain ⟨_,_,h⟩:=ob h
  obtain ⟨_,_,h⟩:=ob h
  obtain ⟨_,_,h⟩:=ob h
  obtain ⟨_,_,h⟩:=ob h
  obtain ⟨_,_,h⟩:=ob h
  obtain ⟨_,_,h⟩:=ob h
  obtain ⟨_,hq,h⟩:=ob h
  exact fin hq h
 ·obtain ⟨_,_,h⟩:=ob h
  obtain ⟨_,_,h⟩:=ob h
  obtain ⟨_,_,h⟩:=ob h
  obtain ⟨_,_,h⟩:=ob h
  obtain ⟨_,hq,h⟩:=ob h
  exact fin hq h
theorem IT {N:Nat} {a b c d:Int} {r:dK × Bool} (h:cO N a b c d=some r):Rs N r.1 r.2:=by
 unfold cO at h
 have no:some (((0:Int),(0:Int)),false)=some r->Rs N r.1 r.2:=by
  intro h;cases h;exact .inr ⟨rfl,rfl⟩
 obtain ⟨_,_,h⟩:=ob h
 rcases oif h with ⟨_,h⟩ | ⟨_,h⟩
 rotate_left
 ·exact no h
 obtain ⟨_,_,h⟩:=ob h
 rcases oif h with ⟨_,h⟩ | ⟨_,h⟩
 rotate_left
 ·exact no h
 obtain ⟨_,_,h⟩:=ob h
 obtain ⟨_,_,h⟩:=ob h
 obtain ⟨⟨r1,r2⟩,hq,h⟩:=ob h
 cases h
 exact My hq
theorem Ab (hN:1073741824<=N):aR N 0 0=some false:=by
 rcases mi hN (0,0) with h | h
 ·exact absurd ((gT hN).1 h).1 (by decide)
 ·exact h
theorem I7 (hN:1073741824<=N) (a b:Int) {r:dK} {ok:Bool} (hr:Rs N r ok):lF N a b r.1 r.2=iq N a b r.1 r.2:=by
 unfold lF iq
 simp only [DT]
 rcases hr with ⟨_,h⟩ | ⟨_,rfl⟩
 ·have h':aR N r.1 r.2=some true:=h
  rw [h'];rfl
 ·have e0:sb 0 0=some 0:=by decide
  simp only [e0,Ab hN,rF,ai]
  unfold cM
  rw [Ab hN]
  rcases mi hN (a,b) with h | h
  ·have h:aR N a b=some true:=h
   rw [h];rfl
  ·have h:aR N a b=some false:=h
   rw [h];rfl
end
theorem ixI {α:Type} {xs:List α} {i:Int} {x:α} (h:ix xs i=some x):0<=i/\i<xs.length:=by
 obtain ⟨k,rfl,hk,_⟩:=gq h
 omega
theorem BR {α:Type} {xs ys:List α} {i:Int} {y:α} (h:sto xs i y=some ys):0<=i/\i<xs.length/\ys=xs.set i.toNat y:=by
 unfold sto at h
 split at h
 ·rename_i h0;exact ⟨oa,oa,(bL h).symm⟩
 ·cases h
theorem BL {α:Type} {xs:List α} {i:Int} {y:α} (h0:0<=i) (h1:i<xs.length):sto xs i y=some (xs.set i.toNat y):=by
 obtain ⟨k,rfl⟩:=kf h0
 rw [ra oa];simp
theorem EA {α:Type} {xs ys:List α} {i:Int} {y:α} (h:sto xs i y=some ys):ix ys i=some y:=by
 obtain ⟨h0,h1,rfl⟩:=BR h
 obtain ⟨k,rfl⟩:=kf h0
 rw [bh (by simp;omega)];simp
theorem Iu {α:Type} {xs ys:List α} {i j:Int} {y:α} (h:sto xs i y=some ys) (hn:j≠i):ix ys j=ix xs j:=by
 obtain ⟨h0,h1,rfl⟩:=BR h
 obtain ⟨k,rfl⟩:=kf h0
 unfold ix
 split
 ·rename_i hj
  obtain ⟨l,rfl⟩:=kf hj
  simp only [eJ]
  rw [vb oa]
 ·rfl
theorem BZ {α:Type} {xs ys:List α} {i:Int} {y:α} (h:sto xs i y=some ys):ys.length=xs.length:=by
 obtain ⟨_,_,rfl⟩:=BR h;simp
theorem JP {α:Type} {xs:List α} {i:Int} {y:α} (h:ix xs i=some y):sto xs i y=some xs:=by
 obtain ⟨k,rfl,hk,rfl⟩:=gq h
 rw [ra hk];simp
theorem KN {α:Type} {xs ys:List α} {i:Int} {y z:α} (h:sto xs i y=some ys):sto ys i z=sto xs i z:=by
 obtain ⟨h0,h1,rfl⟩:=BR h
 rw [BL h0 h1,BL h0 (by simpa using h1),List.set_set]
theorem EE {α:Type} {k:Nat} {xs ys zs:List α} (h:apd k xs ys=some zs):zs=xs++ys:=by
 unfold apd at h
 split at h
 ·exact (bL h).symm
 ·cases h
section
variable {N:Nat}
theorem Ko (hN:1073741824<=N) {p i:Int} (hpi:p≠i) {f1 f2:Int} {P:bw}:∀ (yN:Nat) (m:bQ) (R:bw) (c:Int) (s:bQ × Bool × Int),ix m i=some R->ix m p=some P->dJ N yN m p i f1 f2 true c=some s ->
  (s.2.1=true/\∃ R',jz N yN R P f1 f2 c=some (.inr (R',s.2.2))/\sto m i R'=some s.1)\/(s.2.1=false/\∃ R',jz N yN R P f1 f2 c=some (.inl (false,R'))):=by
 intro yN
 induction yN with
 | zero=>intro m R c s _ _ h;cases h
 | succ yN ih =>
  intro m R c s hi hp h
  rw [dJ,hi,bs] at h
  rw [jz]
  rcases oif h with ⟨hc,h⟩ | ⟨hc,h⟩
  ·rw [hc,ae]
   rw [ae,hp,bs] at h
   obtain ⟨a,ha,h⟩:=ob h
   rw [ha,bs,DK]
   obtain ⟨t,ht,h⟩:=ob h
   rw [ht,bs]
   rw [bs] at h
   obtain ⟨b,hb,h⟩:=ob h
   rw [hb,bs,I7 hN _ _ (IT ht)]
   obtain ⟨v,hv,h⟩:=ob h
   rw [hv,bs]
   rcases oif h with ⟨h1,h⟩ | ⟨h1,h⟩
   ·rw [h1,ae]
    rw [bs,hb,bs] at h
    obtain ⟨R1,hR1,h⟩:=ob h
    obtain ⟨m1,hm1,h⟩:=ob h
    obtain ⟨c1,hc1,h⟩:=ob h
    cases h2:v.2 with
    | true =>
     rw [h2] at h
     rw [ae,hR1,bs,hc1,bs]
     rcases ih m1 R1 c1 s (EA hm1) (by rw [Iu hm1 hpi];exact hp) h with ⟨g1,R',g2,g3⟩ | ⟨g1,R',g2⟩
     ·exact .inl ⟨g1,R',g2,by rw [<- KN hm1];exact g3⟩
     ·exact .inr ⟨g1,R',g2⟩
    | false =>
     rw [h2] at h
     rw [ai]
     refine .inr ⟨?_,_,rfl⟩
     cases yN with
     | zero=>cases h
     | succ yN =>
      rw [dJ,EA hm1,bs] at h
      rcases oif h with ⟨_,h⟩ | ⟨_,h⟩
      ·rw [ai] at h;cases h;rfl
      ·cases h;rfl
   ·rw [h1,ai]
    refine .inr ⟨?_,_,rfl⟩
    rw [bs] at h
    obtain ⟨_,_,h⟩:=ob h
    obtain ⟨R1,hR1,h⟩:=ob h
    obtain ⟨m1,hm1,h⟩:=ob h
    obtain ⟨c1,hc1,h⟩:=ob h
    cases yN with
    | zero=>cases h
    | succ yN =>
     rw [dJ,EA hm1,bs] at h
     rcases oif h with ⟨_,h⟩ | ⟨_,h⟩
     ·rw [ai] at h;cases h;rfl
     ·cases h;rfl
  ·rw [hc,ai]
   cases h
   exact .inl ⟨rfl,R,rfl,JP hi⟩
theorem I6 (hN:1073741824<=N) {p n:Int}:∀ (yN:Nat) (m:bQ) (i:Int) (s:Sum (Bool × bQ) (bQ × Int)),(m.length:Int)=n->d5 N yN m p i=some s ->
  (∃ m' z,s=.inr (m',z)/\(m'.length:Int)=n/\dB N yN n m p i=some (.inr (m',z)))\/(∃ m',s=.inl (false,m')/\dB N yN n m p i=some (.inl ([],false))):=by
 intro yN
 induction yN with
 | zero=>intro m i s _ h;cases h
 | succ yN ih =>
  intro m i s hl h
  rw [d5,hl] at h
  rw [dB]
  rcases oif h with ⟨hc,h⟩ | ⟨hc,h⟩
  ·rw [hc,ae]
   rcases oif h with ⟨he,h⟩ | ⟨he,h⟩
   ·have e:i=p:=by simpa using he
    have e2:(i != p)=false:=by simpa using e
    rw [e2,ai]
    obtain ⟨i1,hi1,h⟩:=ob h
    rw [hi1,bs]
    exact ih m i1 s hl h
   ·have e:i≠p:=by simpa using he
    have e2:(i != p)=true:=by simpa using e
    rw [e2,ae]
    obtain ⟨R,hR,h⟩:=ob h
    rw [hR,bs]
    obtain ⟨a,ha,h⟩:=ob h
    rw [ha,bs]
    rcases oif h with ⟨hz,h⟩ | ⟨hz,h⟩
    ·have e3:(a.1 != 0)=false:=by simpa using hz
     rw [e3,ai]
     obtain ⟨i1,hi1,h⟩:=ob h
     rw [hi1,bs]
     exact ih m i1 s hl h
    ·have e3:(a.1 != 0)=true:=by simpa using hz
     rw [e3,ae]
     rw [hR,bs,ha,bs] at h
     rw [bs]
     obtain ⟨P,hP,h⟩:=ob h
     rw [hP,bs]
     unfold oT
     rw [ha,bs]
     obtain ⟨b,hb,h⟩:=ob h
     rw [hb,bs,D4 hN]
     obtain ⟨f,hf,h⟩:=ob h
     rw [hf,bs]
     obtain ⟨r,hr,h⟩:=ob h
     cases h0:f.2 with
     | true =>
      rw [h0] at hr
      rw [ae]
      rcases Ko hN (qz e) N m R p r hR hP hr with ⟨g1,R',g2,g3⟩ | ⟨g1,R',g2⟩
      ·rw [g2,bs]
       simp only [lpS,bs]
       rw [g3,bs,ae]
       rw [lpB] at h
       simp only [g1,ae] at h
       obtain ⟨i1,hi1,h⟩:=ob h
       rw [hi1,bs]
       exact ih r.1 i1 s (by rw [BZ g3];exact hl) h
      ·rw [g2,bs]
       simp only [lpS,bs]
       obtain ⟨q0,q1⟩:=ixI hR
       rw [BL q0 q1,bs,ai]
       rw [lpB] at h
       simp only [g1,ai] at h
       cases h
       exact .inr ⟨_,rfl,rfl⟩
     | false =>
      rw [h0] at hr
      rw [ai,bs]
      have g1:r.2.1=false:=by
       cases hN':N with
       | zero=>omega
       | succ K =>
        rw [hN'] at hr
        rw [dJ,hR,bs] at hr
        rcases oif hr with ⟨_,hr⟩ | ⟨_,hr⟩
        ·rw [ai] at hr;cases hr;rfl
        ·cases hr;rfl
      rw [lpB] at h
      simp only [g1,ai] at h
      cases h
      obtain ⟨q0,q1⟩:=ixI hR
      refine .inr ⟨_,rfl,?_⟩
      simp only [BL q0 q1,bs,ai]
  ·rw [hc,ai]
   cases h
   exact .inl ⟨m,_,rfl,hl,rfl⟩
theorem Ii (N:Nat):∀ (yN:Nat) (n p k:Int) (m:bQ),ia N yN n m p k=cQ N yN n m p k:=by
 intro yN
 induction yN with
 | zero=>intros;rfl
 | succ yN ih=>intro n p k m;rw [ia,cQ];simp only [ih]
theorem Ir {m m1 m2:bQ} {p q:Int} {a b:bw} (ha:ix m p=some a) (hb:ix m q=some b) (h1:sto m q a=some m1) (h2:sto m1 p b=some m2):∃ m3,sto m p b=some m3/\sto m3 q a=some m2:=by
 obtain ⟨q0,q1,rfl⟩:=BR h1
 obtain ⟨p0,p1,rfl⟩:=BR h2
 have p2:p<m.length:=by simpa using p1
 refine ⟨_,BL p0 p2,?_⟩
 rw [BL q0 (by simpa using q1)]
 obtain ⟨k,rfl⟩:=kf p0
 obtain ⟨l,rfl⟩:=kf q0
 by_cases e:k=l
 ·subst e
  obtain rfl:a=b:=by rw [ha] at hb;exact bL hb
  rfl
 ·simp only [eJ]
  rw [List.set_comm _ _ e]
theorem JB (hN:1073741824<=N) {n:Int}:∀ (yN:Nat) (m:bQ) (p:Int) (s:Sum (bw × Bool) (bQ × Int)),(m.length:Int)=n->cq N yN n m p=some s ->
  ic N yN n m p=some s:=by
 intro yN
 induction yN with
 | zero=>intro m p s _ h;cases h
 | succ yN ih =>
  intro m p s hl h
  rw [cq] at h
  rw [ic]
  rcases oif h with ⟨hc,h⟩ | ⟨hc,h⟩
  ·rw [hc,ae,Ii]
   obtain ⟨q,hq,h⟩:=ob h
   rw [hq,bs]
   simp only [lpB] at h ⊢
   rcases oif h with ⟨he,h⟩ | ⟨he,h⟩
   ·rw [he,ae];exact h
   ·rw [he,ai]
    obtain ⟨b,hb,h⟩:=ob h
    obtain ⟨a,ha,h⟩:=ob h
    rw [hb,bs] at h
    obtain ⟨m1,h1,h⟩:=ob h
    obtain ⟨m2,h2,h⟩:=ob h
    obtain ⟨m3,h3,h4⟩:=Ir ha hb h1 h2
    rw [hb,bs,ha,bs,bs,h3,bs,h4,bs]
    obtain ⟨r,hr,h⟩:=ob h
    unfold lH at hr
    obtain ⟨r1,hr1,hr⟩:=ob hr
    have hl2:(m2.length:Int)=n:=by rw [BZ h2,BZ h1];exact hl
    rcases I6 hN N m2 0 r1 hl2 hr1 with ⟨m',z,rfl,hl',g⟩ | ⟨m',rfl,g⟩
    ·rw [g,bs]
     simp only [lpS] at hr ⊢
     cases hr
     simp only [ae] at h
     obtain ⟨p1,hp1,h⟩:=ob h
     rw [hp1,bs]
     exact ih m' p1 s hl' h
    ·rw [g,bs]
     simp only [lpS] at hr ⊢
     cases hr
     simp only [ai] at h
     exact h
  ·rw [hc,ai];exact h
theorem K4 (hN:1073741824<=N) {n:Int} {m:bQ}:∀ (yN:Nat) (o:bw) (p:Int),hY N yN n m o p=cu N yN n m o p:=by
 intro yN
 induction yN with
 | zero=>intros;rfl
 | succ yN ih=>intro o p;rw [hY,cu];simp only [ih,D4 hN]
theorem DW {xs:bw} (h:xs.length<=1048576):jb N xs=some xs:=by
 unfold jb
 rw [bB (by decide) (by simpa using Nat.le_trans h (by decide)),bs,mc]
theorem LF (hN:1073741824<=N) {n:Int} {A:bQ} {b:bw} (hA:∀ i R,ix A i=some R->(R.length:Int)=n/\R.length<=1000/\gS N R=some true) (hb:∀ i r,ix b i=some r->VR N r) (hl:(A.length:Int)=n):∀ (yN:Nat) (m:bQ) (i:Int) (s:Sum (bw × Bool) (bQ × Int)),(m.length:Int)=i->i<=n->cp N yN A b n m i=some s ->
  hZ N yN b n m A n i=some s/\∀ r,s=.inr r->(r.1.length:Int)=n:=by
 intro yN
 induction yN with
 | zero=>intro m i s _ _ h;cases h
 | succ yN ih =>
  intro m i s hm hi h
  rw [cp] at h
  rw [hZ]
  rcases oif h with ⟨hc,h⟩ | ⟨hc,h⟩
  ·rw [hc,ae]
   obtain ⟨r,hr,h⟩:=ob h
   have hv:aR N r.1 r.2=some true:=hb _ _ hr
   rw [hv,bs,ae] at h
   obtain ⟨R,hR,h⟩:=ob h
   obtain ⟨g1,g2,g3⟩:=hA _ _ hR
   have e:((R.length:Int) != n)=false:=by simpa using g1
   rw [hR,bs,e,ai,g3,bs,ae,hr,bs,DW oa,bs]
   rw [hr,bs,bB (by decide) (by simp;omega),bs,mc] at h
   obtain ⟨R1,h1,h⟩:=ob h
   rw [h1,bs]
   obtain ⟨m1,h2,h⟩:=ob h
   rw [h2,bs]
   obtain ⟨i1,h3,h⟩:=ob h
   rw [h3,bs]
   have e1:=EE h2
   have e2:=Gm h3
   have e3:=ny hc
   exact ih m1 i1 s (by rw [e1,bZ,bP];omega) oa h
  ·rw [hc,ai]
   have e3:=of_decide_eq_false hc
   refine ⟨h,fun r e=>?_⟩
   cases h;cases e
   show (m.length:Int)=n
   omega
theorem K8 (N:Nat) {xs:bw} (hl:xs.length<=1000) (hv:∀ i r,ix xs i=some r->VR N r):∀ (c i yN:Nat),i+c=xs.length->c<yN->jV N yN xs (xs.length:Int) (i:Int)=some (.inr (xs.length:Int)):=by
 intro c
 induction c with
 | zero =>
  intro i yN hi hf
  obtain ⟨yN,rfl⟩:∃ k',yN=k'+1:=⟨yN-1,oa⟩
  rw [jV,aN oa,ai,show (i:Int)=(xs.length:Int) by omega]
 | succ c ih =>
  intro i yN hi hf
  obtain ⟨yN,rfl⟩:∃ k',yN=k'+1:=⟨yN-1,oa⟩
  have e:=jC (r:=xs) (j:=i) oa
  have h:aR N (aH xs i).1 (aH xs i).2=some true:=hv _ _ e
  rw [s7] at h
  rw [jV,aJ oa,ae,e,bs,h,bs,ae,bR oa oa,bs]
  exact ih (i+1) yN oa oa
theorem BF (hN:1073741824<=N) {xs:bw} (hl:xs.length<=1000) (hv:∀ i r,ix xs i=some r->VR N r):gS N xs=some true:=by
 unfold gS
 have:=K8 N hl hv xs.length 0 N oa oa
 rw [show ((0:Nat):Int)=0 from rfl] at this
 rw [this,bs];rfl
theorem HI (hN:1073741824<=N) {A:bQ} {b:bw} (h6:b.length<=6) (hl:A.length=b.length) (hA:∀ i R,ix A i=some R->R.length=b.length/\∀ j r,ix R j=some r->VR N r) (hb:∀ i r,ix b i=some r->VR N r) {s:bw × Bool} (h:cG N A b=some s):iV N A b=some s:=by
 unfold cG at h
 unfold iV
 rw [aN oa,ai] at h ⊢
 have e:((A.length:Int) != (b.length:Int))=false:=by simp [hl]
 rw [e,ai,BF hN oa hb,bs,ae]
 obtain ⟨q,hq,h⟩:=ob h
 obtain ⟨q',hq',hqq⟩:=Br hN (A:=A) oa (c:=b.length) oa b.length
 obtain rfl:q=q':=by rw [hq] at hq';exact bL hq'
 have hqt:q=true:=hqq.2 ⟨fun i hi=>by
  have e1:=hA _ _ (ixM hi)
  exact ⟨e1.1,fun j hj=>by have:=e1.2 _ _ (jC (r:=bI A i) (j:=j) oa);exact this⟩,hl⟩
 rw [hqt,ae] at h
 obtain ⟨s1,h1,h⟩:=ob h
 have g1:=LF hN (n:=(b.length:Int)) (A:=A) (b:=b) (fun i R hR=>by
  obtain ⟨e1,e2⟩:=hA i R hR
  exact ⟨oa,oa,BF hN oa e2⟩) hb oa N [] 0 s1 rfl oa h1
 rw [hl,g1.1,bs]
 cases s1 with
 | inl r=>exact h
 | inr r =>
  simp only [lpS] at h ⊢
  obtain ⟨s2,h2,h⟩:=ob h
  have hml:(r.1.length:Int)=(b.length:Int):=g1.2 r rfl
  rw [JB hN N r.1 0 s2 hml h2,bs]
  cases s2 with
  | inl r=>exact h
  | inr r =>
   simp only [lpS] at h ⊢
   rw [K4 hN]
   exact h
end
def Le {α:Type} (a b:Option α):Prop:=∀ r,a=some r->b=some r
theorem Le.refl {α:Type} (a:Option α):Le a a:=fun _ h=>h
theorem Le.bind {α β:Type} {a b:Option α} {f g:α->Option β} (h:Le a b) (hf:∀ x,Le (f x) (g x)):Le (a.bind f) (b.bind g):=fun r hr=>by
 obtain ⟨x,hx,hr⟩:=ob hr
 rw [h x hx]
 exact hf x r hr
theorem Le.cond {α:Type} {c:Bool} {a b x y:Option α} (h:Le a x) (h2:Le b y):Le (bif c then a else b) (bif c then x else y):=by cases c <;> assumption
theorem Le.lpS {R V S:Type} {s:Sum R V} {f f2:R->Option S} {g g2:V->Option S} (h:∀ q,Le (f q) (f2 q)) (h2:∀ v,Le (g v) (g2 v)):Le (lpS s f g) (lpS s f2 g2):=by
 cases s
 ·exact h _
 ·exact h2 _
theorem Le.lpB {V S:Type} {s:V} {g g2:V->Option S} (h2:∀ v,Le (g v) (g2 v)):Le (lpB s g) (lpB s g2):=h2 s
section
variable {N N':Nat}
theorem tL (hN:N<=N') (a0:Int) (a1:Int) (a2:Int):Le (dy N a0 a1 a2) (dy N' a0 a1 a2):=by
  unfold dy
  repeat' first
    | with_reducible exact Le.refl _
    | refine Le.bind ?_ fun _=>?_
    | refine Le.cond ?_ ?_
    | refine Le.lpS (fun _=>?_) (fun v=>?_)
    | refine Le.lpB (fun v=>?_)
theorem y9 (hN:N<=N'):∀ k k',k<=k'->∀ x0 x1,Le (eQ N k x0 x1) (eQ N' k' x0 x1):=by
  intro k
  induction k with
  | zero=>intro k' _ x0 x1 r h;cases h
  | succ k ih =>
    intro k' hk x0 x1
    obtain ⟨k',rfl⟩:∃ j,k'=j+1:=⟨k' - 1,oa⟩
    rw [eQ,eQ]
    repeat' first
      | with_reducible exact Le.refl _
      | exact ih _ (Nat.le_of_succ_le_succ hk) _ _
      | refine Le.bind ?_ fun _=>?_
      | refine Le.cond ?_ ?_
      | refine Le.lpS (fun _=>?_) (fun v=>?_)
      | refine Le.lpB (fun v=>?_)
theorem wJ (hN:N<=N') (a0:Int) (a1:Int):Le (gO N a0 a1) (gO N' a0 a1):=by
  unfold gO
  repeat' first
    | with_reducible exact Le.refl _
    | exact y9 hN _ _ hN _ _
    | refine Le.bind ?_ fun _=>?_
    | refine Le.cond ?_ ?_
    | refine Le.lpS (fun _=>?_) (fun v=>?_)
    | refine Le.lpB (fun v=>?_)
theorem dX (hN:N<=N') (a0:Int) (a1:Int):Le (aR N a0 a1) (aR N' a0 a1):=by
  unfold aR
  repeat' first
    | with_reducible exact Le.refl _
    | exact tL hN _ _ _
    | exact wJ hN _ _
    | refine Le.bind ?_ fun _=>?_
    | refine Le.cond ?_ ?_
    | refine Le.lpS (fun _=>?_) (fun v=>?_)
    | refine Le.lpB (fun v=>?_)
theorem nO (hN:N<=N') (a0:Int) (a1:Int):Le (cL N a0 a1) (cL N' a0 a1):=by
  unfold cL
  repeat' first
    | with_reducible exact Le.refl _
    | exact tL hN _ _ _
    | exact wJ hN _ _
    | exact dX hN _ _
    | refine Le.bind ?_ fun _=>?_
    | refine Le.cond ?_ ?_
    | refine Le.lpS (fun _=>?_) (fun v=>?_)
    | refine Le.lpB (fun v=>?_)
theorem qQ (hN:N<=N') (a0:Int) (a1:Int) (a2:Int) (a3:Int):Le (cM N a0 a1 a2 a3) (cM N' a0 a1 a2 a3):=by
  unfold cM
  repeat' first
    | with_reducible exact Le.refl _
    | exact dX hN _ _
    | exact nO hN _ _
    | refine Le.bind ?_ fun _=>?_
    | refine Le.cond ?_ ?_
    | refine Le.lpS (fun _=>?_) (fun v=>?_)
    | refine Le.lpB (fun v=>?_)
theorem wN (hN:N<=N') (a0:Int) (a1:Int) (a2:Int) (a3:Int):Le (iq N a0 a1 a2 a3) (iq N' a0 a1 a2 a3):=by
  unfold iq
  repeat' first
    | with_reducible exact Le.refl _
    | exact dX hN _ _
    | exact qQ hN _ _ _ _
    | refine Le.bind ?_ fun _=>?_
    | refine Le.cond ?_ ?_
    | refine Le.lpS (fun _=>?_) (fun v=>?_)
    | refine Le.lpB (fun v=>?_)
theorem qK (hN:N<=N') (a0:Int) (a1:Int) (a2:Int) (a3:Int):Le (cO N a0 a1 a2 a3) (cO N' a0 a1 a2 a3):=by
  unfold cO
  repeat' first
    | with_reducible exact Le.refl _
    | exact dX hN _ _
    | exact nO hN _ _
    | refine Le.bind ?_ fun _=>?_
    | refine Le.cond ?_ ?_
    | refine Le.lpS (fun _=>?_) (fun v=>?_)
    | refine Le.lpB (fun v=>?_)
theorem qT (hN:N<=N') (a0:Int) (a1:Int) (a2:Int) (a3:Int):Le (gK N a0 a1 a2 a3) (gK N' a0 a1 a2 a3):=by
  unfold gK
  repeat' first
    | with_reducible exact Le.refl _
    | exact dX hN _ _
    | exact nO hN _ _
    | refine Le.bind ?_ fun _=>?_
    | refine Le.cond ?_ ?_
    | refine Le.lpS (fun _=>?_) (fun v=>?_)
    | refine Le.lpB (fun v=>?_)
theorem s9 (hN:N<=N') (a0:Int) (a1:Int) (a2:Int) (a3:Int):Le (fA N a0 a1 a2 a3) (fA N' a0 a1 a2 a3):=by
  unfold fA
  repeat' first
    | with_reducible exact Le.refl _
    | exact dX hN _ _
    | refine Le.bind ?_ fun _=>?_
    | refine Le.cond ?_ ?_
    | refine Le.lpS (fun _=>?_) (fun v=>?_)
    | refine Le.lpB (fun v=>?_)
theorem uN (hN:N<=N'):∀ k k',k<=k'->∀ x0 x1 x2 x3 x4 x5 x6,Le (bV N k x0 x1 x2 x3 x4 x5 x6) (bV N' k' x0 x1 x2 x3 x4 x5 x6):=by
  intro k
  induction k with
  | zero=>intro k' _ x0 x1 x2 x3 x4 x5 x6 r h;cases h
  | succ k ih =>
    intro k' hk x0 x1 x2 x3 x4 x5 x6
    obtain ⟨k',rfl⟩:∃ j,k'=j+1:=⟨k' - 1,oa⟩
    rw [bV,bV]
    repeat' first
      | with_reducible exact Le.refl _
      | exact qQ hN _ _ _ _
      | exact qK hN _ _ _ _
      | exact ih _ (Nat.le_of_succ_le_succ hk) _ _ _ _ _ _ _
      | refine Le.bind ?_ fun _=>?_
      | refine Le.cond ?_ ?_
      | refine Le.lpS (fun _=>?_) (fun v=>?_)
      | refine Le.lpB (fun v=>?_)
theorem xx (hN:N<=N') (a0:List (Int × Int)) (a1:List (Int × Int)):Le (fq N a0 a1) (fq N' a0 a1):=by
  unfold fq
  repeat' first
    | with_reducible exact Le.refl _
    | exact uN hN _ _ hN _ _ _ _ _ _ _
    | refine Le.bind ?_ fun _=>?_
    | refine Le.cond ?_ ?_
    | refine Le.lpS (fun _=>?_) (fun v=>?_)
    | refine Le.lpB (fun v=>?_)
theorem qA (hN:N<=N'):∀ k k',k<=k'->∀ x0 x1 x2 x3,Le (bF N k x0 x1 x2 x3) (bF N' k' x0 x1 x2 x3):=by
  intro k
  induction k with
  | zero=>intro k' _ x0 x1 x2 x3 r h;cases h
  | succ k ih =>
    intro k' hk x0 x1 x2 x3
    obtain ⟨k',rfl⟩:∃ j,k'=j+1:=⟨k' - 1,oa⟩
    rw [bF,bF]
    repeat' first
      | with_reducible exact Le.refl _
      | exact xx hN _ _
      | exact ih _ (Nat.le_of_succ_le_succ hk) _ _ _ _
      | refine Le.bind ?_ fun _=>?_
      | refine Le.cond ?_ ?_
      | refine Le.lpS (fun _=>?_) (fun v=>?_)
      | refine Le.lpB (fun v=>?_)
theorem r9 (hN:N<=N') (a0:List (List (Int × Int))) (a1:List (Int × Int)):Le (dj N a0 a1) (dj N' a0 a1):=by
  unfold dj
  repeat' first
    | with_reducible exact Le.refl _
    | exact qA hN _ _ hN _ _ _ _
    | refine Le.bind ?_ fun _=>?_
    | refine Le.cond ?_ ?_
    | refine Le.lpS (fun _=>?_) (fun v=>?_)
    | refine Le.lpB (fun v=>?_)
theorem sE (hN:N<=N'):∀ k k',k<=k'->∀ x0 x1 x2,Le (cH N k x0 x1 x2) (cH N' k' x0 x1 x2):=by
  intro k
  induction k with
  | zero=>intro k' _ x0 x1 x2 r h;cases h
  | succ k ih =>
    intro k' hk x0 x1 x2
    obtain ⟨k',rfl⟩:∃ j,k'=j+1:=⟨k' - 1,oa⟩
    rw [cH,cH]
    repeat' first
      | with_reducible exact Le.refl _
      | exact ih _ (Nat.le_of_succ_le_succ hk) _ _ _
      | refine Le.bind ?_ fun _=>?_
      | refine Le.cond ?_ ?_
      | refine Le.lpS (fun _=>?_) (fun v=>?_)
      | refine Le.lpB (fun v=>?_)
theorem uq (hN:N<=N') (a0:List (Int × Int)) (a1:List (Int × Int)):Le (gh N a0 a1) (gh N' a0 a1):=by
  unfold gh
  repeat' first
    | with_reducible exact Le.refl _
    | exact sE hN _ _ hN _ _ _
    | refine Le.bind ?_ fun _=>?_
    | refine Le.cond ?_ ?_
    | refine Le.lpS (fun _=>?_) (fun v=>?_)
    | refine Le.lpB (fun v=>?_)
theorem vZ (hN:N<=N'):∀ k k',k<=k'->∀ x0 x1 x2 x3 x4,Le (fH N k x0 x1 x2 x3 x4) (fH N' k' x0 x1 x2 x3 x4):=by
  intro k
  induction k with
  | zero=>intro k' _ x0 x1 x2 x3 x4 r h;cases h
  | succ k ih =>
    intro k' hk x0 x1 x2 x3 x4
    obtain ⟨k',rfl⟩:∃ j,k'=j+1:=⟨k' - 1,oa⟩
    rw [fH,fH]
    repeat' first
      | with_reducible exact Le.refl _
      | exact dX hN _ _
      | exact ih _ (Nat.le_of_succ_le_succ hk) _ _ _ _ _
      | refine Le.bind ?_ fun _=>?_
      | refine Le.cond ?_ ?_
      | refine Le.lpS (fun _=>?_) (fun v=>?_)
      | refine Le.lpB (fun v=>?_)
theorem vE (hN:N<=N'):∀ k k',k<=k'->∀ x0 x1 x2 x3,Le (fG N k x0 x1 x2 x3) (fG N' k' x0 x1 x2 x3):=by
  intro k
  induction k with
  | zero=>intro k' _ x0 x1 x2 x3 r h;cases h
  | succ k ih =>
    intro k' hk x0 x1 x2 x3
    obtain ⟨k',rfl⟩:∃ j,k'=j+1:=⟨k' - 1,oa⟩
    rw [fG,fG]
    repeat' first
      | with_reducible exact Le.refl _
      | exact vZ hN _ _ hN _ _ _ _ _
      | exact ih _ (Nat.le_of_succ_le_succ hk) _ _ _ _
      | refine Le.bind ?_ fun _=>?_
      | refine Le.cond ?_ ?_
      | refine Le.lpS (fun _=>?_) (fun v=>?_)
      | refine Le.lpB (fun v=>?_)
theorem sA (hN:N<=N') (a0:List (List (Int × Int))) (a1:Int) (a2:Int):Le (gr N a0 a1 a2) (gr N' a0 a1 a2):=by
  unfold gr
  repeat' first
    | with_reducible exact Le.refl _
    | exact vE hN _ _ hN _ _ _ _
    | refine Le.bind ?_ fun _=>?_
    | refine Le.cond ?_ ?_
    | refine Le.lpS (fun _=>?_) (fun v=>?_)
    | refine Le.lpB (fun v=>?_)
theorem rj (hN:N<=N') (a0:List (List (Int × Int))) (a1:List (Int × Int)) (a2:List (Int × Int)):Le (dY N a0 a1 a2) (dY N' a0 a1 a2):=by
  unfold dY
  repeat' first
    | with_reducible exact Le.refl _
    | exact tL hN _ _ _
    | exact sA hN _ _ _
    | refine Le.bind ?_ fun _=>?_
    | refine Le.cond ?_ ?_
    | refine Le.lpS (fun _=>?_) (fun v=>?_)
    | refine Le.lpB (fun v=>?_)
theorem xi (hN:N<=N'):∀ k k',k<=k'->∀ x0 x1 x2 x3 x4 x5 x6,Le (dJ N k x0 x1 x2 x3 x4 x5 x6) (dJ N' k' x0 x1 x2 x3 x4 x5 x6):=by
  intro k
  induction k with
  | zero=>intro k' _ x0 x1 x2 x3 x4 x5 x6 r h;cases h
  | succ k ih =>
    intro k' hk x0 x1 x2 x3 x4 x5 x6
    obtain ⟨k',rfl⟩:∃ j,k'=j+1:=⟨k' - 1,oa⟩
    rw [dJ,dJ]
    repeat' first
      | with_reducible exact Le.refl _
      | exact wN hN _ _ _ _
      | exact qK hN _ _ _ _
      | exact ih _ (Nat.le_of_succ_le_succ hk) _ _ _ _ _ _ _
      | refine Le.bind ?_ fun _=>?_
      | refine Le.cond ?_ ?_
      | refine Le.lpS (fun _=>?_) (fun v=>?_)
      | refine Le.lpB (fun v=>?_)
theorem xc (hN:N<=N'):∀ k k',k<=k'->∀ x0 x1 x2,Le (d5 N k x0 x1 x2) (d5 N' k' x0 x1 x2):=by
  intro k
  induction k with
  | zero=>intro k' _ x0 x1 x2 r h;cases h
  | succ k ih =>
    intro k' hk x0 x1 x2
    obtain ⟨k',rfl⟩:∃ j,k'=j+1:=⟨k' - 1,oa⟩
    rw [d5,d5]
    repeat' first
      | with_reducible exact Le.refl _
      | exact qT hN _ _ _ _
      | exact xi hN _ _ hN _ _ _ _ _ _ _
      | exact ih _ (Nat.le_of_succ_le_succ hk) _ _ _
      | refine Le.bind ?_ fun _=>?_
      | refine Le.cond ?_ ?_
      | refine Le.lpS (fun _=>?_) (fun v=>?_)
      | refine Le.lpB (fun v=>?_)
theorem Bl (hN:N<=N') (a0:List (List (Int × Int))) (a1:Int):Le (lH N a0 a1) (lH N' a0 a1):=by
  unfold lH
  repeat' first
    | with_reducible exact Le.refl _
    | exact xc hN _ _ hN _ _ _
    | refine Le.bind ?_ fun _=>?_
    | refine Le.cond ?_ ?_
    | refine Le.lpS (fun _=>?_) (fun v=>?_)
    | refine Le.lpB (fun v=>?_)
theorem q8 (hN:N<=N'):∀ k k',k<=k'->∀ x0 x1 x2 x3 x4,Le (cp N k x0 x1 x2 x3 x4) (cp N' k' x0 x1 x2 x3 x4):=by
  intro k
  induction k with
  | zero=>intro k' _ x0 x1 x2 x3 x4 r h;cases h
  | succ k ih =>
    intro k' hk x0 x1 x2 x3 x4
    obtain ⟨k',rfl⟩:∃ j,k'=j+1:=⟨k' - 1,oa⟩
    rw [cp,cp]
    repeat' first
      | with_reducible exact Le.refl _
      | exact dX hN _ _
      | exact ih _ (Nat.le_of_succ_le_succ hk) _ _ _ _ _
      | refine Le.bind ?_ fun _=>?_
      | refine Le.cond ?_ ?_
      | refine Le.lpS (fun _=>?_) (fun v=>?_)
      | refine Le.lpB (fun v=>?_)
theorem ro (hN:N<=N'):∀ k k',k<=k'->∀ x0 x1 x2 x3,Le (cQ N k x0 x1 x2 x3) (cQ N' k' x0 x1 x2 x3):=by
  intro k
  induction k with
  | zero=>intro k' _ x0 x1 x2 x3 r h;cases h
  | succ k ih =>
    intro k' hk x0 x1 x2 x3
    obtain ⟨k',rfl⟩:∃ j,k'=j+1:=⟨k' - 1,oa⟩
    rw [cQ,cQ]
    repeat' first
      | with_reducible exact Le.refl _
      | exact ih _ (Nat.le_of_succ_le_succ hk) _ _ _ _
      | refine Le.bind ?_ fun _=>?_
      | refine Le.cond ?_ ?_
      | refine Le.lpS (fun _=>?_) (fun v=>?_)
      | refine Le.lpB (fun v=>?_)
theorem rk (hN:N<=N'):∀ k k',k<=k'->∀ x0 x1 x2,Le (cq N k x0 x1 x2) (cq N' k' x0 x1 x2):=by
  intro k
  induction k with
  | zero=>intro k' _ x0 x1 x2 r h;cases h
  | succ k ih =>
    intro k' hk x0 x1 x2
    obtain ⟨k',rfl⟩:∃ j,k'=j+1:=⟨k' - 1,oa⟩
    rw [cq,cq]
    repeat' first
      | with_reducible exact Le.refl _
      | exact Bl hN _ _
      | exact ro hN _ _ hN _ _ _ _
      | exact ih _ (Nat.le_of_succ_le_succ hk) _ _ _
      | refine Le.bind ?_ fun _=>?_
      | refine Le.cond ?_ ?_
      | refine Le.lpS (fun _=>?_) (fun v=>?_)
      | refine Le.lpB (fun v=>?_)
theorem rg (hN:N<=N'):∀ k k',k<=k'->∀ x0 x1 x2 x3,Le (cu N k x0 x1 x2 x3) (cu N' k' x0 x1 x2 x3):=by
  intro k
  induction k with
  | zero=>intro k' _ x0 x1 x2 x3 r h;cases h
  | succ k ih =>
    intro k' hk x0 x1 x2 x3
    obtain ⟨k',rfl⟩:∃ j,k'=j+1:=⟨k' - 1,oa⟩
    rw [cu,cu]
    repeat' first
      | with_reducible exact Le.refl _
      | exact qT hN _ _ _ _
      | exact ih _ (Nat.le_of_succ_le_succ hk) _ _ _ _
      | refine Le.bind ?_ fun _=>?_
      | refine Le.cond ?_ ?_
      | refine Le.lpS (fun _=>?_) (fun v=>?_)
      | refine Le.lpB (fun v=>?_)
theorem sO (hN:N<=N') (a0:List (List (Int × Int))) (a1:List (Int × Int)):Le (cG N a0 a1) (cG N' a0 a1):=by
  unfold cG
  repeat' first
    | with_reducible exact Le.refl _
    | exact sA hN _ _ _
    | exact q8 hN _ _ hN _ _ _ _ _
    | exact rk hN _ _ hN _ _ _
    | exact rg hN _ _ hN _ _ _ _
    | refine Le.bind ?_ fun _=>?_
    | refine Le.cond ?_ ?_
    | refine Le.lpS (fun _=>?_) (fun v=>?_)
    | refine Le.lpB (fun v=>?_)
theorem xu (hN:N<=N'):∀ k k',k<=k'->∀ x0 x1 x2 x3 x4 x5,Le (eN N k x0 x1 x2 x3 x4 x5) (eN N' k' x0 x1 x2 x3 x4 x5):=by
  intro k
  induction k with
  | zero=>intro k' _ x0 x1 x2 x3 x4 x5 r h;cases h
  | succ k ih =>
    intro k' hk x0 x1 x2 x3 x4 x5
    obtain ⟨k',rfl⟩:∃ j,k'=j+1:=⟨k' - 1,oa⟩
    rw [eN,eN]
    repeat' first
      | with_reducible exact Le.refl _
      | exact dX hN _ _
      | exact ih _ (Nat.le_of_succ_le_succ hk) _ _ _ _ _ _
      | refine Le.bind ?_ fun _=>?_
      | refine Le.cond ?_ ?_
      | refine Le.lpS (fun _=>?_) (fun v=>?_)
      | refine Le.lpB (fun v=>?_)
theorem xC (hN:N<=N'):∀ k k',k<=k'->∀ x0 x1 x2 x3 x4 x5 x6,Le (dH N k x0 x1 x2 x3 x4 x5 x6) (dH N' k' x0 x1 x2 x3 x4 x5 x6):=by
  intro k
  induction k with
  | zero=>intro k' _ x0 x1 x2 x3 x4 x5 x6 r h;cases h
  | succ k ih =>
    intro k' hk x0 x1 x2 x3 x4 x5 x6
    obtain ⟨k',rfl⟩:∃ j,k'=j+1:=⟨k' - 1,oa⟩
    rw [dH,dH]
    repeat' first
      | with_reducible exact Le.refl _
      | exact s9 hN _ _ _ _
      | exact ih _ (Nat.le_of_succ_le_succ hk) _ _ _ _ _ _ _
      | refine Le.bind ?_ fun _=>?_
      | refine Le.cond ?_ ?_
      | refine Le.lpS (fun _=>?_) (fun v=>?_)
      | refine Le.lpB (fun v=>?_)
theorem AJ (hN:N<=N') (a0:List (List (Int × Int))) (a1:List (Int × Int)) (a2:List (Int × Int)) (a3:List (Int × Int)) (a4:Int):Le (gQ N a0 a1 a2 a3 a4) (gQ N' a0 a1 a2 a3 a4):=by
  unfold gQ
  repeat' first
    | with_reducible exact Le.refl _
    | exact r9 hN _ _
    | exact rj hN _ _ _
    | exact xu hN _ _ hN _ _ _ _ _ _
    | exact xC hN _ _ hN _ _ _ _ _ _ _
    | refine Le.bind ?_ fun _=>?_
    | refine Le.cond ?_ ?_
    | refine Le.lpS (fun _=>?_) (fun v=>?_)
    | refine Le.lpB (fun v=>?_)
theorem vG (hN:N<=N'):∀ k k',k<=k'->∀ x0 x1 x2 x3 x4 x5 x6 x7 x8 x9 x10 x11 x12 x13 x14,Le (dN N k x0 x1 x2 x3 x4 x5 x6 x7 x8 x9 x10 x11 x12 x13 x14) (dN N' k' x0 x1 x2 x3 x4 x5 x6 x7 x8 x9 x10 x11 x12 x13 x14):=by
  intro k
  induction k with
  | zero=>intro k' _ x0 x1 x2 x3 x4 x5 x6 x7 x8 x9 x10 x11 x12 x13 x14 r h;cases h
  | succ k ih =>
    intro k' hk x0 x1 x2 x3 x4 x5 x6 x7 x8 x9 x10 x11 x12 x13 x14
    obtain ⟨k',rfl⟩:∃ j,k'=j+1:=⟨k' - 1,oa⟩
    rw [dN,dN]
    repeat' first
      | with_reducible exact Le.refl _
      | exact ih _ (Nat.le_of_succ_le_succ hk) _ _ _ _ _ _ _ _ _ _ _ _ _ _ _
      | refine Le.bind ?_ fun _=>?_
      | refine Le.cond ?_ ?_
      | refine Le.lpS (fun _=>?_) (fun v=>?_)
      | refine Le.lpB (fun v=>?_)
theorem wi (hN:N<=N'):∀ k k',k<=k'->∀ x0 x1 x2 x3 x4 x5 x6 x7 x8 x9 x10 x11,Le (dr N k x0 x1 x2 x3 x4 x5 x6 x7 x8 x9 x10 x11) (dr N' k' x0 x1 x2 x3 x4 x5 x6 x7 x8 x9 x10 x11):=by
  intro k
  induction k with
  | zero=>intro k' _ x0 x1 x2 x3 x4 x5 x6 x7 x8 x9 x10 x11 r h;cases h
  | succ k ih =>
    intro k' hk x0 x1 x2 x3 x4 x5 x6 x7 x8 x9 x10 x11
    obtain ⟨k',rfl⟩:∃ j,k'=j+1:=⟨k' - 1,oa⟩
    rw [dr,dr]
    repeat' first
      | with_reducible exact Le.refl _
      | exact vG hN _ _ hN _ _ _ _ _ _ _ _ _ _ _ _ _ _ _
      | exact ih _ (Nat.le_of_succ_le_succ hk) _ _ _ _ _ _ _ _ _ _ _ _
      | refine Le.bind ?_ fun _=>?_
      | refine Le.cond ?_ ?_
      | refine Le.lpS (fun _=>?_) (fun v=>?_)
      | refine Le.lpB (fun v=>?_)
theorem wl (hN:N<=N'):∀ k k',k<=k'->∀ x0 x1 x2 x3 x4 x5 x6 x7 x8 x9 x10 x11,Le (dp N k x0 x1 x2 x3 x4 x5 x6 x7 x8 x9 x10 x11) (dp N' k' x0 x1 x2 x3 x4 x5 x6 x7 x8 x9 x10 x11):=by
  intro k
  induction k with
  | zero=>intro k' _ x0 x1 x2 x3 x4 x5 x6 x7 x8 x9 x10 x11 r h;cases h
  | succ k ih =>
    intro k' hk x0 x1 x2 x3 x4 x5 x6 x7 x8 x9 x10 x11
    obtain ⟨k',rfl⟩:∃ j,k'=j+1:=⟨k' - 1,oa⟩
    rw [dp,dp]
    repeat' first
      | with_reducible exact Le.refl _
      | exact uq hN _ _
      | exact ih _ (Nat.le_of_succ_le_succ hk) _ _ _ _ _ _ _ _ _ _ _ _
      | refine Le.bind ?_ fun _=>?_
      | refine Le.cond ?_ ?_
      | refine Le.lpS (fun _=>?_) (fun v=>?_)
      | refine Le.lpB (fun v=>?_)
theorem vQ (hN:N<=N'):∀ k k',k<=k'->∀ x0 x1 x2 x3 x4 x5 x6 x7 x8,Le (cg N k x0 x1 x2 x3 x4 x5 x6 x7 x8) (cg N' k' x0 x1 x2 x3 x4 x5 x6 x7 x8):=by
  intro k
  induction k with
  | zero=>intro k' _ x0 x1 x2 x3 x4 x5 x6 x7 x8 r h;cases h
  | succ k ih =>
    intro k' hk x0 x1 x2 x3 x4 x5 x6 x7 x8
    obtain ⟨k',rfl⟩:∃ j,k'=j+1:=⟨k' - 1,oa⟩
    rw [cg,cg]
    repeat' first
      | with_reducible exact Le.refl _
      | exact sO hN _ _
      | exact AJ hN _ _ _ _ _
      | exact wi hN _ _ hN _ _ _ _ _ _ _ _ _ _ _ _
      | exact wl hN _ _ hN _ _ _ _ _ _ _ _ _ _ _ _
      | exact ih _ (Nat.le_of_succ_le_succ hk) _ _ _ _ _ _ _ _ _
      | refine Le.bind ?_ fun _=>?_
      | refine Le.cond ?_ ?_
      | refine Le.lpS (fun _=>?_) (fun v=>?_)
      | refine Le.lpB (fun v=>?_)
end
theorem Ly (a b:Int):ml a b=ml b a:=by unfold ml;rw [Int.mul_comm]
section
variable {N:Nat}
theorem NN (hN:1073741824<=N) (a b:Int):cM N a b 0 0=some ((0,0),false):=by
 unfold cM
 rw [Ab hN]
 rcases mi hN (a,b) with h | h
 ·have h:aR N a b=some true:=h
  rw [h];rfl
 ·have h:aR N a b=some false:=h
  rw [h];rfl
theorem H4 (hN:1073741824<=N) {a b:bw} {u v:Int}:∀ (yN:Nat) (x y i:Int),j9 N yN a b u v x y (a.length:Int) i=bV N yN a b u v x y i:=by
 intro yN
 induction yN with
 | zero=>intros;rfl
 | succ yN ih =>
  intro x y i
  rw [j9,bV]
  simp only [DK,DT]
  cases decide (i<(a.length:Int)) with
  | false=>rfl
  | true =>
   simp only [ae]
   cases ix a i with
   | none=>rfl
   | some p =>
    cases ix b i with
    | none=>rfl
    | some q =>
     simp only [bs]
     cases hm:cO N p.1 p.2 q.1 q.2 with
     | none=>rfl
     | some r =>
      simp only [bs]
      cases hr:r.2 with
      | false =>
       have:=IT hm
       rw [hr] at this
       rcases this with ⟨h,_⟩ | ⟨_,h⟩
       ·cases h
       ·rw [h]
        simp only [NN hN,bs,ai]
      | true =>
       simp only [ae]
       cases cM N x y r.1.1 r.1.2 with
       | none=>rfl
       | some s =>
        simp only [bs]
        cases s.2 with
        | false=>rfl
        | true =>
         simp only [ae]
         cases ad i 1 with
         | none=>rfl
         | some i1=>simp only [bs];exact ih _ _ _
theorem Ev (hN:1073741824<=N) (a b:bw):kA N a b=fq N a b:=by
 unfold kA fq
 simp only [H4 hN]
theorem HU (hN:1073741824<=N) {A:bQ} {x:bw}:∀ (yN:Nat) (y:bw) (i:Int),gC N yN x y A (A.length:Int) i=bF N yN A x y i:=by
 intro yN
 induction yN with
 | zero=>intros;rfl
 | succ yN ih =>
  intro y i
  rw [gC,bF]
  simp only [Ev hN,ih]
theorem Jt (hN:1073741824<=N) (A:bQ) (x:bw):ip N A x=dj N A x:=by
 unfold ip dj
 simp only [HU hN]
theorem Jf {A:bQ} {x:bw}:∀ (yN:Nat) (y:bw) (i:Int) (q:bw × Bool),bF N yN A x y i=some (.inl q)->q=([],false):=by
 intro yN
 induction yN with
 | zero=>intro y i q h;cases h
 | succ yN ih =>
  intro y i q h
  rw [bF] at h
  rcases oif h with ⟨_,h⟩ | ⟨_,h⟩
  ·obtain ⟨_,_,h⟩:=ob h
   obtain ⟨_,_,h⟩:=ob h
   rcases oif h with ⟨_,h⟩ | ⟨_,h⟩
   ·obtain ⟨_,_,h⟩:=ob h
    obtain ⟨_,_,h⟩:=ob h
    exact ih _ _ _ h
   ·cases h;rfl
  ·cases h
theorem IJ {A:bQ} {x:bw} {r:bw × Bool} (h:dj N A x=some r) (hr:r.2=false):r.1=[]:=by
 unfold dj at h
 obtain ⟨s,hs,h⟩:=ob h
 cases s with
 | inl q =>
  have:=Jf N [] 0 q hs
  simp only [lpS] at h
  cases h;rw [this]
 | inr v =>
  simp only [lpS] at h
  cases h;cases hr
theorem Kp {x:bw} (hv:∀ i r,ix x i=some r->VR N r) {sg:Int} {A:bQ} {B C:bw}:∀ (yN:Nat) (i:Int),lC N yN x sg A B C x (x.length:Int) i=eN N yN x sg A B C i:=by
 intro yN
 induction yN with
 | zero=>intros;rfl
 | succ yN ih =>
  intro i
  rw [lC,eN]
  cases decide (i<(x.length:Int)) with
  | false=>rfl
  | true =>
   simp only [ae]
   cases hx:ix x i with
   | none=>rfl
   | some r =>
    have h:aR N r.1 r.2=some true:=hv _ _ hx
    simp only [bs,h,ae,ih]
theorem KV {sg:Int} {A:bQ} {B C y:bw} {u:Bool}:∀ (yN:Nat) (i:Int),lw N yN sg A B C y (y.length:Int) i=dH N yN sg A B C y u i:=by
 intro yN
 induction yN with
 | zero=>intros;rfl
 | succ yN ih =>
  intro i
  rw [lw,dH]
  simp only [Dr,ih,Ly sg]
theorem Ie (hN:1073741824<=N) {A:bQ} {B C x:bw} {sg:Int} (h1:dZ N A B C=some true) (h2:dY N A B C=some true) (hl:x.length<=1000) (hv:∀ i r,ix x i=some r->VR N r):nz N A B C x sg=gQ N A B C x sg:=by
 unfold nz gQ
 rw [h1,h2]
 simp only [bs,ae]
 cases ((x.length:Int) != (C.length:Int)) with
 | true=>rfl
 | false =>
  simp only [ai,BF hN hl hv,bs,ae,Kp hv]
  cases eN N N x sg A B C 0 with
  | none=>rfl
  | some s =>
   simp only [bs]
   cases s with
   | inl q=>rfl
   | inr q =>
    simp only [lpS]
    rw [Jt hN]
    cases hm:dj N A x with
    | none=>rfl
    | some r =>
     simp only [bs]
     cases hr:r.2 with
     | true=>simp only [ae,KV (u:=true)]
     | false =>
      have he:=IJ hm hr
      rw [he,ai]
      have:dH N N sg A B C [] false 0=some (.inr 0):=by
       obtain ⟨K,rfl⟩:∃ K,N=K+1:=⟨N-1,oa⟩
       rw [dH];rfl
      rw [this];rfl
theorem NH (hN:1073741824<=N) {A:bQ} {c:Nat} (hA:A.length<=1000) (hc:c<=1000) (hr:∀ i R,ix A i=some R->R.length=c/\∀ j r,ix R j=some r->VR N r):∀ (k i yN:Nat),i+k=A.length->k<yN->fj N yN (c:Int) A (A.length:Int) (i:Int)=some (.inr (A.length:Int)):=by
 intro k
 induction k with
 | zero =>
  intro i yN hi hf
  obtain ⟨yN,rfl⟩:∃ k',yN=k'+1:=⟨yN-1,oa⟩
  rw [fj,aN oa,ai,show (i:Int)=(A.length:Int) by omega]
 | succ k ih =>
  intro i yN hi hf
  obtain ⟨yN,rfl⟩:∃ k',yN=k'+1:=⟨yN-1,oa⟩
  have e:=ixM (m:=A) (i:=i) oa
  obtain ⟨g1,g2⟩:=hr _ _ e
  have e2:(((bI A i).length:Int) != (c:Int))=false:=by simp [g1]
  rw [fj,aJ oa,ae,e,bs,e2,ai,BF hN oa g2,bs,ae,bR oa oa,bs]
  exact ih (i+1) yN oa oa
theorem vf {α:Type} {xs:List α} {i:Int} {x:α} (h:ix xs i=some x):x∈xs:=by
 obtain ⟨k,rfl,hk,rfl⟩:=gq h
 exact bA hk
theorem ED (hN:1073741824<=N) {n:Nat} (i:Int) (r:dK) (h:ix (aI n) i=some r):VR N r:=by
 have:=vf h
 unfold aI at this
 rw [wW this]
 exact kn hN (by decide) (by decide)
theorem FT (hN:1073741824<=N) {n:Nat} {yK:List aV} (i:Int) (R:bw) (h:ix (bl n yK) i=some R):R.length=yK.length/\∀ j r,ix R j=some r->VR N r:=by
 have:=vf h
 unfold bl at this
 obtain ⟨v,_,rfl⟩:=dh.1 this
 refine ⟨by unfold f7;rw [bT],fun j r hr=>?_⟩
 have:=vf hr
 unfold f7 at this
 obtain ⟨a,_,rfl⟩:=dh.1 this
 exact DM hN (oO _ _)
theorem DI (hN:1073741824<=N) {n:Nat} {yK:List aV} (n1:1<=n) (n5:n<=5) (a1:1<=yK.length) (a4:yK.length<=4):dZ N (bl n yK) (aI n) (aI yK.length)=some true:=by
 have l1:(aI n).length=n:=by unfold aI;simp
 have l2:(aI yK.length).length=yK.length:=by unfold aI;simp
 unfold dZ
 have e:(((bl n yK).length:Int) != (n:Int))=false:=by simp [dG]
 have hL:=NH hN (A:=bl n yK) (c:=yK.length) (by rw [dG];omega) oa (FT hN) (bl n yK).length 0 N oa (by rw [dG];omega)
 rw [show ((0:Nat):Int)=0 from rfl] at hL
 rw [l1,l2,gi,bs,show inR (yK.length:Int) 1 5=true from ck.2 oa,ae,gi,bs,show inR (n:Int) 1 5=true from ck.2 oa,ae,e,ai,BF hN oa (ED hN),bs,ae,BF hN oa (ED hN),bs,ae,hL,bs]
 rfl
end
section
variable {N:Nat}
theorem yn {α:Type} [DecidableEq α] {a b:List α} {i:Nat} (h1:i<a.length) (h2:i<b.length):(a.drop i=b.drop i)↔(a[i]=b[i]/\a.drop (i+1)=b.drop (i+1)):=by
 rw [tQ h1,tQ h2,xJ]
theorem Hs (p q:dK):(p.1 == q.1&&p.2 == q.2)=decide (p=q):=by
 obtain ⟨a,b⟩:=p;obtain ⟨c,d⟩:=q
 by_cases h:a=c <;> by_cases h2:b=d <;> simp [h,h2]
theorem Nt {a b:bw} (hl:a.length=b.length) (h6:a.length<=1000):∀ (c i yN:Nat),i+c=a.length->c<yN->gV N yN a b (a.length:Int) (i:Int)=some (if a.drop i=b.drop i then .inr (a.length:Int) else .inl false):=by
 intro c
 induction c with
 | zero =>
  intro i yN hi hf
  obtain ⟨yN,rfl⟩:∃ k',yN=k'+1:=⟨yN-1,oa⟩
  rw [gV,aN oa,ai,List.drop_eq_nil_of_le oa,List.drop_eq_nil_of_le oa,aK rfl,show (i:Int)=(a.length:Int) by omega]
 | succ c ih =>
  intro i yN hi hf
  obtain ⟨yN,rfl⟩:∃ k',yN=k'+1:=⟨yN-1,oa⟩
  rw [gV,aJ oa,ae,bh oa,bs,bh oa,bs,Hs]
  by_cases h:a[i]'oa=b[i]'oa
  ·rw [aJ h,ae,bR oa oa,bs]
   have:=ih (i+1) yN oa oa
   rw [show ((i:Int)+1)=((i+1:Nat):Int) by omega,this]
   have e:(a.drop i=b.drop i)↔(a.drop (i+1)=b.drop (i+1)):=by rw [yn oa oa];simp [h]
   simp only [e]
  ·rw [aN h,ai,aS (by rw [yn oa oa];exact fun h'=>h h'.1)]
theorem Ni {a b:bw} (hl:a.length=b.length) (h6:a.length<=1000):∀ (c i yN:Nat),i+c=a.length->c<yN->cH N yN a b (i:Int)=some (if a.drop i=b.drop i then .inr (a.length:Int) else .inl false):=by
 intro c
 induction c with
 | zero =>
  intro i yN hi hf
  obtain ⟨yN,rfl⟩:∃ k',yN=k'+1:=⟨yN-1,oa⟩
  rw [cH,aN oa,ai,List.drop_eq_nil_of_le oa,List.drop_eq_nil_of_le oa,aK rfl,show (i:Int)=(a.length:Int) by omega]
 | succ c ih =>
  intro i yN hi hf
  obtain ⟨yN,rfl⟩:∃ k',yN=k'+1:=⟨yN-1,oa⟩
  rw [cH,aJ oa,ae,bh oa,bs,bh oa,bs,Hs]
  by_cases h:a[i]'oa=b[i]'oa
  ·rw [aJ h,ae,bR oa oa,bs]
   have:=ih (i+1) yN oa oa
   rw [show ((i:Int)+1)=((i+1:Nat):Int) by omega,this]
   have e:(a.drop i=b.drop i)↔(a.drop (i+1)=b.drop (i+1)):=by rw [yn oa oa];simp [h]
   simp only [e]
  ·rw [aN h,ai,aS (by rw [yn oa oa];exact fun h'=>h h'.1)]
theorem Lw (hN:1073741824<=N) {a b:bw} (h6:a.length<=1000):jD N a b=some (decide (a=b)):=by
 unfold jD
 by_cases hl:a.length=b.length
 ·have:=Nt (N:=N) hl h6 a.length 0 N oa oa
  rw [show ((0:Nat):Int)=0 from rfl] at this
  rw [show ((a.length:Int) != (b.length:Int))=false by simp [hl],ai,this,bs,gE,gE]
  by_cases e:a=b
  ·rw [aK e,aJ e];rfl
  ·rw [aS e,aN e];rfl
 ·rw [show ((a.length:Int) != (b.length:Int))=true by simp;omega,ae,aN (fun e=>hl (by rw [e]))]
theorem KS (hN:1073741824<=N) {a b:bw} (h6:a.length<=1000):gh N a b=some (decide (a=b)):=by
 unfold gh
 by_cases hl:a.length=b.length
 ·have:=Ni (N:=N) hl h6 a.length 0 N oa oa
  rw [show ((0:Nat):Int)=0 from rfl] at this
  rw [show ((a.length:Int) != (b.length:Int))=false by simp [hl],ai,this,bs,gE,gE]
  by_cases e:a=b
  ·rw [aK e,aJ e];rfl
  ·rw [aS e,aN e];rfl
 ·rw [show ((a.length:Int) != (b.length:Int))=true by simp;omega,ae,aN (fun e=>hl (by rw [e]))]
theorem OG (hN:1073741824<=N) {sg n m i:Int} {A:bQ} {B C x:bw} {L:List (yP)} {out:bQ} (ho:out.length<=100000) (hr:∀ y∈out,y.length<=1000):∀ (c k yN:Nat) (b:Bool),k+c=out.length->c<yN ->
  dp N yN sg A B C out n m L i x b (k:Int)=some (b||decide (x∈out.drop k),(out.length:Int)):=by
 intro c
 induction c with
 | zero =>
  intro k yN b hk hf
  obtain ⟨yN,rfl⟩:∃ k',yN=k'+1:=⟨yN-1,oa⟩
  rw [dp,aN oa,ai,List.drop_eq_nil_of_le oa,show (k:Int)=(out.length:Int) by omega]
  simp
 | succ c ih =>
  intro k yN b hk hf
  obtain ⟨yN,rfl⟩:∃ k',yN=k'+1:=⟨yN-1,oa⟩
  have hk':k<out.length:=by omega
  rw [dp,aJ oa,ae,tQ hk']
  cases b with
  | true =>
   rw [ae,bR oa oa,bs]
   have:=ih (k+1) yN true oa oa
   rw [show ((k:Int)+1)=((k+1:Nat):Int) by omega,this]
   simp
  | false =>
   rw [ai,bh hk',bs,KS hN (hr _ (bA hk')),bs,bR oa oa,bs]
   have:=ih (k+1) yN (decide (out[k]=x)) oa oa
   rw [show ((k:Int)+1)=((k+1:Nat):Int) by omega,this]
   have e:(x=out[k])↔(out[k]=x):=⟨Eq.symm,Eq.symm⟩
   simp only [bX,e,tP,Bool.decide_or]
theorem Ow (hN:1073741824<=N) {rec:Int->(yP)->Int->(List (List (Int × Int)))->(List (Int × Int))->(List (List (Int × Int)))->(List (Int × Int))->(List (Int × Int))->Int->(List (List (Int × Int)))->Option (List (List (Int × Int)))} {cs:yP} {n sg:Int} {R A:bQ} {H B C x:bw} {out:bQ} (ho:out.length<=100000) (hx:x.length<=1000):∀ (c k yN:Nat),k+c=out.length->c<yN ->
  je rec N yN cs n R H A B C sg out x out (out.length:Int) (k:Int)=some (if x∈out.drop k then .inl out else .inr (out.length:Int)):=by
 intro c
 induction c with
 | zero =>
  intro k yN hk hf
  obtain ⟨yN,rfl⟩:∃ k',yN=k'+1:=⟨yN-1,oa⟩
  rw [je,aN oa,ai,List.drop_eq_nil_of_le oa,aS (by simp),show (k:Int)=(out.length:Int) by omega]
 | succ c ih =>
  intro k yN hk hf
  obtain ⟨yN,rfl⟩:∃ k',yN=k'+1:=⟨yN-1,oa⟩
  have hk':k<out.length:=by omega
  rw [je,aJ oa,ae,tQ hk',bh hk',bs,Lw hN hx,bs]
  by_cases e:x=out[k]
  ·rw [aJ e,ae,aK (bX.2 (.inl e))]
  ·rw [aN e,ai,bR oa oa,bs]
   have:=ih (k+1) yN oa oa
   rw [show ((k:Int)+1)=((k+1:Nat):Int) by omega,this]
   simp only [bX,e,false_or]
def md (N n:Nat) (yK:List aV) (out:bQ) (l:yP):Option bQ :=
 (cG N (fm (bl n yK) n yK.length l) (eT n l)).bind fun r =>
 bif r.2 then (gQ N (bl n yK) (aI n) (aI yK.length) r.1 1).bind fun b =>
  bif b then (bif decide (r.1∈out) then some out else apd 24 out [r.1]) else some out
 else some out
def nW (N n:Nat) (yK:List aV):List (yP)->bQ->Option bQ
 | [],out=>some out
 | l :: ls,out=>(md N n yK out l).bind (nW N n yK ls)
theorem Cm {n:Nat} {yK:List aV}:∀ (a b:List (yP)) (out:bQ),nW N n yK (a++b) out=(nW N n yK a out).bind (nW N n yK b)
 | [],_,_=>rfl
 | l :: a,b,out=>by
  show (md N n yK out l).bind (nW N n yK (a++b))=((md N n yK out l).bind (nW N n yK a)).bind (nW N n yK b)
  cases md N n yK out l with
  | none=>rfl
  | some o=>exact Cm a b o
def Ok (na c:Nat) (out:bQ):Prop:=out.length<=c/\∀ y∈out,y.length=na
theorem E9 (hN:1073741824<=N) {n:Nat} {yK:List aV} (a4:yK.length<=4) {l:yP} (hl:l.length=yK.length) {out o:bQ} {c:Nat} (ho:Ok yK.length c out) (h:md N n yK out l=some o):Ok yK.length (c+1) o:=by
 unfold md at h
 obtain ⟨r,hr,h⟩:=ob h
 have same:some out=some o->Ok yK.length (c+1) o:=fun h=>by cases h;exact ⟨by have:=ho.1;omega,ho.2⟩
 rcases oif h with ⟨h2,h⟩ | ⟨_,h⟩
 rotate_left
 ·exact same h
 obtain ⟨b,_,h⟩:=ob h
 rcases oif h with ⟨_,h⟩ | ⟨_,h⟩
 rotate_left
 ·exact same h
 rcases oif h with ⟨_,h⟩ | ⟨_,h⟩
 ·exact same h
 have hbl:(eT n l).length=yK.length:=by unfold eT lg;rw [bT,bT,hl]
 obtain ⟨x,ok,es,hsol⟩:=qd hN (n:=yK.length) oa (uY (n:=n) (yK:=yK) hl) hbl
 rw [hr] at es
 obtain rfl:=bL es
 rw [EE h]
 refine ⟨by rw [bZ,bP];have:=ho.1;omega,fun y hy=>?_⟩
 rcases cU.1 hy with h | h
 ·exact ho.2 y h
 ·rw [d7.1 h];exact (hsol h2).1
theorem Jo (hN:1073741824<=N) {n:Nat} {yK:List aV} (n5:n<=5) (a4:yK.length<=4) {L:List (yP)} (hL:L.length<=10000) (hm:∀ l∈L,l.length=yK.length/\∀ v∈l,0<=v/\v<(n+yK.length:Nat)):∀ (c i yN:Nat) (out:bQ) (s:bQ × Int),i+c=L.length->Ok yK.length i out ->
  cg N yN 1 (bl n yK) (aI n) (aI yK.length) out (yK.length:Int) (n:Int) L (i:Int)=some s->nW N n yK (L.drop i) out=some s.1:=by
 intro c
 induction c with
 | zero =>
  intro i yN out s hi ho h
  cases yN with
  | zero=>cases h
  | succ yN =>
   rw [cg,aN oa,ai] at h
   cases h
   rw [List.drop_eq_nil_of_le oa];rfl
 | succ c ih =>
  intro i yN out s hi ho h
  cases yN with
  | zero=>cases h
  | succ yN =>
   have hiL:i<L.length:=by omega
   obtain ⟨m1,m2⟩:=hm _ (bA hiL)
   rw [cg,aJ oa,ae,IM hN a4 n5 dG hiL m1 m2,bs,lpB] at h
   dsimp only at h
   rw [tQ hiL]
   have go:∀ o,md N n yK out L[i]=some o->cg N yN 1 (bl n yK) (aI n) (aI yK.length) o (yK.length:Int) (n:Int) L ((i+1:Nat):Int)=some s->(md N n yK out L[i]).bind (nW N n yK (L.drop (i+1)))=some s.1:=fun o e h=>by
    have ok:=E9 hN a4 m1 ho e
    rw [e,bs]
    exact ih (i+1) yN o s oa ok h
   show (md N n yK out L[i]).bind (nW N n yK (L.drop (i+1)))=some s.1
   obtain ⟨r,hr,h⟩:=ob h
   rcases oif h with ⟨h2,h⟩ | ⟨h2,h⟩
   ·obtain ⟨b,hb,h⟩:=ob h
    rcases oif h with ⟨h3,h⟩ | ⟨h3,h⟩
    ·have hol:=ho.1
     have hd:=OG hN (sg:=1) (n:=(yK.length:Int)) (m:=(n:Int)) (i:=(i:Int)) (A:=bl n yK) (B:=aI n) (C:=aI yK.length) (x:=r.1) (L:=L) (out:=out) oa (fun y hy=>by rw [ho.2 y hy];omega) out.length 0 N false oa oa
     rw [show ((0:Nat):Int)=0 from rfl,tP,gE] at hd
     rw [hd,bs,lpB] at h
     dsimp only at h
     rcases oif h with ⟨h4,h⟩ | ⟨h4,h⟩
     ·rw [bR oa oa,bs] at h
      exact go out (by unfold md;rw [hr,bs,h2,ae,hb,bs,h3,ae,h4,ae]) h
     ·obtain ⟨o,eo,h⟩:=ob h
      rw [bR oa oa,bs] at h
      exact go o (by unfold md;rw [hr,bs,h2,ae,hb,bs,h3,ae,h4,ai,eo]) h
    ·rw [bR oa oa,bs] at h
     exact go out (by unfold md;rw [hr,bs,h2,ae,hb,bs,h3,ai]) h
   ·rw [bR oa oa,bs] at h
    exact go out (by unfold md;rw [hr,bs,h2,ai]) h
end
def nm (n:Nat) (yK:List aV):bQ:=bl n yK++(List.range' 0 yK.length).map (fV yK.length)
def rl (n:Nat) (yK:List aV):bw:=aI n++List.replicate yK.length (0,1)
section
variable {N:Nat}
theorem K3 {m i j:Nat} (h:j<(fV m i).length):(fV m i)[j]=bif ((i:Int) == (j:Int)) then (1,1) else (0,1):=by
 unfold fV at h ⊢
 rw [List.getElem_set]
 by_cases e:i=j
 ·subst e;simp
 ·rw [aS e,show (((i:Nat):Int) == (j:Int))=false by simpa using fun h=>e oa,ai];simp
theorem Kv (hN:1073741824<=N) {m i:Nat} (hm:m<=1000) {A R:bQ} {B C H:bw} {sg:Int} :
  ga N N A B C sg (m:Int) R H (i:Int) [] 0=some (fV m i,(m:Int)):=by
 have ul:=rM m i
 have h:=jv (fun q (o:bw) v=>ga N q A B C sg (m:Int) R H (i:Int) o v) m (fun v=>(fV m i).take v) (fV m i,(m:Int))
  (fun q v h=>by
   show ga N (q+1) A B C sg (m:Int) R H (i:Int) ((fV m i).take v) (v:Int)=ga N q A B C sg (m:Int) R H (i:Int) ((fV m i).take (v+1)) ((v+1:Nat):Int)
   have hv:v<(fV m i).length:=by omega
   rw [ga,dlt h,ae,gR hv,K3 hv]
   unfold rp
   cases ((i:Int) == (v:Int)) with
   | true=>rw [ae,bs,bB (by decide) (by rw [c5,bP];omega),bs,ad1 oa,bs,ae]
   | false=>rw [ai,bs,bB (by decide) (by rw [c5,bP];omega),bs,ad1 oa,bs,ai])
  (fun q=>by
   show ga N (q+1) A B C sg (m:Int) R H (i:Int) ((fV m i).take m) (m:Int)=_
   rw [ga,dge oa,ai,nE oa]) N 0 oa oa
 exact h
theorem LB (hN:1073741824<=N) {n:Nat} (n5:n<=5) {yK:List aV} (a4:yK.length<=4) {C:bw} {sg:Int} :
  gb N N (bl n yK) (aI n) C sg (yK.length:Int) (bl n yK) (aI n) 0=some (nm n yK,rl n yK,(yK.length:Int)):=by
 have l0:=dG (n:=n) (yK:=yK)
 have l1:(aI n).length=n:=by unfold aI;simp
 have h:=jv (fun q (o:bQ × bw) v=>gb N q (bl n yK) (aI n) C sg (yK.length:Int) o.1 o.2 v) yK.length (fun v=>(bl n yK++(List.range' 0 v).map (fV yK.length),aI n++List.replicate v (0,1))) (nm n yK,rl n yK,(yK.length:Int))
  (fun q v h=>by
   show gb N (q+1) (bl n yK) (aI n) C sg (yK.length:Int) (bl n yK++(List.range' 0 v).map (fV yK.length)) (aI n++List.replicate v (0,1)) (v:Int)=gb N q (bl n yK) (aI n) C sg (yK.length:Int) (bl n yK++(List.range' 0 (v+1)).map (fV yK.length)) (aI n++List.replicate (v+1) (0,1)) ((v+1:Nat):Int)
   rw [gb,dlt h,ae,Kv hN oa,bs,lpB]
   dsimp only
   rw [bB (by decide) (by simp;omega),bs,bB (by decide) (by simp;omega),bs,ad1 oa,bs,List.range'_1_concat,eU,<- eS,wV,<- eS,dA]
   rfl)
  (fun q=>by
   show gb N (q+1) (bl n yK) (aI n) C sg (yK.length:Int) (bl n yK++(List.range' 0 yK.length).map (fV yK.length)) (aI n++List.replicate yK.length (0,1)) (yK.length:Int)=_
   rw [gb,dge oa,ai];rfl) N 0 oa oa
 have e:bl n yK++(List.range' 0 0).map (fV yK.length)=bl n yK:=by simp
 have e2:aI n++List.replicate 0 ((0:Int),(1:Int))=aI n:=by simp
 dsimp only at h
 rw [e,e2] at h
 exact h
theorem w9 (n:Nat) (yK:List aV):(nm n yK).length=n+yK.length:=by unfold nm;rw [bZ,dG,bT,ta]
theorem JZ {n:Nat} {yK:List aV} {j:Nat} (h:j<n+yK.length):ix (nm n yK) (j:Int)=some (jg (bl n yK) n yK.length j):=by
 rw [bh (by rw [w9];exact h)]
 congr 1
 unfold jg nm
 by_cases hj:j<n
 ·have hc:j<(bl n yK).length:=by rw [dG];exact hj
  rw [aK hj,AR hc]
  unfold bI;simp [hc]
 ·rw [aS hj,xO (by rw [dG];omega)]
  simp [dG]
theorem KP {n:Nat} {yK:List aV} {j:Nat} (h:j<n+yK.length):ix (rl n yK) (j:Int)=some (kE n j):=by
 have l1:(aI n).length=n:=by unfold aI;simp
 unfold rl
 rw [bh (by rw [bZ,l1,mb];exact h)]
 congr 1
 unfold kE
 by_cases hj:j<n
 ·rw [aK hj,AR oa]
  unfold aI;simp
 ·rw [aS hj,xO oa]
  simp
theorem Lh (hN:1073741824<=N) {rec:Int->(yP)->Int->(List (List (Int × Int)))->(List (Int × Int))->(List (List (Int × Int)))->(List (Int × Int))->(List (Int × Int))->Int->(List (List (Int × Int)))->Option (List (List (Int × Int)))} {n:Nat} {yK:List aV} (a4:yK.length<=4) {l:yP} (hl:l.length=yK.length) (hb:∀ v∈l,0<=v/\v<(n+yK.length:Nat)) {sg w:Int} {A out:bQ} {B C:bw} :
  fg rec N N l w (nm n yK) (rl n yK) A B C sg out [] [] l (l.length:Int) 0=some (fm (bl n yK) n yK.length l,eT n l,(l.length:Int)):=by
 have h:=jv (fun q (o:bQ × bw) k=>fg rec N q l w (nm n yK) (rl n yK) A B C sg out o.1 o.2 l (l.length:Int) k) l.length (fun k=>(fm (bl n yK) n yK.length (l.take k),eT n (l.take k))) (fm (bl n yK) n yK.length l,eT n l,(l.length:Int))
  (fun q k h=>by
   show fg rec N (q+1) l w (nm n yK) (rl n yK) A B C sg out (fm (bl n yK) n yK.length (l.take k)) (eT n (l.take k)) l (l.length:Int) (k:Int)=fg rec N q l w (nm n yK) (rl n yK) A B C sg out (fm (bl n yK) n yK.length (l.take (k+1))) (eT n (l.take (k+1))) l (l.length:Int) ((k+1:Nat):Int)
   have hv:=hb _ (bA h)
   have l1:(fm (bl n yK) n yK.length (l.take k)).length<=1000:=by unfold fm lg;rw [bT,bT,c5];omega
   have l2:(eT n (l.take k)).length<=1000:=by unfold eT lg;rw [bT,bT,c5];omega
   have eA:fm (bl n yK) n yK.length (l.take (k+1))=fm (bl n yK) n yK.length (l.take k)++[jg (bl n yK) n yK.length l[k].toNat]:=by
    unfold fm lg
    rw [gR h,eU,eU];rfl
   have eB:eT n (l.take (k+1))=eT n (l.take k)++[kE n l[k].toNat]:=by
    unfold eT lg
    rw [gR h,eU,eU];rfl
   obtain ⟨j,hj⟩:∃ j:Nat,l[k]=(j:Int):=⟨l[k].toNat,oa⟩
   rw [hj] at hv
   rw [fg,dlt h,ae,bh h,bs,eA,eB,hj,eJ,JZ oa,bs,bB (by decide) (by rw [bP];omega),bs,KP oa,bs,bB (by decide) (by rw [bP];omega),bs,ad1 oa,bs])
  (fun q=>by
   show fg rec N (q+1) l w (nm n yK) (rl n yK) A B C sg out (fm (bl n yK) n yK.length (l.take l.length)) (eT n (l.take l.length)) l (l.length:Int) (l.length:Int)=_
   rw [fg,dge oa,ai,gP]) N 0 oa oa
 exact h
theorem J1 (hN:1073741824<=N) {m i:Nat} (j:Int) (r:dK) (h:ix (fV m i) j=some r):VR N r:=by
 have:=vf h
 unfold fV at this
 rcases rZ this with h | rfl
 ·rw [wW h];exact kn hN (by decide) (by decide)
 ·exact kn hN (by decide) (by decide)
theorem KH (hN:1073741824<=N) {n:Nat} {yK:List aV} {l:yP} (i:Int) (R:bw) (h:ix (fm (bl n yK) n yK.length l) i=some R):R.length=yK.length/\∀ j r,ix R j=some r->VR N r:=by
 have:=vf h
 unfold fm at this
 obtain ⟨v,_,rfl⟩:=dh.1 this
 unfold jg
 by_cases hv:v<n
 ·rw [aK hv]
  exact FT hN (v:Int) _ (ixM (by rw [dG];exact hv))
 ·rw [aS hv]
  exact ⟨rM _ _,fun j r hr=>J1 hN j r hr⟩
theorem KT (hN:1073741824<=N) {n:Nat} {l:yP} (i:Int) (r:dK) (h:ix (eT n l) i=some r):VR N r:=by
 have:=vf h
 unfold eT at this
 obtain ⟨v,_,rfl⟩:=dh.1 this
 unfold kE
 split
 ·exact kn hN (by decide) (by decide)
 ·exact kn hN (by decide) (by decide)
theorem Kh (hN:1073741824<=N) {n:Nat} {yK:List aV} (n1:1<=n) (n5:n<=5) (a1:1<=yK.length) (a4:yK.length<=4) {l:yP} (hl:l.length=yK.length) (hb:∀ v∈l,0<=v/\v<(n+yK.length:Nat)) {f:Int} {out o:bQ} {c:Nat} (ho:Ok yK.length c out) (hc:c<=100000) (h:md N n yK out l=some o) :
  dI (N+1) f l (yK.length:Int) (nm n yK) (rl n yK) (bl n yK) (aI n) (aI yK.length) 1 out=some o:=by
 have hol:=ho.1
 unfold md at h
 obtain ⟨r,hr,h⟩:=ob h
 have hbl:(eT n l).length=yK.length:=by unfold eT lg;rw [bT,bT,hl]
 have hal:(fm (bl n yK) n yK.length l).length=yK.length:=by unfold fm lg;rw [bT,bT,hl]
 have hs:=HI hN (A:=fm (bl n yK) n yK.length l) (b:=eT n l) oa oa (fun i R hR=>by
  rw [hbl];exact KH hN i R hR) (fun i r hr=>KT hN i r hr) hr
 rw [dI,aN oa,ai,Lh hN a4 hl hb,bs,lpB]
 dsimp only
 rw [hs,bs]
 rcases oif h with ⟨h2,h⟩ | ⟨h2,h⟩
 ·rw [h2,ae]
  obtain ⟨x,ok,es,hsol⟩:=qd hN (n:=yK.length) oa (uY (n:=n) (yK:=yK) hl) hbl
  rw [hr] at es
  obtain rfl:=bL es
  obtain ⟨xl,xv,_⟩:=hsol h2
  have xl':x.length=yK.length:=xl
  rw [Ie hN (DI hN n1 n5 a1 a4) (Bv hN n1 n5 a1 a4) (by show x.length<=1000;omega) (fun i q hq=>by
   obtain ⟨k,rfl,hk,rfl⟩:=gq hq
   have hk':k<x.length:=hk
   have:=xv k oa
   unfold aH at this
   simpa [hk'] using this)]
  obtain ⟨b,hb',h⟩:=ob h
  rw [hb',bs]
  rcases oif h with ⟨h3,h⟩ | ⟨h3,h⟩
  ·rw [h3,ae]
   have hd:=Ow hN (rec:=dI N) (cs:=l) (n:=(yK.length:Int)) (sg:=1) (R:=nm n yK) (H:=rl n yK) (A:=bl n yK) (B:=aI n) (C:=aI yK.length) (x:=x) (out:=out) oa oa out.length 0 N oa oa
   rw [show ((0:Nat):Int)=0 from rfl,gE] at hd
   rw [hd,bs]
   rcases oif h with ⟨h4,h⟩ | ⟨h4,h⟩
   ·rw [aK (ny h4)]
    exact h
   ·rw [aS (of_decide_eq_false h4)]
    simp only [lpS]
    rw [h,bs]
  ·rw [h3,ai];exact h
 ·rw [h2,ai];exact h
theorem NF {xs:yP} (h:xs.length<=1048576):kP N xs=some xs:=by
 unfold kP
 rw [bB (by decide) (by simpa using Nat.le_trans h (by decide)),bs,mc]
theorem I3 {r i t:Nat} (h:t<=i):eL (r+1) i t=[]:=by
 show (List.range' i (t-r-i)).flatMap _=[]
 rw [show t-r-i=0 by omega];rfl
theorem Bo {r i t:Nat} (h:i<t):eL (r+1) i t=(eL r (i+1) t).map (fun l=>(i:Int) :: l)++eL (r+1) (i+1) t:=by
 show (List.range' i (t-r-i)).flatMap (fun j:Nat=>(eL r (j+1) t).map fun l=>(j:Int) :: l)=_
 by_cases hr:i+r<t
 ·obtain ⟨k,hk⟩:∃ k,t-r-i=k+1:=⟨t-r-i-1,oa⟩
  rw [hk,vt,th]
  congr 1
  show _=(List.range' (i+1) (t-r-(i+1))).flatMap _
  rw [show t-r-(i+1)=k by omega]
 ·rw [show t-r-i=0 by omega]
  have e:eL r (i+1) t=[]:=by
   cases r with
   | zero=>omega
   | succ r =>
    show (List.range' (i+1) (t-r-(i+1))).flatMap _=[]
    rw [show t-r-(i+1)=0 by omega];rfl
  rw [e]
  show []=[]++(List.range' (i+1) (t-r-(i+1))).flatMap _
  rw [show t-r-(i+1)=0 by omega];rfl
theorem F6 (hN:1073741824<=N) {n:Nat} {yK:List aV} (a4:yK.length<=4):∀ (L:List (yP)) (out o:bQ) (c:Nat),(∀ l∈L,l.length=yK.length)->Ok yK.length c out->nW N n yK L out=some o->Ok yK.length (c+L.length) o
 | [],out,o,c,_,ho,h=>by cases h;exact ho
 | l :: L,out,o,c,hl,ho,h=>by
  obtain ⟨o1,h1,h⟩:=ob (show (md N n yK out l).bind (nW N n yK L)=some o from h)
  have:=F6 hN a4 L o1 o (c+1) (fun x hx=>hl x (cD _ hx)) (E9 hN a4 (hl l (by simp)) ho h1) h
  rw [b9,show c+(L.length+1)=c+1+L.length by omega]
  exact this
theorem HW (hN:1073741824<=N) {n:Nat} {yK:List aV} (n1:1<=n) (n5:n<=5) (a1:1<=yK.length) (a4:yK.length<=4):∀ (r f:Nat) (cs:yP) (out o:bQ) (c:Nat),cs.length+r=yK.length->f<=n+yK.length->(∀ v∈cs,0<=v/\v<(n+yK.length:Nat))->Ok yK.length c out->c+(eL r f (n+yK.length)).length<=100000 ->
  nW N n yK ((eL r f (n+yK.length)).map fun l=>cs++l) out=some o ->
  dI (N+1+r) (f:Int) cs (yK.length:Int) (nm n yK) (rl n yK) (bl n yK) (aI n) (aI yK.length) 1 out=some o:=by
 intro r
 induction r with
 | zero =>
  intro f cs out o c hcl hf hcs ho hc h
  obtain ⟨o1,h1,h⟩:=ob (show (md N n yK out (cs++[])).bind (fun o=>some o)=some o from h)
  cases h
  rw [jI] at h1
  exact Kh hN n1 n5 a1 a4 oa hcs ho oa h1
 | succ r ih =>
  intro f cs out o c hcl hf hcs ho hc h
  rw [show N+1+(r+1)=(N+1+r)+1 by omega,dI,aJ oa,ae]
  have key:∀ (d i yN:Nat) (out o:bQ) (c:Nat),i+d=n+yK.length->d<yN->Ok yK.length c out->c+(eL (r+1) i (n+yK.length)).length<=100000->nW N n yK ((eL (r+1) i (n+yK.length)).map fun l=>cs++l) out=some o ->
    ja (dI (N+1+r)) (N+1+r) yN cs (yK.length:Int) (nm n yK) (rl n yK) (bl n yK) (aI n) (aI yK.length) 1 out (i:Int)=some (o,((n+yK.length:Nat):Int)):=by
   intro d
   induction d with
   | zero =>
    intro i yN out o c hi hf ho hc h
    obtain ⟨yN,rfl⟩:∃ k',yN=k'+1:=⟨yN-1,oa⟩
    rw [I3 oa] at h
    cases h
    rw [ja,w9,aN oa,ai,show (i:Int)=((n+yK.length:Nat):Int) by omega]
   | succ d ihd =>
    intro i yN out o c hi hf ho hc h
    obtain ⟨yN,rfl⟩:∃ k',yN=k'+1:=⟨yN-1,oa⟩
    rw [Bo oa,eU,Cm,nx] at h
    rw [Bo oa,bZ,bT] at hc
    obtain ⟨o1,h1,h⟩:=ob h
    have e:((fun l=>cs++l) ∘ fun l=>(i:Int) :: l)=fun l=>(cs++[(i:Int)])++l:=by
     funext l;simp
    rw [e] at h1
    have ho1:=F6 hN a4 _ out o1 c (fun l hl=>by
     obtain ⟨l',hl',rfl⟩:=dh.1 hl
     rw [bZ,bZ,bP,(oD hl').1];omega) ho h1
    rw [bT] at ho1
    have g:=ih (i+1) (cs++[(i:Int)]) out o1 c (by rw [bZ,bP];omega) oa (fun v hv=>by
     rcases cU.1 hv with h | h
     ·exact hcs v h
     ·rw [d7.1 h];omega) ho oa h1
    rw [ja,w9,aJ oa,ae,ad1 oa,bs,NF oa,bs,bB (by decide) (by rw [bP];omega),bs,g,bs,bs]
    exact ihd (i+1) yN o1 o _ oa oa ho1 oa h
  rw [key (n+yK.length-f) f (N+1+r) out o c oa oa ho hc h,bs,lpB]
theorem MD (hN:1073741824<=N) {n:Nat} {yK:List aV} (n1:1<=n) (n5:n<=5) (a1:1<=yK.length) (a4:yK.length<=4) {P:bQ} (h:eM N (bl n yK) (aI n) (aI yK.length)=some P) :
  ∃ z,cg N N 1 (bl n yK) (aI n) (aI yK.length) [] (yK.length:Int) (n:Int) (eL yK.length 0 (n+yK.length)) 0=some (P,z):=by
 have l1:(aI n).length=n:=by unfold aI;simp
 have l2:(aI yK.length).length=yK.length:=by unfold aI;simp
 have ep:iX N 0 ((n:Int)+(yK.length:Int)) (yK.length:Int)=some (eL yK.length 0 (n+yK.length)):=by
  rw [show ((n:Int)+(yK.length:Int))=((n+yK.length:Nat):Int) by omega]
  exact wa yK.length N 0 (n+yK.length) a4 oa oa oa
 unfold eM oP at h
 rw [Bv hN n1 n5 a1 a4,bs,ae,l1,l2,bR oa oa,bs,ep,bs] at h
 obtain ⟨q,g1,h2⟩:=ob h
 obtain ⟨s,g2,h3⟩:=ob g1
 obtain rfl:q=P:=bL h2
 obtain ⟨s1,s2⟩:=s
 obtain rfl:s1=q:=bL h3
 exact ⟨s2,g2⟩
theorem ND (hN:1073741824<=N) {n:Nat} {yK:List aV} (n1:1<=n) (n5:n<=5) (a1:1<=yK.length) (a4:yK.length<=4) {P:bQ} {z:Int} (h:cg N N 1 (bl n yK) (aI n) (aI yK.length) [] (yK.length:Int) (n:Int) (eL yK.length 0 (n+yK.length)) 0=some (P,z)) :
  eM N (bl n yK) (aI n) (aI yK.length)=some P:=by
 have l1:(aI n).length=n:=by unfold aI;simp
 have l2:(aI yK.length).length=yK.length:=by unfold aI;simp
 have ep:iX N 0 ((n:Int)+(yK.length:Int)) (yK.length:Int)=some (eL yK.length 0 (n+yK.length)):=by
  rw [show ((n:Int)+(yK.length:Int))=((n+yK.length:Nat):Int) by omega]
  exact wa yK.length N 0 (n+yK.length) a4 oa oa oa
 unfold eM oP
 rw [Bv hN n1 n5 a1 a4,bs,ae,l1,l2,bR oa oa,bs,ep,bs,h,bs,lpB,bs]
theorem Fu (hM:1073742848<=N) {n:Nat} {yK:List aV} (n1:1<=n) (n5:n<=5) (a1:1<=yK.length) (a4:yK.length<=4) :
  ∃ P,eM N (bl n yK) (aI n) (aI yK.length)=some P/\lZ N (bl n yK) (aI n) (aI yK.length) 1=some P:=by
 obtain ⟨K,rfl⟩:∃ K,N=K+1+yK.length:=⟨N-1-yK.length,oa⟩
 have hK:1073741824<=K:=by omega
 obtain ⟨P,hP,_⟩:=Ao hK (yK:=yK) n1 n5 a1 a4
 obtain ⟨z,hz⟩:=MD hK n1 n5 a1 a4 hP
 have hPl:=Nat.le_trans (ua yK.length 0 (n+yK.length)) (Gw oa a4)
 have hf:=Jo hK n5 a4 (L:=eL yK.length 0 (n+yK.length)) oa (fun l hl=>by
  obtain ⟨m1,m2⟩:=oD hl
  exact ⟨m1,fun v hv=>by have:=m2 v hv;omega⟩) _ 0 K [] (P,z) (dA _) ⟨bN _,fun _ h=>by cases h⟩ hz
 have hle:=vQ (N:=K) (N':=K+1+yK.length) oa K (K+1+yK.length) oa _ _ _ _ _ _ _ _ _ _ hz
 refine ⟨P,ND oa n1 n5 a1 a4 hle,?_⟩
 have l1:(aI n).length=n:=by unfold aI;simp
 have l2:(aI yK.length).length=yK.length:=by unfold aI;simp
 have hc:=HW hK n1 n5 a1 a4 yK.length 0 [] [] P 0 (by simp) oa (fun _ h=>by cases h) ⟨bN _,fun _ h=>by cases h⟩ oa (by
  have e:(fun l:yP=>([]:yP)++l)=id:=by funext l;rfl
  rw [e,List.map_id];exact hf)
 rw [show ((0:Nat):Int)=0 from rfl] at hc
 unfold lZ
 rw [bB (by decide) (by rw [dG];simp;omega),bs,DW oa,bs,l2,mc,LB oa n5 a4,bs,lpB]
 dsimp only
 rw [hc,bs]
theorem N8 (hM:1073742848<=N) {n:Nat} {yK:List aV} (n1:1<=n) (n5:n<=5) (a1:1<=yK.length) (a4:yK.length<=4):jd N (bl n yK) (aI n) (aI yK.length)=eM N (bl n yK) (aI n) (aI yK.length):=by
 obtain ⟨P,h1,h2⟩:=Fu hM n1 n5 a1 a4
 unfold jd
 rw [DI oa n1 n5 a1 a4,bs,ae,h2,h1,bs]
end
section
variable {N:Nat}
theorem J8 {n:Nat} {yK:List aV} {out:yP} (hq:fR (n:Int) yK out=true):∀ v,v<n->∃ j,j<yK.length/\((v:Nat):Int)∈(dz yK j).2:=fun v hv=>by
 unfold fR at hq
 simp only [ce] at hq
 have h:=hq.2
 unfold oU at h
 rw [df] at h
 have h:=h v (by rw [tB];simp;exact hv)
 rw [List.any_eq_true] at h
 obtain ⟨a,ha,h⟩:=h
 obtain ⟨j,hj,rfl⟩:=gg ha
 exact ⟨j,hj,by rw [kg hj];exact ny h⟩
theorem OD (hN:1073741824<=N) {n:Nat} {yK:List aV} {out:yP} (ha:fB yK) (ho:okI out) (hq:fR (n:Int) yK out=true):kQ N (n:Int) yK out=some (hO n):=by
 obtain ⟨_,n5,_,a4⟩:=lk hq
 have h:=jv (fun k (o:yP) i=>ef N k (n:Int) yK out o i) n (fun i=>hO i) (hO n,(n:Int))
  (fun k i h=>by
   show ef N (k+1) (n:Int) yK out (hO i) (i:Int)=ef N k (n:Int) yK out (hO (i+1)) ((i+1:Nat):Int)
   rw [ef,dlt h,ae,bB (by decide) (by rw [ms,bP];omega),bs,ad1 oa,bs]
   unfold hO
   rw [List.range'_1_concat,eU,dA];rfl)
  (fun k=>by
   show ef N (k+1) (n:Int) yK out (hO n) (n:Int)=_
   rw [ef,dge oa,ai]) N 0 oa oa
 have h':ef N N (n:Int) yK out [] 0=some (hO n,(n:Int)):=h
 unfold kQ
 rw [jt hN ha ho,bs,hq,ae,h',bs,lpB]
theorem K7 (hN:1073741824<=N) {n v:Int} {yK:List aV} {out l:yP} {a b:Int} {b1 b4:bQ} {b2 b3 b5 b6:bw} (ha:fB yK) (h4:yK.length<=1000) :
  gz N N n yK out b1 b2 b3 b4 b5 b6 v [] l a b yK (yK.length:Int) 0=some (f7 yK v,(yK.length:Int)) :=
 jv (fun k (o:bw) i=>gz N k n yK out b1 b2 b3 b4 b5 b6 v o l a b yK (yK.length:Int) i) yK.length (fun i=>f7 (yK.take i) v) (f7 yK v,(yK.length:Int))
  (fun k i h=>by
   show gz N (k+1) n yK out b1 b2 b3 b4 b5 b6 v (f7 (yK.take i) v) l a b yK (yK.length:Int) (i:Int)=gz N k n yK out b1 b2 b3 b4 b5 b6 v (f7 (yK.take (i+1)) v) l a b yK (yK.length:Int) ((i+1:Nat):Int)
   have hl:(f7 (yK.take i) v).length<=1000:=by unfold f7;rw [bT,c5];omega
   have e:f7 (yK.take (i+1)) v=f7 (yK.take i) v++[mP yK[i] v]:=by
    unfold f7
    rw [gR h,eU];rfl
   rw [gz,dlt h,ae,bh h,bs,oA hN (Ah ha h),bs,e]
   unfold mP rp
   cases decide (v∈yK[i].2) with
   | true=>rw [ae,ae,bs,bB (by decide) (by rw [bP];omega),bs,ad1 oa,bs]
   | false=>rw [ai,ai,bs,bB (by decide) (by rw [bP];omega),bs,ad1 oa,bs])
  (fun k=>by
   show gz N (k+1) n yK out b1 b2 b3 b4 b5 b6 v (f7 (yK.take yK.length) v) l a b yK (yK.length:Int) (yK.length:Int)=_
   rw [gz,dge oa,ai,gP]) N 0 oa oa
theorem K5 (hN:1073741824<=N) {n:Nat} (hn:n<=1000) {m:Int} {yK:List aV} {out:yP} {b1:bQ} {b2 b3 b6:bw} (ha:fB yK) (h4:yK.length<=1000) :
  gA N N m yK out b1 b2 b3 [] [] b6 (hO n) (n:Int) 0=some (bl n yK,aI n,(n:Int)) :=
 jv (fun k (o:bQ × bw) i=>gA N k m yK out b1 b2 b3 o.1 o.2 b6 (hO n) (n:Int) i) n (fun i=>(bl i yK,aI i)) (bl n yK,aI n,(n:Int))
  (fun k i h=>by
   show gA N (k+1) m yK out b1 b2 b3 (bl i yK) (aI i) b6 (hO n) (n:Int) (i:Int)=gA N k m yK out b1 b2 b3 (bl (i+1) yK) (aI (i+1)) b6 (hO n) (n:Int) ((i+1:Nat):Int)
   have h1:(bl i yK).length=i:=by unfold bl;simp
   have h2:(aI i).length=i:=by unfold aI;simp
   have ho:ix (hO n) (i:Int)=some (i:Int):=by
    rw [bh (by rw [ms];exact h)];unfold hO;simp
   rw [gA,dlt h,ae,ho,bs,K7 hN ha h4,bs,lpB]
   dsimp only
   rw [bB (by decide) (by rw [bP];omega),bs,bB (by decide) (by rw [bP];omega),bs,ad1 oa,bs,Cc,sJ])
  (fun k=>by
   show gA N (k+1) m yK out b1 b2 b3 (bl n yK) (aI n) b6 (hO n) (n:Int) (n:Int)=_
   rw [gA,dge oa,ai]) N 0 oa oa
theorem KY (hN:1073741824<=N) {c:Nat} (h4:c<=1000) {b1 b4:bQ} {b2 b3 b5:bw} :
  gB N N b1 b2 b3 b4 b5 [] (c:Int) 0=some (aI c,(c:Int)) :=
 jv (fun k (o:bw) i=>gB N k b1 b2 b3 b4 b5 o (c:Int) i) c (fun i=>aI i) (aI c,(c:Int))
  (fun k i h=>by
   show gB N (k+1) b1 b2 b3 b4 b5 (aI i) (c:Int) (i:Int)=gB N k b1 b2 b3 b4 b5 (aI (i+1)) (c:Int) ((i+1:Nat):Int)
   have h2:(aI i).length=i:=by unfold aI;simp
   rw [gB,dlt h,ae,bB (by decide) (by rw [bP];omega),bs,ad1 oa,bs,sJ])
  (fun k=>by
   show gB N (k+1) b1 b2 b3 b4 b5 (aI c) (c:Int) (c:Int)=_
   rw [gB,dge oa,ai]) N 0 oa oa
theorem sC (hN:1073741824<=N) {n:Nat} {yK:List aV} {out:yP} (ha:fB yK) (ho:okI out) (hq:fR (n:Int) yK out=true) :
  jA N (n:Int) yK out=some ((bl n yK,aI n,aI yK.length),true):=by
 obtain ⟨_,n5,_,a4⟩:=lk hq
 unfold jA
 rw [jt hN ha ho,bs,hq,ae,OD hN ha ho hq,bs]
 unfold qG
 rw [ms,K5 hN oa ha oa,bs,lpB]
 dsimp only
 rw [KY hN oa,bs,lpB]
 rfl
theorem CJ (hN:1073741824<=N) {na e:Nat} {k:Nat->Nat} (hna:na<=1000) (hb:∀ i,i<na->k i*e<=1000000) :
  nG N ((List.range' 0 na).map fun i:Nat=>(k i:Int)) (e:Int)=some ((List.range' 0 na).map fun i:Nat=>((k i*e:Nat):Int)):=by
 have hl:((List.range' 0 na).map fun i:Nat=>(k i:Int)).length=na:=by simp
 have h:=jv (fun f (o:yP) i=>gZ N f (e:Int) o ((List.range' 0 na).map fun i:Nat=>(k i:Int)) (na:Int) i) na (fun i=>(List.range' 0 i).map fun i:Nat=>((k i*e:Nat):Int)) ((List.range' 0 na).map (fun i:Nat=>((k i*e:Nat):Int)),(na:Int))
  (fun f i h=>by
   show gZ N (f+1) (e:Int) ((List.range' 0 i).map fun i:Nat=>((k i*e:Nat):Int)) ((List.range' 0 na).map fun i:Nat=>(k i:Int)) (na:Int) (i:Int)=gZ N f (e:Int) ((List.range' 0 (i+1)).map fun i:Nat=>((k i*e:Nat):Int)) ((List.range' 0 na).map fun i:Nat=>(k i:Int)) (na:Int) ((i+1:Nat):Int)
   have hx:ix ((List.range' 0 na).map fun i:Nat=>(k i:Int)) (i:Int)=some (k i:Int):=by
    rw [bh (by rw [hl];exact h)];simp
   have hm:=hb i h
   have p:(k i:Int)*(e:Int)=((k i*e:Nat):Int):=(xf ..).symm
   rw [gZ,dlt h,ae,hx,bs,fv (by rw [p];omega) (by rw [p];omega),bs,p,bB (by decide) (by simp;omega),bs,ad1 oa,bs,List.range'_1_concat,eU,dA]
   rfl)
  (fun f=>by
   show gZ N (f+1) (e:Int) ((List.range' 0 na).map fun i:Nat=>((k i*e:Nat):Int)) ((List.range' 0 na).map fun i:Nat=>(k i:Int)) (na:Int) (na:Int)=_
   rw [gZ,dge oa,ai]) N 0 oa oa
 have h':gZ N N (e:Int) [] ((List.range' 0 na).map fun i:Nat=>(k i:Int)) (na:Int) 0=some ((List.range' 0 na).map (fun i:Nat=>((k i*e:Nat):Int)),(na:Int)):=h
 unfold nG
 rw [hl,h',bs,lpB]
theorem EG (hN:1073741824<=N) {x:bw} {v:yP × Int} (hl:x.length<=1048576) (h:cB N x=some v):fU N x=some v:=by
 obtain ⟨w,e1,e2,_⟩:=GN hN (rs:=x) hl
 rw [h] at e1
 rw [e2,bL e1]
theorem G3 (hN:1073741824<=N) {xs ks:yP} {v:yP × Bool} (hl:xs.length<=1048576) (hr:∀ v∈xs,v<=9223372036854775807) (h:dl N xs ks=some v):f8 N xs ks=some v:=by
 obtain ⟨w,e1,e2,_⟩:=xP hN (ks:=ks) hl hr
 rw [h] at e1
 rw [e2,bL e1]
theorem LH (hN:1073741824<=N) {n:Nat} {yK:List aV} (n5:n<=5) (a1:1<=yK.length) (a4:yK.length<=4) {s:Nat->Nat} (hs:∀ i,i<yK.length->s i<=16) {x y:bw} (hx:fw N n yK x) (hy:fw N n yK y) :
  ∃ c,i6 N ((List.range' 0 yK.length).map fun i:Nat=>(s i:Int)) x y=some (c,true)/\i7 N ((List.range' 0 yK.length).map fun i:Nat=>(s i:Int)) x y=some (c,true)/\-1<=c/\c<=1:=by
 obtain ⟨d,k,d1,d3,hk,ed,_⟩:=oo hN n5 a1 a4 hx
 obtain ⟨e,q,e1,e3,hq,ee,_⟩:=oo hN n5 a1 a4 hy
 have l1:∀ f:Nat->Nat,((List.range' 0 yK.length).map fun i:Nat=>(f i:Int)).length=yK.length:=fun f=>by simp
 obtain ⟨z,e4⟩:=Lm hN (ss:=(List.range' 0 yK.length).map fun i:Nat=>(s i:Int)) d3 e3 a4 hk hq yK.length 0 N oa oa
 rw [Dj,Dj,DV,DV] at e4
 have e4':di N N ((List.range' 0 yK.length).map fun i:Nat=>(s i:Int)) ((List.range' 0 yK.length).map fun i:Nat=>(k i:Int)) (d:Int) ((List.range' 0 yK.length).map fun i:Nat=>(q i:Int)) (e:Int) 0=_:=e4
 have b1:∀ i,i<yK.length->k i*e<=9:=fun i hi=>Nat.le_trans (lI (hk i hi) e3) (by decide)
 have b2:∀ i,i<yK.length->q i*d<=9:=fun i hi=>Nat.le_trans (lI (hq i hi) d3) (by decide)
 obtain ⟨r1,f1,g1,c1,lr1,_⟩:=Hu hN a4 hs (k:=fun i=>k i*e) b1
 obtain ⟨r2,f2,g2,c2,lr2,_⟩:=Hu hN a4 hs (k:=fun i=>q i*d) b2
 obtain ⟨c,ec,h1,h2,h3⟩:=MZ hN c1 c2 lr1 lr2
 obtain ⟨c',ec',ei⟩:=tE hN (a:=r1) (b:=r2) oa oa
 obtain rfl:c=c':=by rw [ec] at ec';exact bL ec'
 have sb:∀ v∈((List.range' 0 yK.length).map fun i:Nat=>(s i:Int)),v<=9223372036854775807:=fun v hv=>by
  obtain ⟨i,hi,rfl⟩:=dh.1 hv
  have:=hs i (by rw [tB] at hi;omega)
  omega
 refine ⟨c,?_,?_,h2,h3⟩
 ·unfold i6
  rw [ed,bs,ee,bs]
  dsimp only
  rw [show ((d:Int) == 0)=false by rw [l8];omega,ai,show ((e:Int) == 0)=false by rw [l8];omega,ai,l1,l1,l1,show ((yK.length:Int) != (yK.length:Int))=false by rw [mn],ai,ai,e4',bs,lpB]
  dsimp only
  rw [f1,bs,f2,bs]
  dsimp only
  rw [ae,ae,ec,bs]
 ·have xl:=hx.1.len
  have yl:=hy.1.len
  unfold i7
  rw [EG hN oa ed,bs,EG hN oa ee,bs]
  dsimp only
  rw [l1,show ((x.length:Int) != (yK.length:Int))=false by rw [mn];omega,ai,show ((y.length:Int) != (yK.length:Int))=false by rw [mn];omega,ai,show ((d:Int) == 0)=false by rw [l8];omega,ai,show ((e:Int) == 0)=false by rw [l8];omega,ai,CJ hN oa (fun i hi=>Nat.le_trans (b1 i hi) (by decide)),bs,G3 hN (by rw [l1];omega) sb f1,bs,CJ hN oa (fun i hi=>Nat.le_trans (b2 i hi) (by decide)),bs,G3 hN (by rw [l1];omega) sb f2,bs]
  dsimp only
  rw [ae,ae,ei,bs]
theorem MH {ss:yP} {n:Int} {yK:List aV} {out:yP} {A:bQ} {B C:bw}:∀ (yN:Nat) (i:Int),k9 N yN ss n yK out ss (ss.length:Int) i=d9 N yN ss A B C i:=by
 intro yN
 induction yN with
 | zero=>intros;rfl
 | succ yN ih =>
  intro i
  rw [k9,d9]
  simp only [yV,ih]
theorem MJ (hN:1073741824<=N) {ss:yP} (hl:ss.length<=1000) {A:bQ} {B C:bw}:∀ (c i yN:Nat),i+c=ss.length->c<yN->(∃ j,i<=j/\j<ss.length/\¬ (0<=ss.getD j 0/\ss.getD j 0<=16))->d9 N yN ss A B C (i:Int)=some (.inl ([],false)):=by
 intro c
 induction c with
 | zero=>intro i yN hi hf ⟨j,h1,h2,_⟩;omega
 | succ c ih =>
  intro i yN hi hf ⟨j,h1,h2,h3⟩
  obtain ⟨yN,rfl⟩:∃ k',yN=k'+1:=⟨yN-1,oa⟩
  rw [d9,aJ oa,ae,ixD oa,bs,fQ,bs]
  by_cases hv:0<=ss.getD i 0/\ss.getD i 0<=16
  ·rw [show inR (ss.getD i 0) 0 16=true from ck.2 hv,ae,bR oa oa,bs]
   have hij:i≠j:=fun e=>h3 (by rw [<- e];exact hv)
   exact ih (i+1) yN oa oa ⟨j,oa,h2,h3⟩
  ·have:inR (ss.getD i 0) 0 16=false:=by
    cases h:inR (ss.getD i 0) 0 16 with
    | false=>rfl
    | true=>exact absurd (ck.1 h) hv
   rw [this,ai]
theorem MX (hN:1073741824<=N) {n:Nat} {yK:List aV} (n5:n<=5) (a1:1<=yK.length) (a4:yK.length<=4) {s:Nat->Nat} (hs:∀ i,i<yK.length->s i<=16) {P:bQ} (hP:∀ x∈P,fw N n yK x) (hl:P.length<=100000):∀ (c i yN:Nat) (x:bw),i+1+c=P.length->c<yN->fw N n yK x ->
  ∃ x' z z',dq N yN ((List.range' 0 yK.length).map fun i:Nat=>(s i:Int)) P x ((i+1:Nat):Int)=some (x',z)/\eR N yN ((List.range' 0 yK.length).map fun i:Nat=>(s i:Int)) x (P.drop 1) ((P.drop 1).length:Int) (i:Int)=some (x',z')/\fw N n yK x':=by
 intro c
 induction c with
 | zero =>
  intro i yN x hi hf hx
  obtain ⟨yN,rfl⟩:∃ k',yN=k'+1:=⟨yN-1,oa⟩
  rw [dq,eR,aN oa,ai,aN (by rw [iH];omega),ai]
  exact ⟨x,_,_,rfl,rfl,hx⟩
 | succ c ih =>
  intro i yN x hi hf hx
  obtain ⟨yN,rfl⟩:∃ k',yN=k'+1:=⟨yN-1,oa⟩
  have hil:i+1<P.length:=by omega
  have hm:bI P (i+1)∈P:=by unfold bI;simp [hil]
  have hd:ix (P.drop 1) (i:Int)=some (bI P (i+1)):=by
   rw [bh (by rw [iH];omega),Aw]
   unfold bI;simp [hil,Nat.add_comm]
  obtain ⟨q,eq,ei,q1,q2⟩:=LH hN n5 a1 a4 hs (hP _ hm) hx
  have hS:dq N (yN+1) ((List.range' 0 yK.length).map fun i:Nat=>(s i:Int)) P x ((i+1:Nat):Int)=bif decide (q<0) then dq N yN ((List.range' 0 yK.length).map fun i:Nat=>(s i:Int)) P (bI P (i+1)) ((i+1+1:Nat):Int) else dq N yN ((List.range' 0 yK.length).map fun i:Nat=>(s i:Int)) P x ((i+1+1:Nat):Int):=by
   rw [dq,aJ oa,ae,ixM hil,bs,eq,bs]
   dsimp only
   cases decide (q<0) with
   | true=>rw [ae,ae,bs,ad1 oa,bs]
   | false=>rw [ai,ai,ad1 oa,bs]
  have hdl:decide ((i:Int)<((P.drop 1).length:Int))=true:=aJ (by rw [iH];omega)
  have hI:eR N (yN+1) ((List.range' 0 yK.length).map fun i:Nat=>(s i:Int)) x (P.drop 1) ((P.drop 1).length:Int) (i:Int)=bif (q == -1) then eR N yN ((List.range' 0 yK.length).map fun i:Nat=>(s i:Int)) (bI P (i+1)) (P.drop 1) ((P.drop 1).length:Int) ((i+1:Nat):Int) else eR N yN ((List.range' 0 yK.length).map fun i:Nat=>(s i:Int)) x (P.drop 1) ((P.drop 1).length:Int) ((i+1:Nat):Int):=by
   rw [eR,hdl,ae,hd,bs,ei,bs]
   dsimp only
   cases (q == -1) with
   | true=>rw [ae,ae,ad1 oa,bs]
   | false=>rw [ai,ai,ad1 oa,bs]
  rw [hS,hI]
  by_cases hc:q<0
  ·rw [aJ hc,ae,show (q == -1)=true by rw [qk];omega,ae]
   exact ih (i+1) yN _ oa oa (hP _ hm)
  ·rw [aN hc,ai,show (q == -1)=false by rw [l8];omega,ai]
   exact ih (i+1) yN x oa oa hx
theorem vp (hM:1073742848<=N) {n:Int} {yK:List aV} {out ss:yP} (ha:fB yK) (ho:okI out):∃ r:bw × Bool,mL N n yK out ss=some r/\jc N n yK out ss=some r/\(r=([],false)\/∃ n':Nat,n=(n':Int)/\r.2=true/\fw N n' yK r.1/\fR n yK out=true/\ss.length=yK.length/\∀ v∈ss,0<=v/\v<=16):=by
 have hN:1073741824<=N:=by omega
 cases hq:fR n yK out with
 | false =>
  refine ⟨([],false),?_,?_,.inl rfl⟩
  ·unfold mL my
   rw [lf hN ha ho,bs,hq,ai];rfl
  ·unfold jc
   rw [jt hN ha ho,bs,hq,ai]
 | true =>
  obtain ⟨n1,n5,a1,a4⟩:=lk hq
  obtain ⟨n,rfl⟩:=kf (show 0<=n by omega)
  have n1:1<=n:=by omega
  have n5:n<=5:=by omega
  have a1:1<=yK.length:=by omega
  have a4:yK.length<=4:=by omega
  unfold mL jc
  rw [jt hN ha ho,bs,hq,ae,tZ hN ha ho hq,bs,sC hN ha ho hq]
  dsimp only
  rw [ae]
  by_cases hl:ss.length=yK.length
  ·rw [show ((ss.length:Int) != (yK.length:Int))=false by rw [mn];omega,ai,ai,MH (A:=bl n yK) (B:=aI n) (C:=aI yK.length)]
   by_cases hv:∀ v∈ss,0<=v/\v<=16
   ·obtain ⟨z0,hb⟩:=J4 hN (ss:=ss) oa hv (A:=bl n yK) (B:=aI n) (C:=aI yK.length) ss.length 0 N oa oa
    obtain ⟨s,hs,es⟩:=IB hv
    rw [hl] at hs es
    obtain ⟨P,eP,hPl,hP,hne⟩:=Ao hN n1 n5 a1 a4
    have hne:=hne (y4 hN n1 n5 a1 a4 (J8 hq))
    have h0:0<P.length:=uZ.2 hne
    have hm:bI P 0∈P:=by unfold bI;simp [h0]
    obtain ⟨x,z,z',e1,e2,hpx⟩:=MX hN n5 a1 a4 hs hP hPl (P.length-1) 0 N (bI P 0) oa oa (hP _ hm)
    have hb':d9 N N ss (bl n yK) (aI n) (aI yK.length) 0=some (.inr z0):=hb
    have i0:ix P 0=some (bI P 0):=ixM (i:=0) h0
    have hsl:slc P 1 (P.length:Int)=some (P.drop 1):=by
     unfold slc
     rw [aK oa]
     simp
    have e1':dq N N ss P (bI P 0) 1=some (x,z):=by rw [es];exact e1
    have e2':eR N N ss (bI P 0) (P.drop 1) ((P.drop 1).length:Int) 0=some (x,z'):=by rw [es];exact e2
    refine ⟨(x,true),?_,?_,.inr ⟨n,rfl,rfl,hpx,rfl,hl,hv⟩⟩
    ·rw [hb',bs,jh,eP,bs,i0,bs,e1',bs,lpB]
    ·rw [hb',bs,jh,bs]
     dsimp only
     rw [N8 hM n1 n5 a1 a4,eP,bs,show ((P.length:Int) == 0)=false by rw [l8];omega,ai,i0,bs,hsl,bs,e2',bs,lpB]
   ·obtain ⟨v,hv1,hv2⟩:∃ v∈ss,¬ (0<=v/\v<=16):=nC fun h=>hv fun v hv=>nC fun h2=>h ⟨v,hv,h2⟩
    obtain ⟨j,hj,rfl⟩:=gg hv1
    have hb:=MJ hN (ss:=ss) oa (A:=bl n yK) (B:=aI n) (C:=aI yK.length) ss.length 0 N oa oa ⟨j,cV _,hj,by rw [bu hj];exact hv2⟩
    have hb':d9 N N ss (bl n yK) (aI n) (aI yK.length) 0=_:=hb
    rw [hb',bs]
    exact ⟨_,rfl,rfl,.inl rfl⟩
  ·rw [show ((ss.length:Int) != (yK.length:Int))=true by rw [bne_iff_ne];omega,ae,ae]
   exact ⟨_,rfl,rfl,.inl rfl⟩
end
section
variable {N:Nat}
theorem L9 (hN:1073741824<=N) {n k:Int} {v:yP × Bool} (h1:n<=9223372036854775807) (h:gX N n k=some v):gW N n k=some v:=by
 obtain ⟨w,e1,e2,_⟩:=y5 hN (k:=k) h1
 rw [h] at e1
 rw [e2,bL e1]
theorem Oj (hN:1073741824<=N) {a b:yP} {v:yP × Bool} (ha:a.length<=1048576) (hb:b.length<=1048576) (h:i8 N a b=some v):gU N a b=some v:=by
 obtain ⟨w,e1,e2,_⟩:=vU hN ha hb
 rw [h] at e1
 rw [e2,bL e1]
theorem NT (hN:1073741824<=N) {a b:yP} {c:Int} (ha:a.length<=1048576) (hb:b.length<=1048576) (h:fx N a b=some c):eO N a b=some c:=by
 obtain ⟨w,e1,e2⟩:=tE hN ha hb
 rw [h] at e1
 rw [e2,bL e1]
theorem Nv {c f e:Int} {ks ss:yP} (hl:ss.length<=1000) (hv:∀ v∈ss,0<=v):∀ (k i yN:Nat),i+k=ss.length->k<yN->∃ z,gJ N yN ss c f ks e ss (ss.length:Int) (i:Int)=some (.inr z):=by
 intro k
 induction k with
 | zero =>
  intro i yN hi hf
  obtain ⟨yN,rfl⟩:∃ k',yN=k'+1:=⟨yN-1,oa⟩
  rw [gJ,aN oa,ai]
  exact ⟨_,rfl⟩
 | succ k ih =>
  intro i yN hi hf
  obtain ⟨yN,rfl⟩:∃ k',yN=k'+1:=⟨yN-1,oa⟩
  have h0:=hv _ (bA (show i<ss.length by omega))
  rw [gJ,aJ oa,ae,bh oa,bs,aN oa,ai,bR oa oa,bs]
  exact ih (i+1) yN oa oa
theorem yy (hN:1073741824<=N) {n:Nat} {yK:List aV} (n5:n<=5) (a1:1<=yK.length) (a4:yK.length<=4) {s:Nat->Nat} (hs:∀ i,i<yK.length->s i<=16) {x:bw} (hx:fw N n yK x) {c:Nat} (hc:c<=9007199254740992) :
  dS N ((List.range' 0 yK.length).map fun i:Nat=>(s i:Int)) x (c:Int)=some (decide (c ^ (PVx N yK.length s x).2<=(PVx N yK.length s x).1)):=by
 obtain ⟨d,k,d1,d3,hk,ed,_⟩:=oo hN n5 a1 a4 hx
 have hkd:=IR hN n5 a1 a4 hx ed
 have v1:=IL (s:=s) ed
 rw [v1]
 dsimp only
 have hb:=Ew a4 d1 hs hkd
 have hb2:prN ((List.range' 0 yK.length).map fun i=>s i ^ k i)<10 ^ 60:=Nat.lt_trans hb (Nat.lt_of_le_of_lt (ka (by decide) d3) (by decide))
 obtain ⟨r,er,hr,cr,lr,_⟩:=Dx hN a4 hs hk
 obtain ⟨y,ey,hy,cy,ly⟩:=wk hN (n:=(c:Int)) oa oa (d:=d) oa (ud hc d3)
 obtain ⟨o,eo,ho,co,lo⟩:=wk hN (n:=((1:Nat):Int)) (by decide) (by decide) (d:=d) oa (ud (by decide) d3)
 have ho1:vB o=1:=by rw [ho,<- qg,Nat.one_pow];rfl
 obtain ⟨m,em,hm,cm,lm⟩:=GY hN cr co lr lo (by
  rw [ho1,hr,sh]
  have:((prN ((List.range' 0 yK.length).map fun i=>s i ^ k i):Nat):Int)<((10 ^ 60:Nat):Int):=Int.ofNat_lt.2 hb2
  simpa using this)
 obtain ⟨q,eq,hq⟩:=Hj hN cy cm ly lm
 have l1:((List.range' 0 yK.length).map fun i:Nat=>(s i:Int)).length=yK.length:=by simp
 have sb:∀ v∈((List.range' 0 yK.length).map fun i:Nat=>(s i:Int)),0<=v/\v<=9223372036854775807:=fun v hv=>by
  obtain ⟨i,hi,rfl⟩:=dh.1 hv
  have:=hs i (by rw [tB] at hi;omega)
  omega
 obtain ⟨z,ez⟩:=Nv (N:=N) (c:=(c:Int)) (f:=1) (e:=(d:Int)) (ks:=(List.range' 0 yK.length).map (fun i:Nat=>(k i:Int))) (ss:=(List.range' 0 yK.length).map fun i:Nat=>(s i:Int)) (by rw [l1];omega) (fun v hv=>(sb v hv).1) yK.length 0 N (by rw [l1];omega) oa
 have ez':gJ N N ((List.range' 0 yK.length).map fun i:Nat=>(s i:Int)) (c:Int) 1 ((List.range' 0 yK.length).map (fun i:Nat=>(k i:Int))) (d:Int) ((List.range' 0 yK.length).map fun i:Nat=>(s i:Int)) (((List.range' 0 yK.length).map fun i:Nat=>(s i:Int)).length:Int) 0=some (.inr z):=ez
 have eo':gX N 1 (d:Int)=some (o,true):=eo
 have xl:=hx.1.len
 unfold dS mx
 rw [EG hN oa ed,bs]
 dsimp only
 rw [aN oa,ai,aN oa,ai,aN oa,ai,ez',bs]
 simp only [lpS]
 rw [L9 hN oa ey,bs,G3 hN (by rw [l1];omega) (fun v hv=>(sb v hv).2) er,bs,L9 hN (by decide) eo',bs]
 dsimp only
 rw [Oj hN oa oa em,bs]
 dsimp only
 rw [ae,ae,ae,ae,NT hN oa oa eq,bs,bs]
 have:(q<=0)↔(c ^ d<=prN ((List.range' 0 yK.length).map fun i=>s i ^ k i)):=by
  rw [hq,hy,hm,ho1,hr,sh,<- qg]
  exact tN
 congr 1
 exact xz.2 this
end
section
variable {N:Nat}
theorem Fz (hN:1073741824<=N) {n d:Int} (h0:0<=n) (h1:n<=1000000000) (h2:1<=d) (h3:d<=1000000000):∃ p q,cL N n d=some ((p,q),true)/\0<=p/\p<=n/\1<=q/\q<=d:=by
 obtain ⟨a1,a2,a3⟩:=yd n
 obtain ⟨g,e,g1,g2,g3,g4⟩:=uO (N:=N) hN a1 (by omega:0<=d) oa
 have hg:=g3 (.inr oa)
 obtain ⟨p,ep,hp⟩:=AK hg ((a3 _).1 g1) oa oa
 obtain ⟨q,eq,hq⟩:=AK hg g2 oa oa
 have hq1:1<=q:=by
  refine Int.not_lt.1 fun h=>?_
  have:=Int.mul_le_mul_of_nonneg_right (show q<=0 by omega) (show 0<=g by omega)
  omega
 have hp0:0<=p:=by
  refine Int.not_lt.1 fun h=>?_
  have:=Int.mul_le_mul_of_nonneg_right (show p<=-1 by omega) (show 0<=g by omega)
  omega
 have hpn:p<=n:=by
  have:=AC (show 1<=g by omega) hp0
  omega
 have hqd:q<=d:=by
  have:=AC (show 1<=g by omega) (show 0<=q by omega)
  omega
 have hcop:Int.gcd p q=1:=by
  have h4:(Int.gcd p q:Int)*g ∣ g:=g4 _ ((a3 _).2 (by rw [<- hp];exact Int.mul_dvd_mul_right g (Int.gcd_dvd_left ..))) (by rw [<- hq];exact Int.mul_dvd_mul_right g (Int.gcd_dvd_right ..))
  have h5:=rO hg h4
  have h6:0<Int.gcd p q:=Int.gcd_pos_of_ne_zero_right p oa
  refine nC fun hne=>?_
  have:=Int.mul_le_mul_of_nonneg_right (show (2:Int)<=(Int.gcd p q:Int) by omega) (show 0<=g by omega)
  omega
 have hv:VR N (p,q):=(gT hN).2 ⟨hq1,by show q<=_;omega,by show _<=p;omega,by show p<=_;omega,hcop⟩
 unfold VR at hv
 refine ⟨p,q,?_,hp0,hpn,hq1,hqd⟩
 unfold cL
 rw [show (d == 0)=false by rw [l8];omega,ai,fL oa oa,bs,fQ,bs,show inR n (0-4000000000000000000) 4000000000000000000=true from ck.2 oa,ae,bs,fQ,bs,show inR d (0-4000000000000000000) 4000000000000000000=true from ck.2 oa,ae,aN oa,ai,fL oa oa,bs,e,bs,ep,bs,eq,bs,hv,bs,ae]
theorem KL (hN:1073741824<=N) {a:dK} (ha:VR N a) (h0:0<=a.1):∃ p q,cO N 1 1 a.1 a.2=some ((p,q),true)/\0<=p/\p<=a.1/\1<=q/\q<=a.2:=by
 obtain ⟨a1,a2,a3,a4,_⟩:=(gT hN).1 ha
 have hv:=kn hN (v:=1) (by decide) (by decide)
 unfold VR at hv ha
 obtain ⟨p,q,e,h⟩:=Fz hN h0 a4 a1 a2
 unfold cO
 rw [hv,bs,ae,ha,bs,ae,fv oa oa,bs,fv oa oa,bs,uR,uR,e,bs]
 exact ⟨p,q,rfl,h⟩
theorem Kt (hN:1073741824<=N) {a b:dK} (ha:VR N a) (hb:VR N b) (a0:0<=a.1) (b0:0<=b.1) (h1:a.1<=10000) (h2:a.2<=10000) (h3:b.1<=10000) (h4:b.2<=10000):∃ p q,cM N a.1 a.2 b.1 b.2=some ((p,q),true)/\0<=p/\p<=a.1*b.2+b.1*a.2/\1<=q/\q<=a.2*b.2:=by
 obtain ⟨a1,_⟩:=(gT hN).1 ha
 obtain ⟨b1,_⟩:=(gT hN).1 hb
 unfold VR at ha hb
 have m1:0<=a.1*b.2/\a.1*b.2<=10000*10000:=⟨qH a0 oa,mM h1 h4 oa (by decide)⟩
 have m2:0<=b.1*a.2/\b.1*a.2<=10000*10000:=⟨qH b0 oa,mM h3 h2 oa (by decide)⟩
 have m3:1*1<=a.2*b.2/\a.2*b.2<=10000*10000:=⟨mM a1 b1 (by decide) oa,mM h2 h4 oa (by decide)⟩
 obtain ⟨p,q,e,h⟩:=Fz hN (n:=a.1*b.2+b.1*a.2) (d:=a.2*b.2) oa oa oa oa
 unfold cM
 rw [ha,bs,ae,hb,bs,ae,fv oa oa,bs,fv oa oa,bs,bR oa oa,bs,fv oa oa,bs,e,bs]
 exact ⟨p,q,rfl,h⟩
end
section
variable {N:Nat}
theorem Ki (hN:1073741824<=N) {na:Nat} (h4:na<=4) {x:bw} (hl:x.length=na) {K:Int} (hD:DenOk N K x) (h3:∀ j,j<na->(aH x j).1<=3):∀ (c k yN:Nat) (r:dK) (u1 u2:Int),k+c=na->c<yN->VR N r->0<=r.1->r.1<=12 ^ k->r.2<=12 ^ k ->
  ∃ (p:dK) (z:Int),bV N yN (aI na) x u1 u2 r.1 r.2 (k:Int)=some (.inr (p.1,p.2,z)):=by
 have ol:(aI na).length=na:=by unfold aI;simp
 intro c
 induction c with
 | zero =>
  intro k yN r u1 u2 hk hf hv h0 h1 h2
  obtain ⟨yN,rfl⟩:∃ k',yN=k'+1:=⟨yN-1,oa⟩
  rw [bV,ol,aN oa,ai]
  exact ⟨r,_,rfl⟩
 | succ c ih =>
  intro k yN r u1 u2 hk hf hv h0 h1 h2
  obtain ⟨yN,rfl⟩:∃ k',yN=k'+1:=⟨yN-1,oa⟩
  have hkn:k<na:=by omega
  obtain ⟨g1,g2⟩:=hD.ok k oa
  have g3:=h3 k hkn
  have g4:1<=(aH x k).2/\(aH x k).2<=3:=by
   have hKK:=hD.hK
   have:=hD.den k oa
   omega
  have r1:=((gT hN).1 hv).1
  have b12:(12:Int) ^ k<=1728:=by
   match k,(show k<=3 by omega) with
   | 0,_=>decide
   | 1,_=>decide
   | 2,_=>decide
   | 3,_=>decide
  obtain ⟨p,q,e,p0,p1,q0,q1⟩:=KL hN g1 g2
  have hpv:VR N (p,q):=by
   obtain ⟨r',ok,e',h'⟩:=I5 hN (1,1) (aH x k)
   have e2:cO N 1 1 (aH x k).1 (aH x k).2=some (r',ok):=e'
   rw [e] at e2
   have e3:=bL e2
   obtain rfl:r'=(p,q):=(aX Prod.fst e3).symm
   exact (h' (aX Prod.snd e3).symm).2.2.1
  obtain ⟨s,t,e2,s0,s1,t0,t1⟩:=Kt hN hv hpv h0 p0 oa oa (by show p<=_;omega) (by show q<=_;omega)
  have hsv:VR N (s,t):=by
   obtain ⟨r',ok,e',h'⟩:=Ju hN r (p,q)
   rw [e2] at e'
   have e3:=bL e'
   obtain rfl:r'=(s,t):=(aX Prod.fst e3).symm
   exact (h' (aX Prod.snd e3).symm).2.2.1
  rw [bV,ol,aJ oa,ae,jC oa,bs,qx hkn,jC oa,bs,e,bs]
  dsimp only
  have e2':cM N r.1 r.2 p q=some ((s,t),true):=e2
  rw [ae,e2',bs]
  dsimp only
  rw [ae,bR oa oa,bs]
  have hpw:(12:Int) ^ (k+1)=12 ^ k*12:=rL 12 k
  have m1:r.1*q<=12 ^ k*3:=mM h1 oa oa oa
  have m2:p*r.2<=3*12 ^ k:=mM oa h2 oa (by decide)
  have m3:r.2*q<=12 ^ k*3:=mM h2 oa oa oa
  have s1':s<=r.1*q+p*r.2:=s1
  have t1':t<=r.2*q:=t1
  exact ih (k+1) yN (s,t) u1 u2 oa oa hsv s0 (by rw [hpw];show s<=_;omega) (by rw [hpw];show t<=_;omega)
theorem Kz (hN:1073741824<=N) {n:Nat} {yK:List aV} (n5:n<=5) (a1:1<=yK.length) (a4:yK.length<=4) {x:bw} (hp:fw N n yK x):∃ r:dK,fq N (aI yK.length) x=some (r,true):=by
 obtain ⟨K,hD,hK⟩:=w8 hN n5 a1 a4 hp
 have hxl:=hp.1.len
 have ol:(aI yK.length).length=yK.length:=by unfold aI;simp
 have h3:∀ j,j<yK.length->(aH x j).1<=3:=fun j hj=>by
  obtain ⟨g1,g2⟩:=hD.ok j oa
  have hq:=((gT hN).1 g1).1
  have hd:=hD.den j oa
  have hKK:=hD.hK
  have hqK:(aH x j).2<=K:=by omega
  have hqn:=oe hN g1
  have h0:0<=rv (aH x j):=by
   unfold rv
   rw [nB]
   exact mo (uF.2 g2) (qB (Rat.inv_pos.2 (uI.2 oa)))
  have h1:((aH x j).2:Rat)*rv (aH x j)<=(K:Rat)*rv (aH x j):=Be (rX.2 hqK) h0
  have h2:((aH x j).2:Rat)*rv (aH x j)=((aH x j).1:Rat):=by
   unfold rv;grind
  have h4:=hK j oa
  have h5:((aH x j).1:Rat)<=((3:Int):Rat):=by
   have e3:((3:Int):Rat)=3:=rfl
   rw [e3,<- h2]
   exact uX h1 h4
  exact rX.1 h5
 obtain ⟨p,z,e⟩:=Ki hN a4 hxl hD h3 yK.length 0 N (0,1) 0 0 oa oa (kn hN (by decide) (by decide)) (lA 0) (by show (0:Int)<=12 ^ 0;decide) (by show (1:Int)<=12 ^ 0;decide)
 have e':bV N N (aI yK.length) x 0 0 0 1 0=some (.inr (p.1,p.2,z)):=e
 unfold fq
 rw [ol,hxl,show ((yK.length:Int) != (yK.length:Int))=false by rw [mn],ai,e',bs,jh]
 exact ⟨p,rfl⟩
end
section
variable {N:Nat}
theorem Je (hN:1073741824<=N) {n:Nat} {yK:List aV} (n5:n<=5) (a1:1<=yK.length) (a4:yK.length<=4) {P:bQ} (hP:∀ x∈P,fw N n yK x) (hl:P.length<=100000) {A:bQ} {B:bw} {u1 u2:Int}:∀ (c i yN:Nat) (b:bw) (v:dK) (f:Bool),i+c=P.length->c<yN->(f=true->fw N n yK b) ->
  ∃ (b':bw) (w1 w2:Int) (f':Bool) (z:Int),iT N yN 1 A B (aI yK.length) u1 u2 b v.1 v.2 f P (P.length:Int) (i:Int)=some (b',w1,w2,f',z)/\(f'=true->fw N n yK b')/\(f=true\/0<c->f'=true):=by
 intro c
 induction c with
 | zero =>
  intro i yN b v f hi hf hb
  obtain ⟨yN,rfl⟩:∃ k',yN=k'+1:=⟨yN-1,oa⟩
  rw [iT,aN oa,ai]
  exact ⟨_,_,_,_,_,rfl,hb,fun h=>h.elim id fun h=>absurd h (Nat.lt_irrefl 0)⟩
 | succ c ih =>
  intro i yN b v f hi hf hb
  obtain ⟨yN,rfl⟩:∃ k',yN=k'+1:=⟨yN-1,oa⟩
  have hil:i<P.length:=by omega
  have hm:bI P i∈P:=by unfold bI;simp [hil]
  obtain ⟨r,er⟩:=Kz hN n5 a1 a4 (hP _ hm)
  rw [iT,aJ oa,ae,ixM hil,bs,Ev hN,er,bs]
  dsimp only
  rw [ae]
  cases f with
  | true =>
   obtain ⟨q,eq,q1,q2,_⟩:=Mj hN r v
   rw [ae,Dr,eq,bs,fv oa oa,bs]
   cases decide (1*q<0) with
   | true =>
    rw [ae,bR oa oa,bs]
    obtain ⟨b',w1,w2,f',z,h1,h2,h3⟩:=ih (i+1) yN (bI P i) r true oa oa fun _=>hP _ hm
    exact ⟨b',w1,w2,f',z,h1,h2,fun _=>h3 (.inl rfl)⟩
   | false =>
    rw [ai,bR oa oa,bs]
    obtain ⟨b',w1,w2,f',z,h1,h2,h3⟩:=ih (i+1) yN b v true oa oa hb
    exact ⟨b',w1,w2,f',z,h1,h2,fun _=>h3 (.inl rfl)⟩
  | false =>
   rw [ai,bR oa oa,bs]
   obtain ⟨b',w1,w2,f',z,h1,h2,h3⟩:=ih (i+1) yN (bI P i) r true oa oa fun _=>hP _ hm
   exact ⟨b',w1,w2,f',z,h1,h2,fun _=>h3 (.inl rfl)⟩
theorem Lc (hN:1073741824<=N) {na:Nat} (h4:na<=1000) {A:bQ} {B C:bw} {u1 u2:Int}:∀ (c k yN:Nat),k+c=na->c<yN->∃ z,i5 N yN A B C u1 u2 (aI na) (na:Int) (k:Int)=some (.inr z):=by
 have ol:(aI na).length=na:=by unfold aI;simp
 intro c
 induction c with
 | zero =>
  intro k yN hk hf
  obtain ⟨yN,rfl⟩:∃ k',yN=k'+1:=⟨yN-1,oa⟩
  rw [i5,aN oa,ai]
  exact ⟨_,rfl⟩
 | succ c ih =>
  intro k yN hk hf
  obtain ⟨yN,rfl⟩:∃ k',yN=k'+1:=⟨yN-1,oa⟩
  rw [i5,aJ oa,ae,jC oa,bs,qx oa,aN (by decide),ai,bR oa oa,bs]
  exact ih (k+1) yN oa oa
theorem Ed (hM:1073742848<=N) {n:Nat} {yK:List aV} {out:yP} (ha:fB yK) (ho:okI out) (hq:fR (n:Int) yK out=true) :
  ∃ x v,lc N (n:Int) yK out=some (x,v,true)/\fw N n yK x:=by
 have hN:1073741824<=N:=by omega
 obtain ⟨n1,n5,a1,a4⟩:=lk hq
 have n1:1<=n:=by omega
 have n5:n<=5:=by omega
 have a1:1<=yK.length:=by omega
 have a4:yK.length<=4:=by omega
 obtain ⟨P,eP,hl,hP,hne⟩:=Ao hN n1 n5 a1 a4
 have h0:0<P.length:=uZ.2 (hne (y4 hN n1 n5 a1 a4 (J8 hq)))
 obtain ⟨P2,eP2,eV⟩:=Fu hM (yK:=yK) n1 n5 a1 a4
 obtain rfl:P=P2:=by rw [eP] at eP2;exact bL eP2
 obtain ⟨b,w1,w2,f,z,e,h1,h2⟩:=Je hN n5 a1 a4 hP hl (A:=bl n yK) (B:=aI n) (u1:=0) (u2:=0) P.length 0 N [] (0,0) false oa oa fun h=>by cases h
 have hf:=h2 (.inr h0)
 subst hf
 have e':iT N N 1 (bl n yK) (aI n) (aI yK.length) 0 0 [] 0 0 false P (P.length:Int) 0=some (b,w1,w2,true,z):=e
 have l2:(aI yK.length).length=yK.length:=by unfold aI;simp
 obtain ⟨z2,e2⟩:=Lc hN (na:=yK.length) oa (A:=bl n yK) (B:=aI n) (C:=aI yK.length) (u1:=0) (u2:=0) yK.length 0 N oa oa
 have e2':i5 N N (bl n yK) (aI n) (aI yK.length) 0 0 (aI yK.length) (yK.length:Int) 0=some (.inr z2):=e2
 unfold lc
 rw [sC hN ha ho hq,bs]
 dsimp only
 unfold pD
 rw [DI hN n1 n5 a1 a4,bs,ae,l2,e2',bs,jh]
 unfold ui
 rw [eV,bs,e',bs,lpB,bs,bs]
 exact ⟨b,(w1,w2),rfl,h1 rfl⟩
end
theorem In {f:Nxt} (hf:NxtOk f) {k:Nat} (hk:k<=5):mH (fc f k []).1/\(∀ r∈(fc f k []).1,r.length=k/\bW r=true)/\mX (fc f k []).1:=by
 have h1:=Ck hf k []
 have hp:16 ^ k<=16 ^ 5:=ka (by decide) oa
 have h2:∀ r∈(fc f k []).1,r.length=k/\bW r=true:=fun r hr=>by
  obtain ⟨s,e1,e⟩:=pV hr
  exact ⟨by rw [e1];exact e,A3 hf rfl hr⟩
 exact ⟨⟨oa,fun r hr=>⟨by have:=(h2 r hr).1;omega,fun _ _=>trivial⟩⟩,h2,Cq hf k []⟩
def js (ts:List bE) (yK:List aV) (i:Nat):Nat:=(sI ts (dz yK i).1 (dz yK i).2).2.length
section
variable {N:Nat}
theorem tD {ts:List bE} {n:Nat} {yK:List aV} {yL:yP} (q:QFor ts n yK yL) {i:Nat} (hi:i<yK.length):js ts yK i<=16:=by
 have hm:=om hi
 obtain ⟨h1,_⟩:=rf q hm
 unfold js
 rw [h1]
 exact Nat.le_trans (ir _ _) (Nat.le_trans (n7 _ _) (ze (q.af _ hm).1))
theorem Eb {ts:List bE} {n:Nat} {yK:List aV} {yL:yP} (q:QFor ts n yK yL) {i:Nat} (hi:i<yK.length):lS ts yL yK i []<=js ts yK i:=by
 have hm:=om hi
 obtain ⟨h1,_⟩:=rf q hm
 unfold lS js
 rw [h1]
 refine Nat.le_trans (uB _ _) ?_
 unfold jp
 dsimp only
 refine Nat.le_trans (ir _ _) ?_
 rw [bT]
 exact bN _
end
theorem Fb {f:Nxt}:∀ {m:Nat} {p r:yP},r∈(fc f m p).1->∀ j,j<m->r.getD (p.length+j) 0∈(f (r.take (p.length+j))).1
 | 0,_,_,_,j,hj=>absurd hj (uV j)
 | m+1,p,r,h,j,hj=>by
  obtain ⟨v,hv0,hv⟩:=pp.1 h
  cases j with
  | zero =>
   obtain ⟨s,rfl,_⟩:=pV hv
   rw [mT,eS,xF rfl]
   simpa using hv0
  | succ j =>
   have:=Fb hv j oa
   rw [bZ,bP] at this
   rw [show p.length+(j+1)=p.length+1+j by omega]
   exact this
section
variable {ts:List bE} {n:Nat} {yK:List aV} {yL:yP}
theorem DG {s:ByteArray} (h:(cT ts s).2=true):∃ t∈ts,(cT ts s).1.2=t.2.2:=by
 unfold cT at h ⊢
 cases hd:pH ts with
 | false=>rw [hd] at h;cases h
 | true =>
  rw [hd,ae] at h
  rw [ae]
  cases hf:ts.find? (fun t=>decide (t.1=s)) with
  | none=>rw [hf] at h;cases h
  | some t=>exact ⟨t,AY hf,rfl⟩
theorem Ac {xs:yP} (h:∀ v∈xs,0<=v/\v<6) (i:Nat):0<=xs.getD i 0/\xs.getD i 0<6:=by
 by_cases hi:i<xs.length
 ·rw [bu hi];exact h _ (bA _)
 ·rw [show xs.getD i 0=0 by simp [nD,List.getElem?_eq_none (Nat.le_of_not_lt hi)]];decide
theorem HL {a:aV} {r:yP} (h:r∈(jp ts yL a).2):∃ x∈(cT ts a.1).1.2,r=iF (i9 a.2 x) (l9 a.2 yL):=by
 unfold jp at h
 obtain ⟨s,hs,rfl⟩:=dh.1 (lj _ _ _ h)
 obtain ⟨x,hx,rfl⟩:=tj (lj _ _ _ hs)
 exact ⟨x,hx,rfl⟩
theorem CC (a:aV):(jp ts yL a).2.length<=(cT ts a.1).1.2.length:=by
 have g1:=ir 20 ((c6 20 (dL a.2 (cT ts a.1).1.2)).map fun r=>iF r (l9 a.2 yL))
 have g2:=ir 20 (dL a.2 (cT ts a.1).1.2)
 have hbl:=n7 a.2 (cT ts a.1).1.2
 rw [bT] at g1
 exact Nat.le_trans g1 oa
theorem N6 (hv:DSv ts) {a:aV} (hl:(cT ts a.1).2=true) {m:Int} {p xs:yP} (hn:xs.Nodup) (hx:∀ x∈xs,x∈nV m (jp ts yL a).2 p):xs.length<=7:=by
 obtain ⟨t,ht,e⟩:=DG hl
 rcases hv t ht with h | h
 ·have h1:=oR xs _ hn hx
  have h2:=Cj m (jp ts yL a).2 p
  have h3:=CC (ts:=ts) (yL:=yL) a
  rw [e] at h3
  omega
 ·have h6:=oR xs [0,1,2,3,4,5] hn fun x hxm=>by
   have hk:=hx x hxm
   unfold nV at hk
   split at hk
   ·obtain ⟨r,hr,_,rfl⟩:=pY.1 hk
    obtain ⟨y,hy,rfl⟩:=HL hr
    rw [e] at hy
    have h0:=h y hy
    have h2:∀ v∈i9 a.2 y,0<=v/\v<6:=fun v hv'=>by
     unfold i9 at hv'
     obtain ⟨c,_,rfl⟩:=dh.1 hv'
     exact Ac h0 _
    have h3:∀ v∈iF (i9 a.2 y) (l9 a.2 yL),0<=v/\v<6:=fun v hv'=>by
     unfold iF at hv'
     obtain ⟨c,_,rfl⟩:=dh.1 hv'
     exact Ac h2 _
    have h4:=Ac h3 p.length
    simp only [bX,pC,rN]
    omega
   ·cases hk
  exact Nat.le_trans h6 (by decide)
theorem NP (q:QFor ts n yK yL) (hv:DSv ts) {p:yP} (hp:p.length<n):(im ts yL yK p).1.length<=7:=by
 have hol:=q.ol
 have hb:=(iW q.os).2 (yL.getD p.length 0) (by rw [bu oa];exact bA _)
 obtain ⟨a,ha,hva⟩:=q.cov (yL.getD p.length 0) hb.1 oa
 obtain ⟨i,hi,rfl⟩:=gg ha
 have hs:tu yL yK p.length i=true:=by unfold tu;rw [kg hi];exact aJ hva
 have hk:∀ x∈(im ts yL yK p).1,x∈nV (jp ts yL (dz yK i)).1 (jp ts yL (dz yK i)).2 (oi (dz yK i).2 yL p):=fun x hx=>y6 q hp hi hs hx
 exact N6 hv (q.af _ (om hi)).1 (wv ((An q).asc p)) hk
theorem Kb (q:QFor ts n yK yL) (hv:DSv ts):∀ (m:Nat) (p:yP),p.length+m<=n->(fc (im ts yL yK) m p).1.length<=7 ^ m
 | 0,p,_=>by simp [fc]
 | m+1,p,h=>by
  have h1:=nJ (g:=fun v=>(fc (im ts yL yK) m (p++[v])).1) (fun v=>Kb q hv m _ (by rw [bZ,bP];omega)) (im ts yL yK p).1
  have h2:=me (7 ^ m) (NP q hv (p:=p) oa)
  show ((im ts yL yK p).1.flatMap fun v=>(fc (im ts yL yK) m (p++[v])).1).length<=_
  rw [oC];omega
theorem BI (i:Nat):lS ts yL yK i []=(jp ts yL (dz yK i)).2.length:=by
 unfold lS lK oi kK
 simp
theorem AE (q:QFor ts n yK yL) {i:Nat} (hi:i<yK.length) (h0:lS ts yL yK i []=0):(fc (im ts yL yK) n []).1=[]:=by
 refine List.eq_nil_iff_forall_not_mem.2 fun r hr=>?_
 obtain ⟨_,h1,h2⟩:=q.al _ (om hi)
 have hvm:(dz yK i).2[0]∈(dz yK i).2:=bA h1
 obtain ⟨b0,b1⟩:=h2 _ hvm
 have hs:=iW q.os
 have hvo:=we hs.1 q.ol (fun x hx=>by have:=hs.2 x hx;omega) _ b0 b1
 obtain ⟨k,hk,e⟩:=gg hvo
 have hol:=q.ol
 have hin:=Fb hr k oa
 have hrl:r.length=0+n:=JU hr
 rw [gu,dA] at hin
 have htl:(r.take k).length=k:=by rw [c5];omega
 have hh:tu yL yK (r.take k).length i=true:=by
  unfold tu
  rw [htl,bu hk,e]
  exact aJ hvm
 have h:=y6 q oa hi hh hin
 rw [BI,ko] at h0
 unfold atV nV at h
 rw [h0] at h
 split at h
 ·obtain ⟨_,h3,_⟩:=pY.1 h
  cases h3
 ·cases h
theorem DL (q:QFor ts n yK yL) (hd:DSm ts) {i:Nat} (hi:i<yK.length):lS ts yL yK i []<=10:=by
 rw [BI]
 obtain ⟨t,ht,e⟩:=DG (q.af _ (om hi)).1
 have h1:=CC (ts:=ts) (yL:=yL) (dz yK i)
 have h2:=(hd.2 t ht).2.1
 rw [e] at h1
 omega
theorem IG (q:QFor ts n yK yL) (hd:DSm ts) (hv:DSv ts) {out:yP} (hq:QB ((n:Int),yK,out)):(fc (im ts yL yK) n []).1.length<=4000:=by
 have h5:=q.n5
 have g:J7 (n:Int) yK:=⟨q.a4,fun a ha=>⟨(q.al a ha).2.1,(q.al a ha).2.2⟩,q.cov⟩
 rcases hq g (by show (n:Int)<=5;omega) with h | ⟨h5,hp⟩
 ·dsimp only at h
  have h1:=Kb q hv n [] (by simp)
  have h2:7 ^ n<=7 ^ 4:=ka (by decide) oa
  omega
 ·dsimp only at h5 hp
  have hn:n=5:=by omega
  by_cases he:∃ i,i<yK.length/\lS ts yL yK i []=0
  ·obtain ⟨i,hi,h0⟩:=he
   rw [AE q hi h0]
   exact cV _
  ·have hlt:∀ i∈[0,1,3],i<yK.length:=by rw [hp];decide
   have C:Cov yK n [0,1,3] 1:=⟨by decide,hlt,fun v v0 v1=>by
    have:v=0\/v=1\/v=2\/v=3\/v=4:=by omega
    rw [hp]
    rcases this with rfl | rfl | rfl | rfl | rfl <;> decide⟩
   have h:=Fo q C (fun i hi=>by
    have:lS ts yL yK i []≠0:=fun h0=>he ⟨i,hlt i hi,h0⟩
    omega) (bN n)
   have b0:=DL q hd (hlt 0 (by simp))
   have b1:=DL q hd (hlt 1 (by simp))
   have b3:=DL q hd (hlt 3 (by simp))
   rw [Nat.pow_one] at h
   have hm:=lI b0 (lI b1 b3)
   have e:prN ([0,1,3].map fun i=>lS ts yL yK i [])=lS ts yL yK 0 []*(lS ts yL yK 1 []*(lS ts yL yK 3 []*1)):=rfl
   rw [e,n9] at h
   exact Nat.le_trans h (Nat.le_trans hm (by decide))
theorem Iw (q:QFor ts n yK yL) {L:List Nat} (hL:∀ i∈L,i<yK.length) (hs:∀ i,i<yK.length->1<=js ts yK i):v9 ts yL yK L []:=by
 intro i hi
 have hil:=hL i hi
 have h1:=hs i hil
 rw [BI]
 obtain ⟨e,_⟩:=rf q (om hil)
 unfold js at h1
 rw [e] at h1
 dsimp only at h1
 have hr:=bA (show 0<(c6 20 (dL (dz yK i).2 (cT ts (dz yK i).1).1.2)).length by omega)
 exact uL (Bd 20 _ _ (dh.2 ⟨_,hr,rfl⟩))
theorem Mq (q:QFor ts n yK yL):∀ v:Nat,v<n->∃ j,j<yK.length/\((v:Nat):Int)∈(dz yK j).2:=fun v hv=>by
 obtain ⟨a,ha,h⟩:=q.cov v oa oa
 obtain ⟨j,hj,rfl⟩:=gg ha
 exact ⟨j,hj,by rw [kg hj];exact h⟩
end
def oL (ts:List bE) (yK:List aV):yP:=(List.range' 0 yK.length).map fun i:Nat=>(js ts yK i:Int)
theorem GK (ts:List bE) (yK:List aV):(oL ts yK).length=yK.length:=by unfold oL;simp
section
variable {N n:Nat} {ts:List bE} {yK:List aV} {out yL:yP}
theorem Ia (q:QFor ts n yK yL):∀ v∈oL ts yK,0<=v/\v<=16:=fun v hv=>by
 unfold oL at hv
 obtain ⟨i,hi,rfl⟩:=dh.1 hv
 have:=tD q (i:=i) (by simp at hi;omega)
 omega
theorem Od (q:QFor ts n yK yL) (k:Nat->Nat):prN ((wtL k (List.range' 0 yK.length)).map fun i=>lS ts yL yK i [])<=prN ((List.range' 0 yK.length).map fun i=>js ts yK i ^ k i):=by
 rw [IW]
 exact A6 fun i hi=>nX (Eb q (by simp at hi;omega)) _
theorem Nr (hN:1073741824<=N) (q:QFor ts n yK yL) {x:bw} (hx:fw N n yK x) (hs:∀ i,i<yK.length->1<=js ts yK i) {m:Nat} (hm:m<=n) :
  cE N (oL ts yK) x (((fc (im ts yL yK) m []).1.length:Nat):Int)=some true:=by
 obtain ⟨d,k,d1,d3,hk,ex,C⟩:=oo hN q.n5 q.a1 q.a4 hx
 exact NG hN q.a4 (fun i hi=>tD q hi) hk d1 d3 ex (Nat.le_trans (Fo q C (Iw q C.lt hs) hm) (Od q k))
end
structure VRel (vs:yP) (rows:bp):Prop where
 asc:lE vs
 bd:∀ v∈vs,0<=v/\v<5
 val:cI (vs.length:Int) rows=true
theorem VRel.row {vs:yP} {rows:bp} (h:VRel vs rows) {r:yP} (hr:r∈rows):r.length=vs.length/\bW r=true:=by
 obtain ⟨_,_,_,v4⟩:=iy h.val
 obtain ⟨i,hi,rfl⟩:=gg hr
 obtain ⟨g1,g2,_⟩:=v4 i hi
 exact ⟨oa,g2⟩
def Hf (ts:List bE) (a:aV):bp:=c6 20 (dL a.2 (cT ts a.1).1.2)
theorem D1 (n:Nat):kj (hO n) (n:Int)=true:=B7 (AS n) fun x hx=>by have:=Eu.1 hx;omega
structure QPair (ts:List bE) (yK:List aV):Prop where
 a1:1<=yK.length
 a4:yK.length<=4
 al:∀ a∈yK,a.2.length<=5/\∀ v∈a.2,0<=v/\v<5
 rel:∀ a∈yK,sI ts a.1 a.2=(((fu a.2).length:Int),Hf ts a)/\VRel (fu a.2) (Hf ts a)/\(Hf ts a).length<=16
theorem wR {ts:List bE} {n:Nat} {yK:List aV} {yL:yP} (q:QFor ts n yK yL) {v:Int} (h0:0<=v) (h1:v<n):v∈yL:=by
 apply nC
 intro hn
 obtain ⟨h2,h3⟩:=iW q.os
 have:=rx n (v :: yL) (jm.2 ⟨hn,h2⟩) (fun x hx=>by
  rcases bX.1 hx with rfl | h
  ·exact ⟨h0,h1⟩
  ·have:=h3 x h;omega)
 rw [b9,q.ol] at this
 omega
def nU (yL r:yP) (v:Int):Int:=r.getD (fW yL v).toNat 0
def iD (ts:List bE) (a:aV):bp:=(cT ts a.1).1.2
def uc (ts:List bE) (yK:List aV) (f:Int->Int):Prop:=∀ a∈yK,a.2.map f∈iD ts a
theorem rG {vs:yP} {v:Int} (h:v∈vs):∃ j:Nat,fW vs v=(j:Int)/\∃ hj:j<vs.length,vs[j]=v:=by
 rcases sF vs v with ⟨h1,_⟩ | ⟨j,hj,e,e2,_⟩
 ·exact absurd h h1
 ·exact ⟨j,e2,hj,e⟩
theorem BJ {vs:yP} {f:Int->Int} {j:Nat} (h:j<vs.length):(vs.map f).getD j 0=f vs[j]:=by
 rw [bu (by rw [bT];exact h),iS]
theorem wz (vars:yP):∀ (l out:yP),l.Nodup->(∀ v∈l,v∈vars->fW vars v∉out)->l.foldl (lY vars) out=out++(l.filter fun v=>decide (v∈vars)).map (fW vars)
 | [],out,_,_=>by simp
 | v :: l,out,hn,ho=>by
  obtain ⟨n1,n2⟩:=jm.1 hn
  rw [tI]
  by_cases hv:v∈vars
  ·have e:lY vars out v=out++[fW vars v]:=by
    unfold lY
    rw [aJ (s6.2 hv),aN (ho v cx hv)];rfl
   rw [e,wz vars l _ n2 (fun w hw hwv hm=>by
    rcases cU.1 hm with h | h
    ·exact ho w (cD _ hw) hwv h
    ·rw [d7] at h
     obtain ⟨j,e1,hj,e2⟩:=rG hwv
     obtain ⟨k,e3,hk,e4⟩:=rG hv
     have:j=k:=by omega
     subst this
     rw [e2] at e4;subst e4;exact n1 hw),qy,aK (by simpa using hv)]
   simp
  ·have e:lY vars out v=out:=by
    unfold lY
    rw [aN (fun h=>hv (s6.1 h))];rfl
   rw [e,wz vars l _ n2 (fun w hw=>ho w (cD _ hw)),qy,aS (by simpa using hv)]
theorem wT {vs yL x:yP} (hn:yL.Nodup):iF (i9 vs x) (l9 vs yL)=(yL.filter fun v=>decide (v∈fu vs)).map fun v=>x.getD (fW vs v).toNat 0:=by
 unfold l9
 rw [wz _ _ _ hn (by simp),mc]
 unfold iF
 rw [nx]
 refine n6 fun v hv=>?_
 rw [jn,dm] at hv
 obtain ⟨j,e1,hj,e2⟩:=rG hv.2
 show (i9 vs x).getD (fW (fu vs) v).toNat 0=_
 unfold i9
 rw [e1,eJ,BJ hj,e2]
theorem DR {ts:List bE} {yL:yP} {a:aV} {t:yP}:t∈(jp ts yL a).2↔∃ x∈iD ts a,jY a.2 x=true/\t=iF (i9 a.2 x) (l9 a.2 yL):=by
 unfold jp iD
 dsimp only
 rw [oK,dh]
 constructor
 ·rintro ⟨y,hy,rfl⟩
  rw [oK] at hy
  unfold dL at hy
  obtain ⟨x,hx,rfl⟩:=dh.1 hy
  rw [jn] at hx
  exact ⟨x,hx.1,hx.2,rfl⟩
 ·rintro ⟨x,h1,h2,rfl⟩
  refine ⟨_,(oK _ _ _).2 (dh.2 ⟨x,jn.2 ⟨h1,h2⟩,rfl⟩),rfl⟩
theorem Dz {vs yL r:yP} (hn:yL.Nodup):∀ m,m<=yL.length->kK vs yL r m=((yL.take m).filter fun v=>decide (v∈vs)).map (nU yL r)
 | 0,_=>rfl
 | m+1,h=>by
  rw [l7,Dz hn m oa,gR oa,uP,eU,bu oa]
  by_cases hv:yL[m]∈vs
  ·rw [aJ hv,ae,qy,aK (by simpa using hv)]
   simp only [List.filter_nil,gH,ou]
   unfold nU
   rw [zj hn,eJ]
  ·rw [aN hv,ai,qy,aS (by simpa using hv)]
   simp
theorem G8 {vs x:yP} (h:jY vs x=true) {i:Nat} (hi:i<vs.length):x.getD (fW vs vs[i]).toNat 0=x.getD i 0:=by
 unfold jY um at h
 rw [df] at h
 have:=h i (by simp;omega)
 unfold xX at this
 rw [dm,bu hi] at this
 exact this
theorem Hd {vs x:yP} (h:∀ i (hi:i<vs.length),x.getD (fW vs vs[i]).toNat 0=x.getD i 0):jY vs x=true:=by
 unfold jY um
 rw [df]
 intro i hi
 have hi:i<vs.length:=by simpa using hi
 unfold xX
 rw [dm,bu hi]
 exact h i hi
section
variable {ts:List bE} {n:Nat} {yK:List aV} {yL:yP}
theorem wj (q:QFor ts n yK yL):yL.Nodup:=(iW q.os).1
theorem zw (q:QFor ts n yK yL) {a:aV} {r:yP} (hr:r.length=n):oi a.2 yL r=(yL.filter fun v=>decide (v∈fu a.2)).map (nU yL r):=by
 unfold oi
 have hb:=(iW q.os).2
 have h5:=q.n5
 rw [Dz (wj q) _ (by rw [q.ol,hr];exact bN _),hr,<- q.ol,gP]
 congr 1
 refine List.filter_congr fun v hv=>?_
 rw [xz,mZ]
 have:=hb v hv
 exact ⟨fun h=>⟨oa,h⟩,fun h=>h.2⟩
theorem rb (q:QFor ts n yK yL) {a:aV} (ha:a∈yK) {x:yP} (hx:x∈iD ts a):x.length=a.2.length/\bW x=true:=by
 obtain ⟨h1,h2⟩:=q.af a ha
 obtain ⟨_,h4⟩:=Ag h1 h2
 obtain ⟨i,hi,rfl⟩:=gg hx
 exact h4 i hi
theorem Ec (q:QFor ts n yK yL) {a:aV} (ha:a∈yK) {r:yP} (hr:r.length=n):oi a.2 yL r∈(jp ts yL a).2↔a.2.map (nU yL r)∈iD ts a:=by
 have hnd:=wj q
 obtain ⟨hl5,hl1,hv⟩:=q.al a ha
 have hF:∀ v∈a.2,v∈yL.filter fun v=>decide (v∈fu a.2):=fun v hm=>by
  have h5:=q.n5
  have:=hv v hm
  rw [jn,dm,mZ]
  exact ⟨wR q this.1 this.2,oa,hm⟩
 have hF2:∀ v,v∈(yL.filter fun v=>decide (v∈fu a.2))->v∈a.2:=fun v hm=>by
  rw [jn,dm,mZ] at hm
  exact hm.2.2
 rw [DR,zw q hr]
 constructor
 ·rintro ⟨x,hx,hf,e⟩
  rw [wT hnd,List.map_inj_left] at e
  have hxl:=(rb q ha hx).1
  have:a.2.map (nU yL r)=x:=by
   refine kS (by rw [bT,hxl]) fun i h1 h2=>?_
   have hi:i<a.2.length:=by rw [<- hxl];exact h2
   rw [iS,e _ (hF _ (bA hi)),G8 hf hi,bu h2]
  rw [this];exact hx
 ·intro hx
  have key:∀ v∈a.2,(a.2.map (nU yL r)).getD (fW a.2 v).toNat 0=nU yL r v:=fun v hm=>by
   obtain ⟨j,e1,hj,e2⟩:=rG hm
   rw [e1,eJ,BJ hj,e2]
  refine ⟨_,hx,Hd fun i hi=>?_,?_⟩
  ·rw [key _ (bA hi),BJ hi]
  ·rw [wT hnd]
   exact n6 fun v hm=>(key v (hF2 v hm)).symm
theorem za {f:Nxt}:∀ {m:Nat} {p r:yP},r∈(fc f m p).1↔∃ s,r=p++s/\s.length=m/\∀ l (h:l<s.length),s[l]∈(f (p++s.take l)).1
 | 0,p,r=>by
  constructor
  ·intro h;exact ⟨[],by rw [jI];exact d7.1 h,rfl,fun l h=>absurd h (uV _)⟩
  ·rintro ⟨s,rfl,hs,_⟩
   rw [ko.1 hs,jI];exact d7.2 rfl
 | m+1,p,r=>by
  constructor
  ·intro h
   obtain ⟨v,hv,h⟩:=pp.1 h
   obtain ⟨s,rfl,hs,hl⟩:=za.1 h
   refine ⟨v :: s,by simp,by simp [hs],fun l h=>?_⟩
   cases l with
   | zero=>simpa using hv
   | succ l =>
    have:=hl l (by simpa using h)
    simpa using this
  ·rintro ⟨s,rfl,hs,hl⟩
   cases s with
   | nil=>simp at hs
   | cons v s =>
    have h0:=hl 0 (by simp)
    rw [List.take_zero,jI] at h0
    refine pp.2 ⟨v,h0,za.2 ⟨s,by simp,by simpa using hs,fun l h=>?_⟩⟩
    have:=hl (l+1) (by simpa using h)
    simpa using this
theorem CL (q:QFor ts n yK yL) {p:yP} (hp:p.length<n) {x:Int}:x∈(im ts yL yK p).1↔∀ i,i<yK.length->yL.getD p.length 0∈(dz yK i).2->x∈atV ts yL yK p i:=by
 have ha:=GT q hp
 have k1:=vI (ls:=mh ts yL yK p) (B:=16) fun l hl=>(rS q l hl).1
 have hm:(∀ l∈mh ts yL yK p,x∈l)↔∀ i,i<yK.length->yL.getD p.length 0∈(dz yK i).2->x∈atV ts yL yK p i:=by
  unfold mh
  constructor
  ·intro h i hi hv
   exact h _ (dh.2 ⟨i,qX.2 ⟨hi,hv⟩,rfl⟩)
  ·intro h l hl
   obtain ⟨i,hi,rfl⟩:=dh.1 hl
   exact h i (qX.1 hi).1 (qX.1 hi).2
 rw [<- hm]
 exact ⟨fun h=>k1.2.1 x h,fun h=>k1.2.2.2.2 ha x h⟩
theorem Cr {vs yL r:yP}:∀ {l m:Nat},l<=m->m<=r.length->kK vs yL (r.take m) l=kK vs yL r l
 | 0,_,_,_=>rfl
 | l+1,m,h,hm=>by
  rw [l7,l7,Cr oa hm,bu (xs:=r.take m) (by rw [c5];omega),bu (xs:=r) oa,se]
theorem Dn {vs yL r:yP}:∀ {l m:Nat},l<=m->∃ t,kK vs yL r m=kK vs yL r l++t
 | l,0,h=>by
  obtain rfl:l=0:=by omega
  exact ⟨[],by simp⟩
 | l,m+1,h=>by
  by_cases e:l=m+1
  ·subst e;exact ⟨[],by simp⟩
  ·obtain ⟨t,ht⟩:=Dn (vs:=vs) (yL:=yL) (r:=r) (show l<=m by omega)
   rw [l7,ht]
   cases decide (yL.getD m 0∈vs)
   ·exact ⟨t,rfl⟩
   ·exact ⟨t++[r.getD m 0],by simp⟩
theorem Cy {vs yL r:yP}:∀ {m:Nat},kK vs yL r m≠[]->∃ l,l<m/\yL.getD l 0∈vs/\kK vs yL r m=kK vs yL r l++[r.getD l 0]
 | 0,h=>absurd rfl h
 | m+1,h=>by
  rw [l7] at h ⊢
  by_cases hv:yL.getD m 0∈vs
  ·rw [aJ hv,ae];exact ⟨m,oa,hv,rfl⟩
  ·rw [aN hv,ai] at h ⊢
   obtain ⟨l,h1,h2,h3⟩:=Cy h
   exact ⟨l,oa,h2,h3⟩
theorem Dk (q:QFor ts n yK yL) {a:aV} (ha:a∈yK) {t:yP} (ht:t∈(jp ts yL a).2):(t.length:Int)=(jp ts yL a).1:=by
 obtain ⟨_,_,h3,_⟩:=rf q ha
 obtain ⟨_,_,_,h4⟩:=iy h3
 obtain ⟨i,hi,rfl⟩:=gg ht
 exact (h4 i hi).1
theorem ue (q:QFor ts n yK yL) {r:yP}:r∈(fc (im ts yL yK) n []).1↔r.length=n/\uc ts yK (nU yL r):=by
 have hol:=q.ol
 have step:∀ {r:yP},r.length=n->((∀ l (h:l<r.length),r[l]∈(im ts yL yK (r.take l)).1)↔∀ a∈yK,oi a.2 yL r∈(jp ts yL a).2):=by
  intro r hr
  have own:∀ {l:Nat} (vs:yP),l<=n->oi vs yL (r.take l)=kK vs yL r l:=fun {l} vs hl=>by
   unfold oi
   rw [c5,nu oa,Cr (bN _) oa]
  have full:∀ vs:yP,oi vs yL r=kK vs yL r n:=fun vs=>by unfold oi;rw [hr]
  constructor
  ·intro h a ha
   obtain ⟨i,hi,rfl⟩:=gg ha
   rw [full]
   have hne:kK yK[i].2 yL r n≠[]:=fun e=>by
    have h2:=zw q (a:=yK[i]) hr
    rw [full,e] at h2
    obtain ⟨_,h1,hv⟩:=q.al _ ha
    have h3:=hv _ (bA (show 0<yK[i].2.length by omega))
    have h5:=q.n5
    have h4:yK[i].2[0]'oa∈yL.filter fun v=>decide (v∈fu yK[i].2):=by
     rw [jn,dm,mZ]
     exact ⟨wR q h3.1 h3.2,oa,bA _⟩
    have:=aX List.length h2
    rw [bT] at this
    have h6:=uL h4
    simp at this
    omega
   obtain ⟨l,h1,h2,h3⟩:=Cy hne
   have hk:=(CL q (p:=r.take l) (by rw [c5];omega)).1 (h l oa) i hi (by rw [c5,nu oa,kg hi];exact h2)
   unfold atV at hk
   rw [kg hi,own _ oa] at hk
   unfold nV at hk
   split at hk
   ·obtain ⟨t,ht,e1,e2⟩:=pY.1 hk
    have htl:=Dk q ha ht
    have hown:=zw q (a:=yK[i]) hr
    rw [full] at hown
    have hlen:(kK yK[i].2 yL r n).length=t.length:=by
     obtain ⟨x,_,_,e5⟩:=DR.1 ht
     rw [wT (wj q)] at e5
     rw [hown,e5,bT,bT]
    have:kK yK[i].2 yL r n=t:=by
     rw [h3] at hlen ⊢
     rw [bZ] at hlen
     refine kS (by rw [bZ];exact hlen) fun j j1 j2=>?_
     by_cases hj:j<(kK yK[i].2 yL r l).length
     ·rw [AR hj]
      have:=List.getElem_of_eq e1.symm (i:=j) hj
      rw [this,se]
     ·have hj':j=(kK yK[i].2 yL r l).length:=by simp at j1;omega
      subst hj'
      rw [xO (bN _)]
      simp only [Nat.sub_self,List.getElem_cons_zero]
      rw [bu oa] at e2 ⊢
      exact e2
    rw [this];exact ht
   ·cases hk
  ·intro h l hl
   refine (CL q (by rw [c5];omega)).2 fun i hi hv=>?_
   rw [c5,nu oa,kg hi] at hv
   have ha:=bA hi
   have ht:=h _ ha
   rw [full] at ht
   have htl:=Dk q ha ht
   unfold atV
   rw [kg hi,own _ oa]
   obtain ⟨t,e⟩:=Dn (vs:=yK[i].2) (yL:=yL) (r:=r) (show l+1<=n by omega)
   rw [l7,aJ hv,ae,eS] at e
   have hlt:(kK yK[i].2 yL r l).length<(kK yK[i].2 yL r n).length:=by rw [e];simp
   unfold nV
   rw [aK oa,pY]
   refine ⟨_,ht,by rw [e];simp,?_⟩
   rw [e,bu (xs:=_++_) (by simp),xO (bN _)]
   simp only [Nat.sub_self,List.cons_append,mc,List.getElem_cons_zero]
   rw [bu oa]
 rw [za]
 constructor
 ·rintro ⟨s,e,hs,hl⟩
  rw [mc] at e
  subst e
  refine ⟨hs,fun a ha=>(Ec q ha hs).1 ((step hs).1 (fun l h=>?_) a ha)⟩
  have:=hl l h
  rwa [mc] at this
 ·rintro ⟨hr,hb⟩
  refine ⟨r,rfl,hr,fun l h=>?_⟩
  rw [mc]
  exact (step hr).2 (fun a ha=>(Ec q ha hr).2 (hb a ha)) l h
end
def at0 (b:yP) (v:Int):Int:=b.getD v.toNat 0
def nQ (vs t:yP):Nat->Nat->yP->Option (yP)
 | 0,_,row=>some row
 | m+1,k,row=>if at0 row (vs.getD k 0)=-1\/at0 row (vs.getD k 0)=t.getD k 0 then nQ vs t m (k+1) (row.set (vs.getD k 0).toNat (t.getD k 0)) else none
def l8V (ts:List bE):List aV->yP->bp
 | [],row=>[row]
 | a :: l,row=>(iD ts a).flatMap fun t=>match nQ a.2 t a.2.length 0 row with | some row'=>l8V ts l row' | none=>[]
def rH (row b:yP):Prop:=b.length=row.length/\∀ v:Int,0<=v->v<row.length->at0 row v≠-1->at0 b v=at0 row v
theorem Ll {row:yP} {v w x:Int} (hv:0<=v) (hvl:v<row.length) (hw:0<=w):at0 (row.set v.toNat x) w=if w=v then x else at0 row w:=by
 unfold at0
 by_cases h:w=v
 ·subst h
  rw [aK rfl,nD,List.getElem?_set_self oa,wY]
 ·rw [aS h,nD,vb oa,nD]
theorem CA {vs t:yP} (hl:t.length=vs.length) (ht:∀ x∈t,0<=x):∀ (m k:Nat) (row:yP),k+m=vs.length->(∀ v∈vs,0<=v/\v<(row.length:Int)) ->
  match nQ vs t m k row with
  | none=>∀ b,rH row b->¬ ∀ j,k<=j->j<k+m->at0 b (vs.getD j 0)=t.getD j 0
  | some row'=>row'.length=row.length/\(∀ b,rH row' b↔rH row b/\∀ j,k<=j->j<k+m->at0 b (vs.getD j 0)=t.getD j 0)/\∀ v:Int,0<=v->(at0 row' v=-1↔at0 row v=-1/\∀ j,k<=j->j<k+m->vs.getD j 0≠v):=by
 intro m
 induction m with
 | zero =>
  intro k row _ _
  unfold nQ
  exact ⟨rfl,fun b=>⟨fun h=>⟨h,fun j h1 h2=>by omega⟩,fun h=>h.1⟩,fun v _=>⟨fun h=>⟨h,fun j h1 h2=>by omega⟩,fun h=>h.1⟩⟩
 | succ m ih =>
  intro k row hk hb
  have hkv:k<vs.length:=by omega
  obtain ⟨hv0,hv1⟩:=hb _ (bA hkv)
  have ev:vs.getD k 0=vs[k]:=bu hkv
  have et:t.getD k 0=t[k]'oa:=bu oa
  have ht0:=ht _ (bA (show k<t.length by omega))
  unfold nQ
  rw [ev,et]
  by_cases hc:at0 row vs[k]=-1\/at0 row vs[k]=t[k]
  ·rw [aK hc]
   have hset:∀ w:Int,0<=w->at0 (row.set (vs[k]).toNat (t[k]'oa)) w=if w=vs[k] then t[k]'oa else at0 row w:=fun w hw=>Ll hv0 hv1 hw
   have hcom:∀ b,rH (row.set (vs[k]).toNat (t[k]'oa)) b↔rH row b/\at0 b vs[k]=t[k]'oa:=fun b=>by
    unfold rH
    rw [gd]
    constructor
    ·rintro ⟨h1,h2⟩
     have h3:at0 b vs[k]=t[k]'oa:=by
      have:=h2 vs[k] hv0 hv1 (by rw [hset _ hv0,aK rfl];omega)
      rwa [hset _ hv0,aK rfl] at this
     refine ⟨⟨h1,fun w w0 w1 hw=>?_⟩,h3⟩
     by_cases e:w=vs[k]
     ·subst e
      rcases hc with hc | hc
      ·exact absurd hc hw
      ·rw [hc];exact h3
     ·have:=h2 w w0 w1 (by rw [hset _ w0,aS e];exact hw)
      rwa [hset _ w0,aS e] at this
    ·rintro ⟨⟨h1,h2⟩,h3⟩
     refine ⟨h1,fun w w0 w1 hw=>?_⟩
     rw [hset _ w0] at hw ⊢
     by_cases e:w=vs[k]
     ·rw [aK e,e];exact h3
     ·rw [aS e] at hw ⊢;exact h2 w w0 w1 hw
   have hall:∀ (P:Nat->Prop),(∀ j,k<=j->j<k+(m+1)->P j)↔P k/\∀ j,k+1<=j->j<k+1+m->P j:=fun P =>
    ⟨fun h=>⟨h k (bN _) oa,fun j h1 h2=>h j oa oa⟩,fun h j h1 h2=>by
     by_cases e:j=k
     ·subst e;exact h.1
     ·exact h.2 j oa oa⟩
   have hi:=ih (k+1) (row.set (vs[k]).toNat (t[k]'oa)) oa (fun v hv=>by rw [gd];exact hb v hv)
   cases he:nQ vs t m (k+1) (row.set (vs[k]).toNat (t[k]'oa)) with
   | none =>
    rw [he] at hi
    intro b hbc hj
    rw [hall] at hj
    rw [ev,et] at hj
    exact hi b ((hcom b).2 ⟨hbc,hj.1⟩) hj.2
   | some row' =>
    rw [he] at hi
    obtain ⟨i1,i2,i3⟩:=hi
    refine ⟨by rw [i1,gd],fun b=>?_,fun v hv=>?_⟩
    ·rw [i2,hcom,hall,ev,et];exact and_assoc
    ·rw [i3 v hv,hset v hv,hall,ev]
     by_cases e:v=vs[k]
     ·subst e
      rw [aK rfl]
      exact ⟨fun h=>by have:=h.1;omega,fun h=>absurd rfl h.2.1⟩
     ·rw [aS e]
      exact ⟨fun h=>⟨h.1,fun e2=>e e2.symm,h.2⟩,fun h=>⟨h.1,h.2.2⟩⟩
  ·rw [aS hc]
   intro b hbc hj
   have h1:=hj k (bN _) oa
   rw [ev,et] at h1
   have h2:=hbc.2 vs[k] hv0 hv1 (fun e=>hc (.inl e))
   exact hc (.inr (by rw [<- h2];exact h1))
theorem Gk {vs t b:yP} (hl:t.length=vs.length):vs.map (at0 b)=t↔∀ j,0<=j->j<0+vs.length->at0 b (vs.getD j 0)=t.getD j 0:=by
 constructor
 ·rintro rfl j _ h
  rw [bu (xs:=vs) oa,BJ oa]
 ·intro h
  refine kS (by rw [bT,hl]) fun j h1 h2=>?_
  have hj:j<vs.length:=by omega
  have:=h j (cV _) oa
  rw [bu hj,bu h2] at this
  rw [iS];exact this
theorem HK {ts:List bE}:∀ {l:List aV} {row b:yP},(∀ a∈l,(∀ v∈a.2,0<=v/\v<(row.length:Int))/\∀ x∈iD ts a,x.length=a.2.length/\∀ y∈x,0<=y) ->
  (b∈l8V ts l row↔(rH row b/\∀ v:Int,0<=v->v<row.length->at0 row v=-1->(∀ a∈l,v∉a.2)->at0 b v=-1)/\uc ts l (at0 b))
 | [],row,b,_=>by
  unfold l8V
  rw [d7]
  constructor
  ·rintro rfl
   exact ⟨⟨⟨rfl,fun _ _ _ _=>rfl⟩,fun v _ _ h _=>h⟩,fun a ha=>absurd ha (by simp)⟩
  ·rintro ⟨⟨⟨h1,h2⟩,h3⟩,_⟩
   refine kS h1 fun i i1 i2=>?_
   have e:∀ (r:yP) (h:i<r.length),at0 r (i:Int)=r[i]:=fun r h=>by unfold at0;rw [eJ,bu h]
   by_cases hm:at0 row (i:Int)=-1
   ·have:=h3 (i:Int) oa oa hm (by simp)
    rw [e _ i1] at this
    rw [e _ i2] at hm
    rw [this,hm]
   ·have:=h2 (i:Int) oa oa hm
    rwa [e _ i1,e _ i2] at this
 | a :: l,row,b,hok=>by
  obtain ⟨ha,hr⟩:=hok a cx
  unfold l8V
  rw [pp]
  have key:∀ t∈iD ts a,(b∈(match nQ a.2 t a.2.length 0 row with | some row'=>l8V ts l row' | none=>[])↔a.2.map (at0 b)=t/\((rH row b/\∀ v:Int,0<=v->v<row.length->at0 row v=-1->(∀ a'∈a :: l,v∉a'.2)->at0 b v=-1)/\uc ts l (at0 b))):=fun t ht=>by
   obtain ⟨hl,h0⟩:=hr t ht
   have hs:=CA hl h0 a.2.length 0 row oa ha
   cases he:nQ a.2 t a.2.length 0 row with
   | none =>
    rw [he] at hs
    constructor
    ·intro h;cases h
    ·rintro ⟨h1,⟨h2,_⟩,_⟩
     exact absurd ((Gk hl).1 h1) (hs b h2)
   | some row' =>
    rw [he] at hs
    obtain ⟨s1,s2,s3⟩:=hs
    show b∈l8V ts l row'↔_
    rw [HK (fun a' h'=>by rw [s1];exact hok a' (cD _ h')),s2,<- Gk hl,s1]
    have hv:∀ v:Int,0<=v->((∀ j,0<=j->j<0+a.2.length->a.2.getD j 0≠v)↔v∉a.2):=fun v _=>by
     constructor
     ·intro h hm
      obtain ⟨j,hj,e⟩:=gg hm
      exact h j (cV _) oa (by rw [bu hj];exact e)
     ·intro h j _ hj e
      rw [bu oa] at e
      exact h (by rw [<- e];exact bA _)
    constructor
    ·rintro ⟨⟨⟨h1,h2⟩,h3⟩,h4⟩
     refine ⟨h2,⟨h1,fun v v0 v1 e hno=>h3 v v0 v1 ((s3 v v0).2 ⟨e,(hv v v0).2 (hno a cx)⟩) fun a' h'=>hno a' (cD _ h')⟩,h4⟩
    ·rintro ⟨h2,⟨h1,h3⟩,h4⟩
     refine ⟨⟨⟨h1,h2⟩,fun v v0 v1 e hno=>?_⟩,h4⟩
     obtain ⟨e1,e2⟩:=(s3 v v0).1 e
     exact h3 v v0 v1 e1 fun a' h'=>by
      rcases bX.1 h' with rfl | h'
      ·exact (hv v v0).1 e2
      ·exact hno a' h'
  constructor
  ·rintro ⟨t,ht,hb⟩
   obtain ⟨h1,h2,h3⟩:=(key t ht).1 hb
   refine ⟨h2,fun a' h'=>?_⟩
   rcases bX.1 h' with rfl | h'
   ·rw [h1];exact ht
   ·exact h3 a' h'
  ·rintro ⟨h2,h3⟩
   exact ⟨_,h3 a cx,(key _ (h3 a cx)).2 ⟨rfl,h2,fun a' h'=>h3 a' (cD _ h')⟩⟩
theorem Du {ts:List bE}:∀ {l:List aV} {row:yP},(∀ a∈l,(iD ts a).length<=16)->(l8V ts l row).length<=16 ^ l.length
 | [],_,_=>bN _
 | a :: l,row,h=>by
  unfold l8V
  have h2:=nJ (g:=fun t=>match nQ a.2 t a.2.length 0 row with | some row'=>l8V ts l row' | none=>[]) (k:=16 ^ l.length) (fun t=>by
   cases nQ a.2 t a.2.length 0 row with
   | none=>exact cV _
   | some row'=>exact Du fun a' h'=>h a' (cD _ h')) (iD ts a)
  refine Nat.le_trans h2 ?_
  rw [b9,oC,nA (16 ^ l.length)]
  exact me _ (h a cx)
section
variable {ts:List bE} {n:Nat} {yK:List aV} {yL:yP}
theorem DA {x:yP} (h:bW x=true):∀ y∈x,0<=y:=fun y hy=>by
 unfold bW at h
 rw [df] at h
 exact (ck.1 (h y hy)).1
theorem wo (q:QFor ts n yK yL):∀ a∈yK,(iD ts a).length<=16:=fun a ha=>ze (q.af a ha).1
theorem xj (q:QFor ts n yK yL) {b:yP}:b∈l8V ts yK (List.replicate n (-1))↔b.length=n/\uc ts yK (at0 b):=by
 rw [HK (fun a ha=>⟨by rw [mb];exact (q.al a ha).2.2,fun x hx=>⟨(rb q ha hx).1,DA (rb q ha hx).2⟩⟩)]
 have hrep:∀ v:Int,0<=v->v<(n:Int)->at0 (List.replicate n (-1)) v=-1:=fun v h0 h1=>by
  unfold at0
  rw [bu (by rw [mb];omega),List.getElem_replicate]
 constructor
 ·rintro ⟨⟨h1,_⟩,h3⟩
  exact ⟨by have:=h1.1;rwa [mb] at this,h3⟩
 ·rintro ⟨h1,h2⟩
  refine ⟨⟨⟨by rw [mb];exact h1,fun v v0 v1 e=>?_⟩,fun v v0 v1 _ hno=>?_⟩,h2⟩
  ·rw [mb] at v1
   exact absurd (hrep v v0 v1) e
  ·rw [mb] at v1
   obtain ⟨a,ha,hv⟩:=q.cov v v0 v1
   exact absurd hv (hno a ha)
theorem Hz (q:QFor ts n yK yL) {f:Int->Int} (h:uc ts yK f) {v:Int} (v0:0<=v) (v1:v<n):0<=f v/\f v<=99:=by
 obtain ⟨a,ha,hv⟩:=q.cov v v0 v1
 have:=(rb q ha (h a ha)).2
 unfold bW at this
 rw [df] at this
 exact ck.1 (this _ (dh.2 ⟨v,hv,rfl⟩))
theorem uc.congr (q:QFor ts n yK yL) {f g:Int->Int} (h:uc ts yK f) (e:∀ v:Int,0<=v->v<n->f v=g v):uc ts yK g:=fun a ha=>by
 have hv:=(q.al a ha).2.2
 have:a.2.map g=a.2.map f:=n6 fun v hm=>(e v (hv v hm).1 (hv v hm).2).symm
 rw [this];exact h a ha
def ox (n:Nat) (yL r:yP):yP:=(hO n).map (nU yL r)
def kL (yL b:yP):yP:=yL.map (at0 b)
theorem F9 {n i:Nat} (h:i<(hO n).length):(hO n)[i]=(i:Int):=by simp [hO]
theorem E4 {b:yP} {i:Nat} (h:i<(kL yL b).length):(kL yL b)[i]=at0 b (yL[i]'(by simpa [kL] using h)):=by simp [kL]
theorem H0 {r:yP} {i:Nat} (h:i<(ox n yL r).length):(ox n yL r)[i]=nU yL r (i:Int):=by simp [ox,F9]
theorem Cu {r:yP} {v:Int} (v0:0<=v) (v1:v<(n:Int)):at0 (ox n yL r) v=nU yL r v:=by
 unfold at0 ox
 rw [BJ (by rw [ms];omega),F9]
 congr 1;omega
theorem wH (q:QFor ts n yK yL) {b:yP} {v:Int} (v0:0<=v) (v1:v<(n:Int)):nU yL (kL yL b) v=at0 b v:=by
 obtain ⟨j,e1,hj,e2⟩:=rG (wR q v0 v1)
 unfold nU kL
 rw [e1,eJ,BJ hj,e2]
theorem wF (q:QFor ts n yK yL) {r:yP} (hr:r.length=n):kL yL (ox n yL r)=r:=by
 have hol:=q.ol
 refine kS (by unfold kL;rw [bT,hol,hr]) fun i h1 h2=>?_
 have hi:i<yL.length:=by omega
 have hb:=(iW q.os).2 _ (bA hi)
 rw [E4,Cu hb.1 oa]
 unfold nU
 rw [zj (wj q) hi,eJ,bu h2]
theorem wG (q:QFor ts n yK yL) {b:yP} (hb:b.length=n):ox n yL (kL yL b)=b:=by
 refine kS (by unfold ox;rw [bT,ms,hb]) fun i h1 h2=>?_
 rw [H0,wH q oa oa]
 unfold at0
 rw [eJ,bu h2]
theorem tt {α β:Type} {f:α->β}:∀ {l:List α},l.Nodup->(∀ x∈l,∀ y∈l,f x=f y->x=y)->(l.map f).Nodup
 | [],_,_=>List.nodup_nil
 | x :: l,h,hf=>by
  obtain ⟨h1,h2⟩:=jm.1 h
  rw [gH,jm]
  refine ⟨fun hm=>?_,tt h2 fun y hy z hz=>hf y (cD _ hy) z (cD _ hz)⟩
  obtain ⟨y,hy,e⟩:=dh.1 hm
  have:=hf y (cD _ hy) x cx e
  exact h1 (by rw [<- this];exact hy)
theorem LU (q:QFor ts n yK yL) {r:yP} (hr:r∈(fc (im ts yL yK) n []).1):ox n yL r∈l8V ts yK (List.replicate n (-1)):=by
 obtain ⟨h1,h2⟩:=(ue q).1 hr
 exact (xj q).2 ⟨by unfold ox;rw [bT,ms],h2.congr q fun v v0 v1=>(Cu v0 v1).symm⟩
theorem KW (q:QFor ts n yK yL) {b:yP} (hb:b∈l8V ts yK (List.replicate n (-1))):kL yL b∈(fc (im ts yL yK) n []).1:=by
 obtain ⟨h1,h2⟩:=(xj q).1 hb
 exact (ue q).2 ⟨by unfold kL;rw [bT,q.ol],h2.congr q fun v v0 v1=>(wH q v0 v1).symm⟩
theorem ES (q:QFor ts n yK yL) {S:bp} (hS:S.Nodup) (hm:∀ b,b∈S↔b∈l8V ts yK (List.replicate n (-1))):S.length=(fc (im ts yL yK) n []).1.length:=by
 have hW:=A4 (In (An q) q.n5).2.2
 refine Nat.le_antisymm ?_ ?_
 ·have h1:=tt (f:=kL yL) hS fun x hx y hy e=>by
   have e1:=wG q ((xj q).1 ((hm x).1 hx)).1
   have e2:=wG q ((xj q).1 ((hm y).1 hy)).1
   rw [<- e1,<- e2,e]
  have:=oR _ _ h1 fun x hx=>by
   obtain ⟨b,hb,rfl⟩:=dh.1 hx
   exact KW q ((hm b).1 hb)
  rwa [bT] at this
 ·have h1:=tt (f:=ox n yL) hW fun x hx y hy e=>by
   have e1:=wF q ((ue q).1 hx).1
   have e2:=wF q ((ue q).1 hy).1
   rw [<- e1,<- e2,e]
  have:=oR _ _ h1 fun x hx=>by
   obtain ⟨b,hb,rfl⟩:=dh.1 hx
   exact (hm _).2 (LU q hb)
  rwa [bT] at this
end
theorem E0 {n:Int} {rows:bp} (h0:0<=n/\n<=5) (hl:rows.length<=1048576) (hf:∀ r∈rows,(r.length:Int)=n/\bW r=true):pS n rows=bif decide ((c6 20 rows).length<=4000) then ((n,c6 20 rows),true) else vJ:=by
 have hfit:rh n rows=true:=by
  unfold rh
  rw [df]
  intro r hr
  rw [ce,dm]
  exact hf r hr
 unfold pS
 rw [hfit,eG]
 by_cases h:(c6 20 rows).length<=4000
 ·rw [aJ h,xE h0 h (fun r hr=>hf r ((oK _ _ _).1 hr)) (pO 20 rows oa)]
 ·rw [aN h]
  cases hv:cI n (c6 20 rows) with
  | false=>rfl
  | true=>exact absurd (iy hv).2.2.1 h
def rA (ts:List bE) (n:Int) (yK:List aV):bp:=l8V ts yK (List.replicate n.toNat (-1))
def Gy (ts:List bE) (n:Int) (yK:List aV) (out:yP):Int × bp :=
 bif jl ts n yK out then (bif decide ((c6 20 (rA ts n yK)).length<=4000) then (n,c6 20 (rA ts n yK)) else (0,[])) else (0,[])
theorem OC {ts:List bE} {n:Int} {yK:List aV} {out:yP} (h:jl ts n yK out=true):∃ m:Nat,n=(m:Int)/\QFor ts m yK (hO m):=by
 have hq:=h
 unfold jl at hq
 rw [ce] at hq
 obtain ⟨n1,n5,_,_⟩:=lk hq.1
 obtain ⟨m,e,q⟩:=FS h (yL:=hO n.toNat) (by rw [ms];omega) (by have:=D1 n.toNat;rwa [show ((n.toNat:Nat):Int)=n by omega] at this)
 subst e
 exact ⟨m,rfl,q⟩
theorem CH {ts:List bE} {n:Nat} {yK:List aV} {yL:yP} (q:QFor ts n yK yL) {b:yP} (hb:b∈rA ts n yK):(b.length:Int)=n/\bW b=true:=by
 obtain ⟨h1,h2⟩:=(xj q).1 hb
 refine ⟨oa,?_⟩
 unfold bW
 rw [df]
 intro y hy
 obtain ⟨i,hi,rfl⟩:=gg hy
 have:=Hz q h2 (v:=(i:Int)) oa oa
 unfold at0 at this
 rw [eJ,bu hi] at this
 exact ck.2 this
theorem Cs {ts:List bE} {n:Nat} {yK:List aV} {yL:yP} (q:QFor ts n yK yL):(rA ts n yK).length<=65536:=by
 have h:=Du (ts:=ts) (l:=yK) (row:=List.replicate n (-1)) (wo q)
 have h4:=q.a4
 have:16 ^ yK.length<=16 ^ 4:=ka (by decide) h4
 exact Nat.le_trans h this
section
variable {N:Nat}
theorem It {ts:List bE} {n idx arity:Int} {yK:List aV} {out row0:yP} {acc rel:bp} {i a:Nat} {rec:(List (ByteArray × (Int × List (yP))))->Int->(List (ByteArray × yP))->(yP)->Int->(yP)->Option (List (yP))} (hi:i<rel.length) (ha:a<yK.length) (hid:idx=(a:Int)) (har:arity=(yK[a].2.length:Int)) (hl:rel[i].length=yK[a].2.length) (h5:yK[a].2.length<=1000) :
  ∀ (m k f:Nat) (row:yP),k+m=yK[a].2.length->m+1<f->(∀ v∈yK[a].2,0<=v/\v<(row.length:Int)) ->
  (∀ row',nQ yK[a].2 rel[i] m k row=some row'->iG rec N f idx row0 ts n yK out acc arity rel (i:Int) row true (k:Int)=some (row',true,arity)) /\
  (nQ yK[a].2 rel[i] m k row=none->∃ r j,iG rec N f idx row0 ts n yK out acc arity rel (i:Int) row true (k:Int)=some (r,false,j)):=by
 intro m
 induction m with
 | zero =>
  intro k f row hk hf _
  obtain ⟨f,rfl⟩:∃ g,f=g+1:=⟨f-1,oa⟩
  refine ⟨fun row' h=>?_,fun h=>by unfold nQ at h;cases h⟩
  unfold nQ at h
  obtain rfl:=bL h
  rw [iG,aN oa,ai,show (k:Int)=arity by omega]
 | succ m ih =>
  intro k f row hk hf hb
  obtain ⟨f,rfl⟩:∃ g,f=g+1:=⟨f-1,oa⟩
  have hkv:k<yK[a].2.length:=by omega
  have hkt:k<rel[i].length:=by omega
  obtain ⟨hv0,hv1⟩:=hb _ (bA hkv)
  have hb':∀ x,∀ v∈yK[a].2,0<=v/\v<((row.set (yK[a].2[k]).toNat x).length:Int):=fun x v hv=>by rw [gd];exact hb v hv
  have eo:row[(yK[a].2[k]).toNat]'oa=at0 row yK[a].2[k]:=by unfold at0;rw [bu]
  rw [iG,aJ (show (k:Int)<arity by omega),ae,ae,hid,bh ha,bs,bh hkv,bs,oq hv0 hv1,bs,eo]
  have ih':=ih (k+1) f (row.set (yK[a].2[k]).toNat rel[i][k]) oa oa (hb' _)
  rw [hid] at ih'
  unfold nQ
  rw [bu hkv,bu hkt]
  by_cases h1:at0 row yK[a].2[k]=-1
  ·rw [show (at0 row yK[a].2[k] == -1)=true by rw [h1];rfl,ae,bh hi,bs,bh hkt,bs,bs,sX hv0 hv1,bs,ad1 oa,bs,aK (.inl h1)]
   exact ih'
  ·rw [show (at0 row yK[a].2[k] == -1)=false by simpa using h1,ai,bs,bh hi,bs,bh hkt,bs,bs,bh hkt,bs,bs,sX hv0 hv1,bs,ad1 oa,bs]
   by_cases h2:at0 row yK[a].2[k]=rel[i][k]
   ·rw [show (at0 row yK[a].2[k] == rel[i][k])=true by simpa using h2,aK (.inr h2)]
    exact ih'
   ·rw [show (at0 row yK[a].2[k] == rel[i][k])=false by simpa using h2,aS (fun h=>by rcases h with h | h;exact h1 h;exact h2 h)]
    refine ⟨fun row' h=>(by cases h),fun _=>?_⟩
    obtain ⟨f,rfl⟩:∃ g,f=g+1:=⟨f-1,oa⟩
    rw [iG]
    by_cases hlt:((k+1:Nat):Int)<arity
    ·rw [aJ hlt,ae,ai];exact ⟨_,_,rfl⟩
    ·rw [aN hlt,ai];exact ⟨_,_,rfl⟩
def vR (ts:List bE) (l:List aV) (vs row t:yP):bp:=match nQ vs t vs.length 0 row with | some row'=>l8V ts l row' | none=>[]
theorem JC {ts:List bE} {yK:List aV} {a:Nat} (h:a<yK.length) {row:yP}:l8V ts (yK.drop a) row=(iD ts yK[a]).flatMap (vR ts (yK.drop (a+1)) yK[a].2 row):=by
 rw [tQ h,l8V];rfl
theorem H5 {M:Nat} (hM:1073741825<=M) {ts:List bE} {n:Nat} {yK:List aV} {yL out:yP} (q:QFor ts n yK yL) {a:Nat} (hal:a<yK.length) {row:yP} (hr:row.length=n)
  {rec:(List (ByteArray × (Int × List (yP))))->Int->(List (ByteArray × yP))->(yP)->Int->(yP)->Option (List (yP))} (hrec:∀ row':yP,row'.length=n->rec ts (n:Int) yK out ((a+1:Nat):Int) row'=some (l8V ts (yK.drop (a+1)) row')) {arity:Int} (har:arity=(yK[a].2.length:Int)) :
  ∀ (d i k:Nat),i+d=(iD ts yK[a]).length->d<k->jS rec M k (a:Int) row ts (n:Int) yK out (((iD ts yK[a]).take i).flatMap (vR ts (yK.drop (a+1)) yK[a].2 row)) arity (iD ts yK[a]) (i:Int)=some (l8V ts (yK.drop a) row,((iD ts yK[a]).length:Int)):=by
 have hm:=bA hal
 have h5:=q.n5
 have h4:=q.a4
 obtain ⟨hl5,hl1,hv⟩:=q.al _ hm
 have h16:(iD ts yK[a]).length<=16:=wo q _ hm
 have hrest:∀ row',(l8V ts (yK.drop (a+1)) row').length<=65536:=fun row'=>by
  have h:=Du (ts:=ts) (l:=yK.drop (a+1)) (row:=row') fun a' h'=>wo q a' (AB h')
  have:16 ^ (yK.drop (a+1)).length<=16 ^ 4:=ka (by decide) (by rw [iH];omega)
  exact Nat.le_trans h this
 have hput:∀ t,(vR ts (yK.drop (a+1)) yK[a].2 row t).length<=65536:=fun t=>by
  unfold vR
  cases nQ yK[a].2 t yK[a].2.length 0 row with
  | none=>exact cV _
  | some row'=>exact hrest row'
 have e1:ad (a:Int) 1=some ((a+1:Nat):Int):=ad1 oa
 intro d
 induction d with
 | zero =>
  intro i k hi hk
  obtain ⟨k,rfl⟩:∃ g,k=g+1:=⟨k-1,oa⟩
  rw [jS,dge oa,ai,show i=(iD ts yK[a]).length by omega,gP,JC hal]
 | succ d ih =>
  intro i k hi hk
  obtain ⟨k,rfl⟩:∃ g,k=g+1:=⟨k-1,oa⟩
  have hil:i<(iD ts yK[a]).length:=by omega
  have hacc:=nJ hput ((iD ts yK[a]).take i)
  rw [c5] at hacc
  have hrow:=(rb q hm (bA hil)).1
  have ih':=ih (i+1) k oa oa
  rw [gR hil,List.flatMap_append,th,List.flatMap_nil,jI] at ih'
  obtain ⟨w1,w2⟩:=It (N:=M) (ts:=ts) (n:=(n:Int)) (out:=out) (row0:=row) (acc:=((iD ts yK[a]).take i).flatMap (vR ts (yK.drop (a+1)) yK[a].2 row)) (rec:=rec) hil hal rfl har hrow oa yK[a].2.length 0 M row oa oa (fun v h=>by rw [hr];exact hv v h)
  rw [jS,dlt hil,ae,bB (by decide) (by simp;omega),bs,mc]
  cases he:nQ yK[a].2 (iD ts yK[a])[i] yK[a].2.length 0 row with
  | some row' =>
   have w1':=w1 row' he
   rw [show ((0:Nat):Int)=0 from rfl] at w1'
   have hs:=CA hrow (DA (rb q hm (bA hil)).2) yK[a].2.length 0 row oa (fun v h=>by rw [hr];exact hv v h)
   rw [he] at hs
   have hlen:row'.length=n:=by rw [hs.1,hr]
   have ep:vR ts (yK.drop (a+1)) yK[a].2 row (iD ts yK[a])[i]=l8V ts (yK.drop (a+1)) row':=by unfold vR;rw [he]
   rw [ep] at ih'
   rw [w1',bs,lpB]
   show (bif true then _ else _)=_
   rw [ae,e1,bs,hrec row' hlen,bs,bB (by decide) (by have:=hrest row';have:min i (iD ts yK[a]).length*65536<=16*65536:=me _ oa;omega),bs,ad1 oa,bs,ih']
  | none =>
   obtain ⟨r,j,w2'⟩:=w2 he
   rw [show ((0:Nat):Int)=0 from rfl] at w2'
   have ep:vR ts (yK.drop (a+1)) yK[a].2 row (iD ts yK[a])[i]=[]:=by unfold vR;rw [he]
   rw [ep,jI] at ih'
   rw [w2',bs,lpB]
   show (bif false then _ else _)=_
   rw [ai,ad1 oa,bs,ih']
theorem H9 (hN:1073741824<=N) {ts:List bE} {n:Nat} {yK:List aV} {yL out:yP} (q:QFor ts n yK yL) (ht:q9 ts):∀ (d a M:Nat),a+d=yK.length->1073741826+d<=M->∀ row:yP,row.length=n->iQ M ts (n:Int) yK out (a:Int) row=some (l8V ts (yK.drop a) row):=by
 intro d
 induction d with
 | zero =>
  intro a M ha hM row hr
  obtain ⟨M,rfl⟩:∃ M',M=M'+1:=⟨M-1,oa⟩
  have h5:=q.n5
  rw [iQ,show ((a:Int) == (yK.length:Int))=true by simp;omega,ae,bB (by decide) (by simp;omega),bs,mN oa]
  rfl
 | succ d ih =>
  intro a M ha hM row hr
  obtain ⟨M,rfl⟩:∃ M',M=M'+1:=⟨M-1,oa⟩
  have hal:a<yK.length:=by omega
  obtain ⟨hf1,hf2⟩:=q.af _ (bA hal)
  have hL:=H5 (M:=M) oa (out:=out) q hal hr (rec:=iQ M) (fun row' h=>ih (a+1) M oa oa row' h) hf2 (iD ts yK[a]).length 0 M oa (by have:=wo q _ (bA hal);omega)
  rw [List.take_zero,List.flatMap_nil,show ((0:Nat):Int)=0 from rfl] at hL
  unfold iD at hL
  rw [iQ,show ((a:Int) == (yK.length:Int))=false by simp;omega,ai,bh hal,bs,ph (N:=M) oa ht,bs,hL,bs,lpB]
theorem GM (m:Nat) {ts:List bE} {yK:List aV} {out:yP} (hN:1073741824<=N) (hm:m<=1000):hQ N N ts (m:Int) yK out 0 [] []=some (List.replicate m (-1)):=by
 have key:∀ (d k j:Nat),j+d=m->d<k->hQ N k ts (m:Int) yK out 0 [] (List.replicate j (-1))=some (List.replicate m (-1)):=by
  intro d
  induction d with
  | zero =>
   intro k j hj hk
   obtain ⟨k,rfl⟩:∃ g,k=g+1:=⟨k-1,oa⟩
   rw [hQ,mb,dge oa,ai,show j=m by omega]
  | succ d ih =>
   intro k j hj hk
   obtain ⟨k,rfl⟩:∃ g,k=g+1:=⟨k-1,oa⟩
   rw [hQ,mb,dlt oa,ae,bB (by decide) (by simp;omega),bs,<- wV]
   exact ih k (j+1) oa oa
 exact key m N 0 oa oa
theorem BQ (hM:1073742848<=N) {ts:List bE} {n:Int} {yK:List aV} {out:yP} (ht:q9 ts) (ha:fB yK) (ho:okI out):lG N ts n yK out=some (Gy ts n yK out):=by
 have hN:1073741824<=N:=by omega
 unfold lG Gy
 rw [oJ hN ht ha ho,bs]
 cases h:jl ts n yK out with
 | false=>rfl
 | true =>
  obtain ⟨m,rfl,q⟩:=OC h
  have h5:=q.n5
  have hL:=GM (N:=N) m (ts:=ts) (yK:=yK) (out:=out) hN oa
  rw [ae,ae,hL,bs]
  unfold lpB
  dsimp only
  have hw:=H9 hN (out:=out) q ht yK.length 0 N oa (by have:=q.a4;omega) (List.replicate m (-1)) (by simp)
  have hw':iQ N ts (m:Int) yK out 0 (List.replicate m (-1))=some (rA ts m yK):=hw
  have hbl:=Cs q
  have hrow:=fun b hb=>CH q (b:=b) hb
  rw [hw',bs,qS hM ⟨oa,fun r hr=>⟨by have:=(hrow r hr).1;omega,fun _ _=>trivial⟩⟩,bs,E0 oa oa hrow]
  cases decide ((c6 20 (rA ts (m:Int) yK)).length<=4000) <;> rfl
end
section
variable {ts:List bE} {n:Int} {yK:List aV} {out yL:yP}
theorem H1 {m:Nat} (q:QFor ts m yK yL) (hq:jl ts (m:Int) yK out=true) (hl:(fc (im ts yL yK) m []).1.length<=4000) :
  Gy ts (m:Int) yK out=((m:Int),c6 20 (rA ts (m:Int) yK))/\(c6 20 (rA ts (m:Int) yK)).length=(fc (im ts yL yK) m []).1.length/\cI (m:Int) (c6 20 (rA ts (m:Int) yK))=true:=by
 have hbl:=Cs q
 have ha:=pO 20 (rA ts (m:Int) yK) oa
 have hlen:=ES q (A4 ha) fun b=>oK 20 _ b
 have h5:=q.n5
 refine ⟨?_,hlen,xE oa oa (fun r hr=>CH q ((oK _ _ _).1 hr)) ha⟩
 unfold Gy
 rw [hq,ae,aJ oa,ae]
end
end Go.Proofs.YtijmbnbnojicjaaGreatDoor
