/- Plain laws: drawing databases and orders out of a code. -/
import Derived.Test.YteemghjjopdljaaGreatV1
namespace Go.Proofs.YteemghjjopdljaaGreat
open Go.RowKit
def TSm (t:bE):Prop:=t.1.size<=5/\t.2.2.length<=10/\∀ r∈t.2.2,r.length<=6
def DSm (ts:List bE):Prop:=ts.length<=6/\∀ t∈ts,TSm t
def TSv (t:bE):Prop:=t.2.2.length<=7\/∀ r∈t.2.2,∀ v∈r,0<=v/\v<6
def TSb (t:bE):Prop:=TSm t/\TSv t
def DSv (ts:List bE):Prop:=∀ t∈ts,TSv t
theorem DSm.ok {ts:List bE} (h:DSm ts):oZ ts:=⟨by have:=h.1;omega,fun t ht=>by
 obtain ⟨h1,h2,h3⟩:=h.2 t ht
 exact ⟨oa,oa,fun r hr=>⟨by have:=h3 r hr;omega,fun _ _=>trivial⟩⟩⟩
theorem HJ:∀ (n:Nat) (l:yQ),l.length<n->∃ v:Nat,v<n/\(v:Int)∉l:=by
 intro n
 induction n with
 | zero=>intro l h;omega
 | succ n ih =>
  intro l h
  by_cases hm:(n:Int)∈l
  ·have hl:=wZ hm
   have hp:=Ar hm
   obtain ⟨v,h1,h2⟩:=ih (l.erase (n:Int)) oa
   exact ⟨v,oa,fun hv=>h2 ((AJ oa).2 hv)⟩
  ·exact ⟨n,oa,hm⟩
section
variable {N:Nat}
abbrev pR:List ByteArray:=[(⟨#[114]⟩:ByteArray),(⟨#[115]⟩:ByteArray),(⟨#[116]⟩:ByteArray),(⟨#[117]⟩:ByteArray),(⟨#[118]⟩:ByteArray)]
theorem GV {n m y:Int} {rows:bh} {s:ByteArray} (hm:m<=6) (hs:s.size<=5) (hn:n<=5) (hy:y<=10) (hl:(rows.length:Int)<=y) (hr:∀ r∈rows,(r.length:Int)=n/\∀ v∈r,0<=v/\v<m):TSb (s,(n,rows)) :=
 ⟨⟨hs,by show rows.length<=10;omega,fun r h=>by have:=(hr r h).1;omega⟩,Or.inr fun r h v hv=>by have:=(hr r h).2 v hv;omega⟩
theorem Kg (hM:1073742848<=N) {a:yQ} (ha:hZ a) {z:List bE} {m:Int} (hm:0<m/\m<=6):∀ (d k:Nat) (acc:List bE) (p h:Int) (i:Nat),dp a p->i+d=5->d<k->acc.length=i->(∀ t∈acc,TSb t) ->
  ∃ q g ts v,jS N k a p h z m acc pR (pR.length:Int) (i:Int)=some (q,g,ts,v)/\dp a q/\ts.length=5/\∀ t∈ts,TSb t:=by
 intro d
 induction d with
 | zero =>
  intro k acc p h i hc hd hk hl ht
  obtain ⟨k,rfl⟩:∃ g,k=g+1:=⟨k-1,oa⟩
  rw [jS,ba (show ¬ (i:Int)<(pR.length:Int) by show ¬ (i:Int)<5;omega),am]
  exact ⟨_,_,_,_,rfl,hc,oa,ht⟩
 | succ d ih =>
  intro k acc p h i hc hd hk hl ht
  obtain ⟨k,rfl⟩:∃ g,k=g+1:=⟨k-1,oa⟩
  have hi:i<pR.length:=by show i<5;omega
  have hs:∀ s∈pR,s.size<=5:=by decide
  have hs':=hs _ (bF hi)
  rw [jS,aW (show (i:Int)<(pR.length:Int) by omega),ag,be hi,bs]
  obtain ⟨y,q,g,e,hy,hc1⟩:=kZ (N:=N) ha (h:=h) (l:=[3,6,9]) hc (by decide)
  have hyb:0<=y/\y<=10:=by
   simp only [cZ,oK,ra] at hy
   omega
  cases eqS pR[i] (⟨#[118]⟩:ByteArray) with
  | true =>
   obtain ⟨rows,q2,g2,e2,hc2,r1,r2⟩:=vV hM ha (h:=g) (n:=3) (m:=m) (y:=y) hc1 ⟨hm.1,oa⟩ (by decide) oa
   rw [ag,e,bs]
   dsimp only
   rw [e2,bs]
   dsimp only
   rw [bA (by decide) (by simp;omega),bs,ad1 oa,bs]
   refine ih k _ q2 g2 (i+1) hc2 oa oa (by simp;omega) fun t h=>?_
   rcases dj.1 h with h | h
   ·exact ht t h
   ·rw [fD] at h;rw [h];exact GV hm.2 hs' (by decide) hyb.2 r1 r2
  | false =>
   obtain ⟨rows,q2,g2,e2,hc2,r1,r2⟩:=vV hM ha (h:=g) (n:=2) (m:=m) (y:=y) hc1 ⟨hm.1,oa⟩ (by decide) oa
   rw [am,e,bs]
   dsimp only
   rw [e2,bs]
   dsimp only
   rw [bA (by decide) (by simp;omega),bs,ad1 oa,bs]
   refine ih k _ q2 g2 (i+1) hc2 oa oa (by simp;omega) fun t h=>?_
   rcases dj.1 h with h | h
   ·exact ht t h
   ·rw [fD] at h;rw [h];exact GV hm.2 hs' (by decide) hyb.2 r1 r2
theorem A7 {ts:List bE} {i:Nat} {t:bE} (h:∀ t∈ts,TSb t) (ht:TSb t):∀ u∈ts.set i t,TSb u:=fun u hu=>by
 rcases s6 hu with h' | h'
 ·exact h u h'
 ·rw [h'];exact ht
theorem ub {α:Type} {xs:List α} {i:Int} {y:α} (h0:0<=i) (h:i<xs.length):sto xs i y=some (xs.set i.toNat y):=by
 obtain ⟨k,rfl⟩:=nV h0
 exact lS oa
theorem Bv (hM:1073742848<=N) {a:yQ} (ha:hZ a) {p h:Int} (hc:dp a p):∃ ts q g,pn N a p h=some (ts,q,g)/\dp a q/\ts.length=5/\∀ t∈ts,TSb t:=by
 unfold pn
 obtain ⟨m,q,g,e,hm,hc1⟩:=kZ (N:=N) ha (h:=h) (l:=[2,3,4,6]) hc (by decide)
 have hmb:0<m/\m<=6:=by
  simp only [cZ,oK,ra] at hm
  omega
 rw [e,bs]
 dsimp only
 obtain ⟨q2,g2,ts,v,e2,hc2,hl,ht⟩:=Kg hM ha (z:=[]) hmb 5 N [] q g 0 hc1 rfl oa rfl (by simp)
 have e2':jS N N a q g [] m [] pR (pR.length:Int) 0=some (q2,g2,ts,v):=e2
 rw [e2',bs]
 unfold lpB
 dsimp only
 obtain ⟨b,q3,g3,e3,hc3⟩:=qL (N:=N) ha (h:=g2) (n:=8) hc2
 rw [e3,bs]
 dsimp only
 cases b with
 | false=>rw [am];exact ⟨_,_,_,rfl,hc3,hl,ht⟩
 | true =>
  obtain ⟨x,q4,g4,e4,b0,b1,_,hc4⟩:=dq (N:=N) ha (h:=g3) (n:=5) hc3
  have b1:=b1 (by decide)
  have hx:x<(ts.length:Int):=by omega
  have hm:=ht _ (bF (show x.toNat<ts.length by omega))
  rw [ag,e4,bs]
  dsimp only
  rw [nG b0 hx,bs,ub b0 hx,bs]
  exact ⟨_,_,_,rfl,hc4,by rw [gP];exact hl,A7 ht ⟨⟨hm.1.1,cE _,fun r hr=>by cases hr⟩,Or.inl (cE _)⟩⟩
theorem Ch.t {r:Int × bh} {s:ByteArray} (hs:s.size<=5) (k:Ch r):TSb (s,r):=⟨⟨hs,by show r.2.length<=10;have:=k.2.1;omega,fun w hw=>(k.2.2 w hw).1⟩,Or.inl k.2.1⟩
theorem DSb {ts:List bE} (h:ts.length<=6/\∀ t∈ts,TSb t):DSm ts/\DSv ts:=⟨⟨h.1,fun t ht=>(h.2 t ht).1⟩,fun t ht=>(h.2 t ht).2⟩
theorem D5 (hM:1073742848<=N) {a:yQ} (ha:hZ a) {p h:Int} (hc:dp a p):∃ ts q g,py N a p h=some (ts,q,g)/\dp a q/\ts.length<=6/\∀ t∈ts,TSb t:=by
 have hN:1073741824<=N:=by omega
 obtain ⟨ts,q,g,e,hc1,hl,ht⟩:=Bv hM ha (h:=h) hc
 obtain ⟨x,q2,g2,e2,b0,b1,_,hc2⟩:=dq (N:=N) ha (h:=g) (n:=5) hc1
 have b1:=b1 (by decide)
 obtain ⟨y,q3,g3,e3,_,_,_,hc3⟩:=dq (N:=N) ha (h:=g2) (n:=14) hc2
 have hx:x<(ts.length:Int):=by omega
 have hm:=ht _ (bF (show x.toNat<ts.length by omega))
 unfold py
 rw [e,bs]
 dsimp only
 rw [e2,bs]
 dsimp only
 rw [e3,bs]
 dsimp only
 cases h0:(y == 0) with
 | true =>
  obtain ⟨s,q4,g4,e4,hs,hc4⟩:=tO (N:=N) ha (h:=g3) (l:=[ByteArray.empty,(⟨#[82]⟩:ByteArray),(⟨#[97,98,99,100,101]⟩:ByteArray),(⟨#[97]⟩:ByteArray),(⟨#[122]⟩:ByteArray)]) hc3 (by decide)
  have hss:∀ s∈[ByteArray.empty,(⟨#[82]⟩:ByteArray),(⟨#[97,98,99,100,101]⟩:ByteArray),(⟨#[97]⟩:ByteArray),(⟨#[122]⟩:ByteArray)],s.size<=5:=by decide
  rw [ag,e4,bs,nG b0 hx,bs,ub b0 hx,bs]
  exact ⟨_,_,_,rfl,hc4,by rw [gP];omega,A7 ht ⟨⟨hss s hs,hm.1.2⟩,hm.2⟩⟩
 | false =>
 rw [am]
 cases h1:(y == 1) with
 | true =>
  obtain ⟨r,q4,g4,e4,hc4,hr⟩:=FL hM ha (h:=g3) hc3
  rw [ag,e4,bs,nG b0 hx,bs,ub b0 hx,bs]
  exact ⟨_,_,_,rfl,hc4,by rw [gP];omega,A7 ht (hr.t hm.1.1)⟩
 | false =>
 rw [am]
 cases h2:(y == 2) with
 | true =>
  rw [ag,nG b0 hx,bs,bA (by decide) (by simp;omega),bs]
  refine ⟨_,_,_,rfl,hc3,by simp;omega,fun t h=>?_⟩
  rcases dj.1 h with h | h
  ·exact ht t h
  ·rw [fD] at h;rw [h];exact hm
 | false =>
 rw [am]
 cases h3:(y == 3) with
 | true =>
  have es:slc ts 0 x=some ((ts.take x.toNat).drop 0):=by
   have:=lc (xs:=ts) (lo:=0) (hi:=x.toNat) oa oa
   rwa [show ((x.toNat:Nat):Int)=x by omega] at this
  rw [ag,es,bs]
  refine ⟨_,_,_,rfl,hc3,by rw [gS,dh];omega,fun t h=>ht t (qV (by simpa using h))⟩
 | false =>
 rw [am]
 exact ⟨_,_,_,rfl,hc3,oa,ht⟩
theorem Dn (hM:1073742848<=N) {a:yQ} (ha:hZ a) {p h:Int} (hc:dp a p):∃ ts r q g,oE N a p h=some (ts,r,q,g)/\dp a q/\(DSm ts/\DSv ts)/\QSm r/\QB r:=by
 have hN:1073741824<=N:=by omega
 obtain ⟨ts,q,g,e,hc1,hl,ht⟩:=Bv hM ha (h:=h) hc
 obtain ⟨r,q2,g2,e2,hc2,hr,hv⟩:=wd hN ha (h:=g) hc1
 obtain ⟨y,q3,g3,e3,_,_,_,hc3⟩:=dq (N:=N) ha (h:=g2) (n:=24) hc2
 unfold oE
 rw [e,bs]
 dsimp only
 rw [e2,bs]
 dsimp only
 rw [e3,bs]
 dsimp only
 cases h0:(y == 0) with
 | true =>
  obtain ⟨ts2,q4,g4,e4,hc4,ht4⟩:=D5 hM ha (h:=g3) hc3
  rw [ag,e4,bs]
  exact ⟨_,_,_,_,rfl,hc4,DSb ht4,hr.sm,hv.b⟩
 | false =>
 rw [am]
 cases h1:(y == 1) with
 | true =>
  obtain ⟨r2,q4,g4,e4,hc4,hr4⟩:=DY hN ha (h:=g3) hc3
  rw [ag,e4,bs]
  exact ⟨_,_,_,_,rfl,hc4,DSb ⟨oa,ht⟩,hr4⟩
 | false =>
 rw [am]
 exact ⟨_,_,_,_,rfl,hc3,DSb ⟨oa,ht⟩,hr.sm,hv.b⟩
theorem Fa (hN:1073741824<=N) {a acc:yQ} {p h:Int} {n v:Nat} (hn:n<=5) (hacc:acc.length<=5) (hv:v<n) (hf:(v:Int)∉acc):∀ (d k r:Nat),r<n->(r+d=v\/r+d=v+n)->d<=n->d<k->∃ x:Int,jc N k a p h (n:Int) acc (r:Int)=some x/\0<=x/\x<n:=by
 intro d
 induction d with
 | zero =>
  intro k r hr hd _ hk
  obtain ⟨k,rfl⟩:∃ g,k=g+1:=⟨k-1,oa⟩
  have:r=v:=by omega
  subst this
  have hneg:¬ 0<=fY acc (r:Int):=fun h=>hf (vw.1 h)
  rw [jc,pj hN oa,bs,ba hneg,am]
  exact ⟨_,rfl,oa,oa⟩
 | succ d ih =>
  intro k r hr hd hdn hk
  obtain ⟨k,rfl⟩:∃ g,k=g+1:=⟨k-1,oa⟩
  rw [jc,pj hN oa,bs]
  by_cases hq:0<=fY acc (r:Int)
  ·rw [aW hq,ag,ad1 oa,bs,tt oa,bs]
   by_cases hw:r+1=n
   ·have e:(((r+1:Nat):Int)).tmod (n:Int)=((0:Nat):Int):=by rw [hw,Int.tmod_self];rfl
    rw [e]
    exact ih k 0 oa oa oa oa
   ·have e:(((r+1:Nat):Int)).tmod (n:Int)=((r+1:Nat):Int):=Int.tmod_eq_of_lt oa oa
    rw [e]
    exact ih k (r+1) oa oa oa oa
  ·rw [ba hq,am]
   exact ⟨_,rfl,oa,oa⟩
theorem Fg (hN:1073741824<=N) {a:yQ} (ha:hZ a) {n:Nat} (hn:n<=5):∀ (d k:Nat) (acc:yQ) (p h:Int),dp a p->acc.length+d=n->d<k->(∀ v∈acc,0<=v/\v<n) ->
  ∃ q g out,kh N k a p h (n:Int) acc=some (q,g,out)/\dp a q/\out.length=n/\∀ v∈out,0<=v/\v<n:=by
 intro d
 induction d with
 | zero =>
  intro k acc p h hc hd hk hv
  obtain ⟨k,rfl⟩:∃ g,k=g+1:=⟨k-1,oa⟩
  rw [kh,ba oa,am]
  exact ⟨_,_,_,rfl,hc,oa,hv⟩
 | succ d ih =>
  intro k acc p h hc hd hk hv
  obtain ⟨k,rfl⟩:∃ g,k=g+1:=⟨k-1,oa⟩
  obtain ⟨x,q,g,e,b0,b1,_,hc1⟩:=dq (N:=N) ha (h:=h) (n:=(n:Int)) hc
  have b1:=b1 oa
  obtain ⟨v,hv1,hv2⟩:=HJ n acc oa
  obtain ⟨r,rfl⟩:=nV b0
  obtain ⟨y,e2,y0,y1⟩:=Fa hN (a:=a) (p:=q) (h:=g) hn oa hv1 hv2 (if r<=v then v-r else v+n-r) N r oa (by split <;> omega) (by split <;> omega) (by split <;> omega)
  rw [kh,aW oa,ag,e,bs]
  dsimp only
  have e2':jc N N a q g (n:Int) acc ((r:Nat):Int)=some y:=e2
  rw [e2',bs]
  unfold lpB
  dsimp only
  rw [bA (by decide) (by simp;omega),bs]
  refine ih k _ q g hc1 (by simp;omega) oa fun w hw=>?_
  rcases dj.1 hw with h | h
  ·exact hv w h
  ·rw [fD] at h;rw [h];exact ⟨y0,y1⟩
theorem C3 (hN:1073741824<=N) {a:yQ} (ha:hZ a) {p h:Int} {n:Nat} (hn:n<=5) (hc:dp a p):∃ out q g,n6 N a p h (n:Int)=some (out,q,g)/\dp a q/\out.length=n:=by
 obtain ⟨q,g,out,e,h1,h2,_⟩:=Fg hN ha hn n N [] p h hc (by simp) oa (by simp)
 unfold n6
 rw [e,bs]
 exact ⟨_,_,_,rfl,h1,h2⟩
theorem B4 (hN:1073741824<=N) {a:yQ} (ha:hZ a) {p h n:Int} {ats:List bj} {o:yQ} (hc:dp a p):∃ out q g,mZ N a p h n ats o=some (out,q,g)/\dp a q/\out.length<=5:=by
 unfold mZ
 have hi:∃ m:Nat,imx 0 (imn 5 n)=(m:Int)/\m<=5:=by
  have h1:0<=imx 0 (imn 5 n)/\imx 0 (imn 5 n)<=5:=by
   unfold imx imn
   split <;> split at*<;> omega
  exact ⟨(imx 0 (imn 5 n)).toNat,oa,oa⟩
 obtain ⟨m,em,hm⟩:=hi
 obtain ⟨out,q,g,e,hc1,hl⟩:=C3 hN ha (h:=h) hm hc
 rw [em,e,bs]
 dsimp only
 by_cases h0:(0:Int)<(out.length:Int)
 ·obtain ⟨b,q2,g2,e2,hc2⟩:=qL (N:=N) ha (h:=g) (n:=14) hc1
  rw [aW h0,ag,e2,bs]
  dsimp only
  cases b with
  | false=>rw [am];exact ⟨_,_,_,rfl,hc2,oa⟩
  | true =>
   obtain ⟨x,q3,g3,e3,_,_,_,hc3⟩:=dq (N:=N) ha (h:=g2) (n:=6) hc2
   rw [ag,e3,bs,nG (by decide) h0,bs,ub (by decide) h0,bs]
   exact ⟨_,_,_,rfl,hc3,by rw [gP];omega⟩
 ·rw [ba h0,am];exact ⟨_,_,_,rfl,hc1,by rw [hl];exact hm⟩
def JSm (ts:List bE) (r:n9) (o:yQ):Prop:=DSm ts/\QSm r/\o.length<=5
theorem JSm.o {ts:List bE} {r:n9} {o:yQ} (h:JSm ts r o):okI o:=⟨by have:=h.2.2;omega,fun _ _=>trivial⟩
def JSv (ts:List bE) (r:n9):Prop:=DSv ts/\QB r
theorem Cc (hM:1073742848<=N) {a:yQ} (ha:hZ a) {p h:Int} (hc:dp a p):∃ ts r o q g,n4 N a p h=some (ts,r,o,q,g)/\dp a q/\JSm ts r o/\JSv ts r:=by
 obtain ⟨ts,r,q,g,e,hc1,⟨ht,htv⟩,hr,hrv⟩:=Dn hM ha (h:=h) hc
 unfold n4
 rw [e,bs]
 dsimp only
 obtain ⟨o,q2,g2,e2,hc2,hl⟩:=B4 (N:=N) oa ha (h:=g) (n:=r.1) (ats:=r.2.1) (o:=r.2.2) hc1
 rw [e2,bs]
 exact ⟨_,_,_,_,_,rfl,hc2,⟨ht,hr,hl⟩,htv,hrv⟩
theorem MO {a:yQ}:dp a 0:=⟨kL _,oa⟩
theorem vK (hM:1073742848<=N) {a:yQ} (ha:hZ a):∃ ts r o,js N a=some (ts,r,o)/\JSm ts r o/\JSv ts r:=by
 obtain ⟨h,e⟩:=Fm (N:=N) oa ha
 obtain ⟨ts,r,o,q,g,e2,_,hj⟩:=Cc hM ha (h:=h) MO
 unfold js
 rw [e,bs]
 dsimp only
 rw [e2,bs]
 exact ⟨_,_,_,rfl,hj⟩
end
section
variable {N:Nat}
def VR (N:Nat) (r:eD):Prop:=bw N r.1 r.2=some true
def rv (r:eD):Rat:=(r.1:Rat) / (r.2:Rat)
theorem Ii:∀ (m k:Nat) (x y:Int),0<=x->0<=y->y<2 ^ m->2*m<k->∃ g z,gB N k x y=some (g,z)/\g ∣ x/\g ∣ y/\(0<x\/0<y->0<g)/\∀ c,c ∣ x->c ∣ y->c ∣ g:=by
 have one:∀ (k:Nat) (x:Int),0<=x->∃ g z,gB N (k+1) x 0=some (g,z)/\g ∣ x/\g ∣ 0/\(0<x\/(0:Int)<0->0<g)/\∀ c,c ∣ x->c ∣ (0:Int)->c ∣ g:=by
  intro k x hx
  rw [gB,show ((0:Int) != 0)=false from rfl,am]
  exact ⟨x,0,rfl,Int.dvd_refl x,Int.dvd_zero x,fun h=>by omega,fun c h _=>h⟩
 intro m
 induction m with
 | zero =>
  intro k x y hx hy hm hk
  obtain ⟨k,rfl⟩:∃ k',k=k'+1:=⟨k-1,oa⟩
  obtain rfl:y=0:=by omega
  exact one k x hx
 | succ m ih =>
  intro k x y hx hy hm hk
  obtain ⟨k,rfl⟩:∃ k',k=k'+2:=⟨k-2,oa⟩
  by_cases h0:y=0
  ·subst h0
   exact one (k+1) x hx
  ·have hyp:0<y:=by omega
   have e1:=Int.emod_add_mul_ediv x y
   have t1:=Int.emod_nonneg x h0
   have t2:=Int.emod_lt_of_pos x hyp
   have back:∀ {g:Int},g ∣ y->g ∣ x % y->g ∣ x:=by
    intro g h1 h2
    rw [<- e1]
    exact Int.dvd_add h2 (y9 h1)
   have fwd:∀ {c:Int},c ∣ x->c ∣ y->c ∣ x % y:=by
    intro c h1 h2
    rw [Int.emod_def]
    exact Int.dvd_sub h1 (y9 h2)
   rw [gB,show (y != 0)=true by simpa using h0,ag,tt h0,bs,Int.tmod_eq_emod_of_nonneg hx]
   by_cases h1:x % y=0
   ·rw [h1]
    obtain ⟨g,z,e,g1,g2,g3,g4⟩:=one k y hy
    refine ⟨g,z,e,back g1 (by rw [h1];exact g2),g1,fun _=>g3 (.inl hyp),fun c c1 c2=>g4 c c2 (Int.dvd_zero c)⟩
   ·have hr:0<x % y:=by omega
    generalize x % y=r at t1 t2 back fwd h1 hr
    have s1:=Int.emod_nonneg y h1
    have s2:=Int.emod_lt_of_pos y hr
    have e2:=Int.emod_add_mul_ediv y r
    have hq:1<=y / r:=Int.le_ediv_of_mul_le hr oa
    have hq2:r*1<=r*(y / r):=A3 hq oa
    rw [gB,show (r != 0)=true by simpa using h1,ag,tt h1,bs,Int.tmod_eq_emod_of_nonneg hy]
    have hpw:(2:Int) ^ (m+1)=2 ^ m*2:=rk 2 m
    obtain ⟨g,z,e,g1,g2,g3,g4⟩:=ih k r (y % r) t1 s1 oa oa
    have gy:g ∣ y:=by
     rw [<- e2]
     exact Int.dvd_add g2 (y9 g1)
    refine ⟨g,z,e,back gy g1,gy,fun _=>g3 (.inl hr),fun c c1 c2=>g4 c (fwd c1 c2) ?_⟩
    rw [Int.emod_def]
    exact Int.dvd_sub c2 (y9 (fwd c1 c2))
theorem ut (hN:1073741824<=N) {x y:Int} (hx:0<=x) (hy:0<=y) (h1:y<=4000000000000000000):∃ g,iJ N x y=some g/\g ∣ x/\g ∣ y/\(0<x\/0<y->0<g)/\∀ c,c ∣ x->c ∣ y->c ∣ g:=by
 have hp:(2:Int) ^ 63=9223372036854775808:=by decide
 obtain ⟨g,z,e,h⟩:=Ii (N:=N) 63 N x y hx hy oa oa
 refine ⟨g,?_,h⟩
 unfold iJ;rw [e,bs,lpB]
theorem xn (n:Int):0<=imx n (0-n)/\(imx n (0-n)=n\/imx n (0-n)=-n)/\∀ c:Int,c ∣ imx n (0-n)↔c ∣ n:=by
 unfold imx
 split
 ·refine ⟨oa,.inr oa,fun c=>?_⟩
  rw [Int.zero_sub]
  exact Int.dvd_neg
 ·refine ⟨oa,.inl rfl,fun c=>Iff.rfl⟩
theorem Dz (hN:1073741824<=N) (n d:Int):∃ b,bw N n d=some b/\(b=true↔1<=d/\d<=1000000000/\-1000000000<=n/\n<=1000000000/\Int.gcd n d=1):=by
 unfold bw
 rw [fg,bs]
 cases h1:inR d 1 1000000000 with
 | false =>
  rw [am]
  refine ⟨false,rfl,fun h=>(by cases h),fun h=>?_⟩
  rw [cg.2 ⟨h.1,h.2.1⟩] at h1;cases h1
 | true =>
  rw [ag,fg,bs]
  cases h2:inR n (-1000000000) 1000000000 with
  | false =>
   rw [am]
   refine ⟨false,rfl,fun h=>(by cases h),fun h=>?_⟩
   rw [cg.2 ⟨h.2.2.1,h.2.2.2.1⟩] at h2;cases h2
  | true =>
   have h1':=cg.1 h1
   have h2':=cg.1 h2
   obtain ⟨a1,a2,a3⟩:=xn n
   obtain ⟨g,e,g1,g2,g3,g4⟩:=ut (N:=N) hN a1 (by omega:0<=d) oa
   rw [ag,eu oa oa,bs,e,bs]
   refine ⟨_,rfl,?_⟩
   have hg:=g3 (.inr oa)
   rw [qR]
   constructor
   ·rintro rfl
    refine ⟨h1'.1,h1'.2,h2'.1,h2'.2,?_⟩
    have h5:=g4 (Int.gcd n d:Int) ((a3 _).2 (Int.gcd_dvd_left ..)) (Int.gcd_dvd_right ..)
    have h6:=ry (by decide) h5
    have h7:0<Int.gcd n d:=Int.gcd_pos_of_ne_zero_right n oa
    omega
   ·intro h
    have h5:(g.toNat:Int) ∣ (Int.gcd n d:Int):=by
     rw [uP oa]
     exact Int.dvd_coe_gcd ((a3 _).1 g1) g2
    rw [h.2.2.2.2,uP oa] at h5
    have:=ry (by decide) h5
    omega
theorem iG (hN:1073741824<=N) {r:eD}:VR N r↔1<=r.2/\r.2<=1000000000/\-1000000000<=r.1/\r.1<=1000000000/\Int.gcd r.1 r.2=1:=by
 obtain ⟨b,e,h⟩:=Dz hN r.1 r.2
 unfold VR
 rw [e,<- h]
 exact ⟨fun h=>c8 h,fun h=>by rw [h]⟩
theorem oV (hN:1073741824<=N) (r:eD):VR N r\/bw N r.1 r.2=some false:=by
 obtain ⟨b,e,_⟩:=Dz hN r.1 r.2
 cases b with
 | true=>exact .inl e
 | false=>exact .inr e
theorem Ay {n g:Int} (hg:0<g) (h:g ∣ n) (h1:-4000000000000000000<=n) (h2:n<=4000000000000000000):∃ q,qt n g=some q/\q*g=n:=by
 have hb:(n.tdiv g).natAbs<=n.natAbs:=by
  rw [Int.natAbs_tdiv];exact Nat.div_le_self _ _
 refine ⟨n.tdiv g,?_,Int.tdiv_mul_cancel h⟩
 unfold qt
 rw [aX ⟨oa,pQ oa oa⟩]
theorem IW {a b g:Int} (hg:g≠0) (hb:b≠0):((a:Int):Rat) / (b:Rat)=((a*g:Int):Rat) / ((b*g:Int):Rat):=by
 have h1:(g:Rat)≠0:=fun h=>hg (uM.1 h)
 have h2:(b:Rat)≠0:=fun h=>hb (uM.1 h)
 rw [jN,jN]
 grind
theorem Ij {a b:Int}:((-a:Int):Rat) / ((-b:Int):Rat)=(a:Rat) / (b:Rat):=by
 rw [wO,wO]
 by_cases h:(b:Rat)=0
 ·rw [h];grind
 ·grind
theorem Ib (hN:1073741824<=N) {n d:Int} (h1:-4000000000000000000<=n) (h2:n<=4000000000000000000) (h3:-4000000000000000000<=d) (h4:d<=4000000000000000000):∃ r b,fo N n d=some (r,b)/\(b=true->VR N r/\d≠0/\rv r=(n:Rat) / (d:Rat)):=by
 have core:∀ n d:Int,-4000000000000000000<=n->n<=4000000000000000000->0<d->d<=4000000000000000000->∃ r b,((sb 0 n).bind fun x154=>(iJ N (imx n x154) d).bind fun r155=>(qt n r155).bind fun x161=>(qt d r155).bind fun x162=>(bw N x161 x162).bind fun r170=>(bif r170 then some ((x161,x162),true) else some ((0,0),false)))=some (r,b)/\(b=true->VR N r/\rv r=(n:Rat) / (d:Rat)):=by
  intro n d h1 h2 h3 h4
  obtain ⟨a1,a2,a3⟩:=xn n
  obtain ⟨g,e,g1,g2,g3,g4⟩:=ut (N:=N) hN a1 (by omega:0<=d) h4
  have hg:=g3 (.inr h3)
  obtain ⟨p,ep,hp⟩:=Ay hg ((a3 _).1 g1) h1 h2
  obtain ⟨q,eq,hq⟩:=Ay hg g2 oa h4
  rw [eu oa oa,bs,e,bs,ep,bs,eq,bs]
  obtain ⟨b,eb,hb⟩:=Dz hN p q
  rw [eb,bs]
  cases b with
  | false=>exact ⟨_,_,rfl,fun h=>by cases h⟩
  | true =>
   refine ⟨_,_,rfl,fun _=>⟨eb,?_⟩⟩
   have hq0:q≠0:=by have:=(hb.1 rfl).1;omega
   show ((p:Int):Rat) / (q:Rat)=_
   rw [IW (g:=g) oa hq0,hp,hq]
 unfold fo
 by_cases h0:d=0
 ·rw [show (d == 0)=true by simpa using h0,ag]
  exact ⟨_,_,rfl,fun h=>by cases h⟩
 ·rw [show (d == 0)=false by simpa using h0,am,eu oa oa,bs,fg,bs,show inR n (0-4000000000000000000) 4000000000000000000=true from cg.2 oa,ag,bs,fg,bs,show inR d (0-4000000000000000000) 4000000000000000000=true from cg.2 oa,ag]
  by_cases hd:d<0
  ·rw [aW hd,ag,eu oa oa,bs,eu oa oa,bs]
   obtain ⟨r,b,e,h⟩:=core (0-n) (0-d) oa oa oa oa
   refine ⟨r,b,e,fun hb=>?_⟩
   obtain ⟨k1,k2⟩:=h hb
   refine ⟨k1,h0,?_⟩
   rw [k2,Int.zero_sub,Int.zero_sub]
   exact Ij
  ·rw [ba hd,am]
   obtain ⟨r,b,e,h⟩:=core n d h1 h2 oa h4
   exact ⟨r,b,e,fun hb=>⟨(h hb).1,h0,(h hb).2⟩⟩
theorem nT {N:Nat} (hN:1073741824<=N) {r:eD} (h:VR N r):(r.2:Rat)≠0:=fun e=>by
 have h1:=uM.1 e
 have:=(iG hN).1 h
 omega
theorem nq {a b:Int} (h1:-1000000000<=a) (h2:a<=1000000000) (h3:-1000000000<=b) (h4:b<=1000000000):-1000000000000000000<=a*b/\a*b<=1000000000000000000:=by
 have h5:(a*b).natAbs<=1000000000*1000000000:=by
  rw [Int.natAbs_mul];exact l9 oa oa
 omega
theorem Id (hN:1073741824<=N) (a b:eD):∃ r ok,eC N a.1 a.2 b.1 b.2=some (r,ok)/\(ok=true->VR N a/\VR N b/\VR N r/\rv r=rv a*rv b):=by
 unfold eC
 rcases oV hN a with ha | ha
 ·rcases oV hN b with hb | hb
  ·obtain ⟨a1,a2,a3,a4,_⟩:=(iG hN).1 ha
   obtain ⟨b1,b2,b3,b4,_⟩:=(iG hN).1 hb
   have m1:=nq a3 a4 b3 b4
   have m2:=nq (a:=a.2) (b:=b.2) oa a2 oa b2
   obtain ⟨r,k,e,h⟩:=Ib (N:=N) hN (n:=a.1*b.1) (d:=a.2*b.2) oa oa oa oa
   unfold VR at ha hb
   rw [ha,bs,ag,hb,bs,ag,eh oa oa,bs,eh oa oa,bs,e,bs]
   refine ⟨_,_,rfl,fun hk=>⟨ha,hb,(h hk).1,?_⟩⟩
   have h1:=nT hN (r:=a) ha
   have h2:=nT hN (r:=b) hb
   refine (h hk).2.2.trans ?_
   unfold rv
   rw [jN,jN]
   grind
  ·unfold VR at ha
   rw [ha,bs,ag,hb,bs,am]
   exact ⟨_,_,rfl,fun h=>by cases h⟩
 ·rw [ha,bs,am]
  exact ⟨_,_,rfl,fun h=>by cases h⟩
theorem LC (hN:1073741824<=N) (a b:eD):∃ r ok,jI N a.1 a.2 b.1 b.2=some (r,ok)/\(ok=true->VR N a/\VR N b/\VR N r/\b.1≠0/\rv r*rv b=rv a):=by
 unfold jI
 rcases oV hN a with ha | ha
 ·rcases oV hN b with hb | hb
  ·obtain ⟨a1,a2,a3,a4,_⟩:=(iG hN).1 ha
   obtain ⟨b1,b2,b3,b4,_⟩:=(iG hN).1 hb
   have m1:=nq a3 a4 (b:=b.2) oa b2
   have m2:=nq (a:=a.2) (b:=b.1) oa a2 b3 b4
   obtain ⟨r,k,e,h⟩:=Ib (N:=N) hN (n:=a.1*b.2) (d:=a.2*b.1) oa oa oa oa
   unfold VR at ha hb
   rw [ha,bs,ag,hb,bs,ag,eh oa oa,bs,eh oa oa,bs,e,bs]
   refine ⟨_,_,rfl,fun hk=>?_⟩
   have hb0:b.1≠0:=fun e0=>(h hk).2.1 (by rw [e0,uD])
   refine ⟨ha,hb,(h hk).1,hb0,?_⟩
   have h1:=nT hN (r:=a) ha
   have h2:=nT hN (r:=b) hb
   have h3:(b.1:Rat)≠0:=fun e=>hb0 (uM.1 e)
   have h4:=(h hk).2.2
   show rv r*rv b=rv a
   rw [h4]
   unfold rv
   rw [jN,jN]
   grind
  ·unfold VR at ha
   rw [ha,bs,ag,hb,bs,am]
   exact ⟨_,_,rfl,fun h=>by cases h⟩
 ·rw [ha,bs,am]
  exact ⟨_,_,rfl,fun h=>by cases h⟩
theorem Ic (hN:1073741824<=N) (a b:eD):∃ r ok,fj N a.1 a.2 b.1 b.2=some (r,ok)/\(ok=true->VR N a/\VR N b/\VR N r/\rv r=rv a+rv b):=by
 unfold fj
 rcases oV hN a with ha | ha
 ·rcases oV hN b with hb | hb
  ·obtain ⟨a1,a2,a3,a4,_⟩:=(iG hN).1 ha
   obtain ⟨b1,b2,b3,b4,_⟩:=(iG hN).1 hb
   have m1:=nq a3 a4 (b:=b.2) oa b2
   have m2:=nq b3 b4 (b:=a.2) oa a2
   have m3:=nq (a:=a.2) (b:=b.2) oa a2 oa b2
   obtain ⟨r,k,e,h⟩:=Ib (N:=N) hN (n:=a.1*b.2+b.1*a.2) (d:=a.2*b.2) oa oa oa oa
   unfold VR at ha hb
   rw [ha,bs,ag,hb,bs,ag,eh oa oa,bs,eh oa oa,bs,ce oa oa,bs,eh oa oa,bs,e,bs]
   refine ⟨_,_,rfl,fun hk=>⟨ha,hb,(h hk).1,?_⟩⟩
   have h1:=nT hN (r:=a) ha
   have h2:=nT hN (r:=b) hb
   refine (h hk).2.2.trans ?_
   unfold rv
   rw [Rat.intCast_add,jN,jN,jN]
   grind
  ·unfold VR at ha
   rw [ha,bs,ag,hb,bs,am]
   exact ⟨_,_,rfl,fun h=>by cases h⟩
 ·rw [ha,bs,am]
  exact ⟨_,_,rfl,fun h=>by cases h⟩
theorem MH (hN:1073741824<=N) (a b:eD):∃ r ok,lx N a.1 a.2 b.1 b.2=some (r,ok)/\(ok=true->VR N a/\VR N b/\VR N r/\rv r=rv a-rv b):=by
 unfold lx
 rcases oV hN b with hb | hb
 ·obtain ⟨b1,b2,b3,b4,_⟩:=(iG hN).1 hb
  obtain ⟨r,k,e,h⟩:=Ic hN a (0-b.1,b.2)
  have hb':=hb
  unfold VR at hb
  rw [hb,bs,ag,eu oa oa,bs,e,bs]
  refine ⟨_,_,rfl,fun hk=>?_⟩
  obtain ⟨k1,_,k3,k4⟩:=h hk
  refine ⟨k1,hb',k3,k4.trans ?_⟩
  unfold rv
  show _+((0-b.1:Int):Rat) / (b.2:Rat)=_
  rw [Int.zero_sub,wO]
  have h2:=nT hN hb'
  grind
 ·rw [hb,bs,am]
  exact ⟨_,_,rfl,fun h=>by cases h⟩
theorem Kj (hN:1073741824<=N) (a b:eD):∃ c,hH N a.1 a.2 b.1 b.2=some c/\-1<=c/\c<=1/\(VR N a->VR N b->(c<0↔rv a<rv b)):=by
 unfold hH
 rcases oV hN a with ha | ha
 ·rcases oV hN b with hb | hb
  ·obtain ⟨a1,a2,a3,a4,_⟩:=(iG hN).1 ha
   obtain ⟨b1,b2,b3,b4,_⟩:=(iG hN).1 hb
   have m1:=nq a3 a4 (b:=b.2) oa b2
   have m2:=nq b3 b4 (b:=a.2) oa a2
   have hlt:rv a<rv b↔a.1*b.2<b.1*a.2:=by
    have p1:(0:Rat)<(a.2:Rat):=xj.2 oa
    have p2:(0:Rat)<(b.2:Rat):=xj.2 oa
    unfold rv
    rw [Rat.div_lt_iff p1,nO,Rat.mul_assoc,Rat.mul_comm (b.2:Rat)⁻¹,<- Rat.mul_assoc,<- nO,Rat.lt_div_iff p2,<- jN,<- jN,Rat.intCast_lt_intCast]
   unfold VR at ha hb
   rw [ha,bs,ag,hb,bs,ag,eh oa oa,bs,eh oa oa,bs]
   by_cases h1:a.1*b.2<b.1*a.2
   ·rw [aW h1,ag]
    exact ⟨-1,rfl,by decide,by decide,fun _ _=>⟨fun _=>hlt.2 h1,fun _=>by decide⟩⟩
   ·rw [ba h1,am]
    by_cases h2:b.1*a.2<a.1*b.2
    ·rw [aW h2,ag]
     exact ⟨1,rfl,by decide,by decide,fun _ _=>⟨fun h=>absurd h (by decide),fun h=>absurd (hlt.1 h) h1⟩⟩
    ·rw [ba h2,am]
     exact ⟨0,rfl,by decide,by decide,fun _ _=>⟨fun h=>absurd h (by decide),fun h=>absurd (hlt.1 h) h1⟩⟩
  ·unfold VR at ha
   rw [ha,bs,ag,hb,bs,am]
   exact ⟨0,rfl,by decide,by decide,fun _ h=>by rw [VR,hb] at h;cases h⟩
 ·rw [ha,bs,am]
  exact ⟨0,rfl,by decide,by decide,fun h=>by rw [VR,ha] at h;cases h⟩
end
theorem Iu {x y:Rat} (hx:0<=x) (hy:0<=y):∀ n:Nat,((n:Rat)+1)*x*y ^ n<=x ^ (n+1)+n*y ^ (n+1)
 | 0=>by rw [jZ,re];grind
 | n+1=>by
  have h:=Iu hx hy n
  have h1:0<=x*(x ^ (n+1)+n*y ^ (n+1)-((n:Rat)+1)*x*y ^ n):=mz hx (by grind)
  have h2:0<=(x-y)*(x-y):=by
   rcases (Rat.le_total:x<=y\/y<=x) with g | g
   ·have:0<=(y-x)*(y-x):=mz (by grind) (by grind)
    grind
   ·exact mz (by grind) (by grind)
  have hn:(0:Rat)<=(n:Rat)+1:=by
   have:(0:Rat)<=(n:Rat):=us
   grind
  have h3:0<=(((n:Rat)+1)*y ^ n)*((x-y)*(x-y)):=mz (mz hn (Rat.pow_nonneg hy)) h2
  have e1:((n+1:Nat):Rat)=(n:Rat)+1:=by rw [uG];rfl
  rw [e1,jZ x (n+1),jZ y (n+1),jZ x n,jZ y n]
  rw [jZ x n,jZ y n] at h1
  grind
def prR:List Rat->Rat
 | []=>1
 | x :: l=>x*prR l
def smR:List Rat->Rat
 | []=>0
 | x :: l=>x+smR l
theorem Aj:∀ {l:List Rat},(∀ x∈l,0<=x)->0<=smR l
 | [],_=>by unfold smR;decide
 | x :: l,h=>by
  have h1:=Aj (l:=l) (fun y hy=>h y (fJ _ hy))
  have h2:=h x (dM)
  unfold smR;grind
theorem Ct:∀ {l:List Rat},(∀ x∈l,0<=x)->0<=prR l
 | [],_=>by unfold prR;decide
 | x :: l,h=>by
  unfold prR
  exact mz (h x dM) (Ct (fun y hy=>h y (fJ _ hy)))
theorem KN:∀ {l:List Rat},(∀ x∈l,0<=x)->∀ a:Rat,a*(l.length:Rat)=smR l->0<=a->prR l<=a ^ l.length
 | [],_,a,_,_=>by rw [fH,re];exact Rat.le_refl
 | t :: l,h,a,ha,h0=>by
  have ht:=h t dM
  have hl:∀ y∈l,0<=y:=fun y hy=>h y (fJ _ hy)
  have hs:=Aj hl
  have hp:=Ct hl
  have e1:((l.length+1:Nat):Rat)=(l.length:Rat)+1:=by rw [uG];rfl
  rw [bW,e1] at ha
  have ha':a*((l.length:Rat)+1)=t+smR l:=ha
  rw [bW]
  show t*prR l<=a ^ (l.length+1)
  by_cases hz:l.length=0
  ·have:l=[]:=List.length_eq_zero_iff.mp hz
   subst this
   rw [fH,jZ,re]
   have e2:prR []=1:=rfl
   have e3:smR []=0:=rfl
   rw [e2];rw [e3] at ha'
   have:((([]:List Rat).length:Nat):Rat)=0:=rfl
   rw [this] at ha'
   grind
  ·have hn:(0:Rat)<(l.length:Rat):=Rat.natCast_pos.mpr oa
   have hb:∃ b:Rat,b*(l.length:Rat)=smR l/\0<=b:=by
    refine ⟨smR l / (l.length:Rat),Rat.div_mul_cancel (by grind),?_⟩
    rw [nO]
    exact mz hs (rc (Rat.inv_pos.mpr hn))
   obtain ⟨b,hb,hb0⟩:=hb
   have ih:=KN hl b hb hb0
   have hy:=Iu h0 hb0 l.length
   have h4:t*prR l<=t*b ^ l.length:=wN ih ht
   have h5:t=((l.length:Rat)+1)*a-l.length*b:=by grind
   have h6:t*b ^ l.length=((l.length:Rat)+1)*a*b ^ l.length-l.length*b ^ (l.length+1):=by
    rw [jZ];grind
   grind
theorem EO {x y:Rat} (hx:0<=x) (h:x<=y):∀ n:Nat,x ^ n<=y ^ n
 | 0=>by rw [re,re];exact Rat.le_refl
 | n+1=>by
  rw [jZ,jZ]
  exact uU (wN h (Rat.pow_nonneg hx)) (zi (EO hx h n) (uU hx h))
theorem xW {x:Rat} (hx:0<=x) (h:x<=1) (m:Nat):∀ n:Nat,x ^ (m+n)<=x ^ m
 | 0=>Rat.le_refl
 | n+1=>by
  have h1:=xW hx h m n
  have h0:0<=x ^ (m+n):=Rat.pow_nonneg hx
  have e:x ^ (m+(n+1))=x ^ (m+n)*x:=jZ x (m+n)
  have h2:x ^ (m+n)*x<=x ^ (m+n)*1:=wN h h0
  rw [e];grind
theorem Cp (x y:Rat):∀ n:Nat,(x*y) ^ n=x ^ n*y ^ n
 | 0=>by rw [re,re,re];grind
 | n+1=>by rw [jZ,jZ,jZ,Cp x y n];grind
theorem rJ {x:Rat} (hx:0<=x) {n:Nat} (h:x ^ n<=0):x=0:=by
 by_cases hp:0<x
 ·have:=Rat.pow_pos (n:=n) hp
  grind
 ·grind
section
variable {ι:Type} (c:ι->Bool)
def pk (a r:ι->Rat) (i:ι):Rat:=cond (c i) (a i) (r i)
theorem Dp {a b r t:ι->Rat}:∀ L:List ι,(∀ i∈L,c i=true->a i=t i*b i)->prR (L.map (pk c a r))=prR ((L.filter c).map t)*prR (L.map (pk c b r))
 | [],_=>by
  show (1:Rat)=1*1
  grind
 | i :: L,h=>by
  have ih:=Dp (r:=r) L (fun j hj=>h j (fJ _ hj))
  have hi:=h i dM
  rw [fI,fI]
  show pk c a r i*prR (L.map (pk c a r))=_*(pk c b r i*prR (L.map (pk c b r)))
  rw [ih]
  cases hc:c i with
  | true =>
   have e:=hi hc
   rw [List.filter_cons_of_pos hc,fI]
   have e1:pk c a r i=a i:=by unfold pk;rw [hc];rfl
   have e2:pk c b r i=b i:=by unfold pk;rw [hc];rfl
   rw [e1,e2]
   show _=t i*prR ((L.filter c).map t)*_
   grind
  | false =>
   rw [List.filter_cons_of_neg (by rw [hc];decide)]
   have e1:pk c a r i=r i:=by unfold pk;rw [hc];rfl
   have e2:pk c b r i=r i:=by unfold pk;rw [hc];rfl
   rw [e1,e2]
   grind
theorem Ip {a r:ι->Rat} (ha:∀ i,0<=a i) (hr:∀ i,0<=r i) (L:List ι):0<=prR (L.map (pk c a r)):=by
 refine Ct (fun x hx=>?_)
 obtain ⟨i,_,rfl⟩:=List.mem_map.mp hx
 unfold pk
 cases c i with
 | true=>exact ha i
 | false=>exact hr i
theorem yi:∀ {l:List Rat},(0:Rat)∈l->prR l=0
 | x :: l,h=>by
  unfold prR
  rcases List.mem_cons.mp h with h | h
  ·rw [<- h];grind
  ·rw [yi h];grind
theorem Ei {t u:ι->Rat}:∀ L:List ι,(∀ i∈L,t i+u i=1)->smR (L.map t)+smR (L.map u)=(L.length:Rat)
 | [],_=>by
  show (0:Rat)+0=0
  grind
 | i :: L,h=>by
  have ih:=Ei L (fun j hj=>h j (fJ _ hj))
  have hi:=h i dM
  have e1:((L.length+1:Nat):Rat)=(L.length:Rat)+1:=by rw [uG];rfl
  rw [bW,e1,fI,fI]
  show t i+smR (L.map t)+(u i+smR (L.map u))=_
  grind
theorem IA {a b r t:ι->Rat} {L:List ι} {d:Nat} {N:Rat} (hd:d<=(L.filter c).length) (hd0:0<d) (ht:∀ i∈L,c i=true->a i=t i*b i) (t0:∀ i,0<=t i) (t1:smR ((L.filter c).map t)<=((L.filter c).length:Rat)) (hb:∀ i,0<=b i) (hr:∀ i,0<=r i) (hN:N ^ d<=prR (L.map (pk c a r))) :
  ∃ x:Rat,0<=x/\x*((L.filter c).length:Rat)=smR ((L.filter c).map t)/\N ^ d<=x ^ d*prR (L.map (pk c b r)):=by
 have hF:∀ x∈(L.filter c).map t,0<=x:=by
  intro x hx
  obtain ⟨i,_,rfl⟩:=List.mem_map.mp hx
  exact t0 i
 have hs:=Aj hF
 have hn:(0:Rat)<((L.filter c).length:Rat):=Rat.natCast_pos.mpr oa
 have hx:∃ x:Rat,x*((L.filter c).length:Rat)=smR ((L.filter c).map t)/\0<=x:=by
  refine ⟨smR ((L.filter c).map t) / ((L.filter c).length:Rat),Rat.div_mul_cancel (by grind),?_⟩
  rw [nO]
  exact mz hs (rc (Rat.inv_pos.mpr hn))
 obtain ⟨x,hx,hx0⟩:=hx
 refine ⟨x,hx0,hx,?_⟩
 have x1:x<=1:=by
  refine Rat.le_of_mul_le_mul_right (c:=((L.filter c).length:Rat)) ?_ hn
  rw [hx];grind
 have h1:=KN hF x (by rw [cD];exact hx) hx0
 rw [cD] at h1
 obtain ⟨e,he⟩:=Nat.exists_eq_add_of_le hd
 have h2:x ^ (L.filter c).length<=x ^ d:=by rw [he];exact xW hx0 x1 d e
 rw [Dp c L ht] at hN
 exact uU hN (zi (uU h1 h2) (Ip c hb hr L))
theorem Kf {s S r:ι->Rat} (hs:∀ i,0<=s i) (hS:∀ i,0<=S i) (hr:∀ i,0<=r i) {L:List ι} {d:Nat} (hd0:0<d) (hd:d<=(L.filter c).length) {N M:Rat} (N0:0<=N) (M0:0<=M) (hN:N ^ d<=prR (L.map (pk c s r))) (hM:M ^ d<=prR (L.map (pk c S r))) :
  (N+M) ^ d<=prR (L.map (pk c (fun i=>s i+S i) r)):=by
 have hb:∀ i,0<=s i+S i:=fun i=>by have:=hs i;have:=hS i;grind
 have P0:=Ip c hb hr L
 by_cases hz:∃ i∈L,c i=true/\s i+S i=0
 ·obtain ⟨i,hi,hc,h0⟩:=hz
  have z1:s i=0:=by have:=hs i;have:=hS i;grind
  have z2:S i=0:=by have:=hs i;have:=hS i;grind
  have m1:(0:Rat)∈L.map (pk c s r):=List.mem_map.mpr ⟨i,hi,by unfold pk;rw [hc];exact z1⟩
  have m2:(0:Rat)∈L.map (pk c S r):=List.mem_map.mpr ⟨i,hi,by unfold pk;rw [hc];exact z2⟩
  rw [yi m1] at hN
  rw [yi m2] at hM
  have n0:=rJ N0 hN
  have m0:=rJ M0 hM
  obtain ⟨e,rfl⟩:∃ e,d=e+1:=⟨d-1,oa⟩
  rw [jZ,n0,m0]
  grind
 ·have hp:∀ i∈L,c i=true->0<s i+S i:=by
   intro i hi hc
   have h1:=hb i
   have h2:s i+S i≠0:=fun h=>hz ⟨i,hi,hc,h⟩
   grind
  have t0:∀ {a:ι->Rat},(∀ i,0<=a i)->∀ i,0<=a i / (s i+S i):=by
   intro a ha i
   rw [nO]
   by_cases h:s i+S i=0
   ·rw [h]
    have e:(0:Rat)⁻¹=0:=Rat.inv_zero
    rw [e];grind
   ·exact mz (ha i) (rc (Rat.inv_pos.mpr (by have:=hb i;grind)))
  have ht:∀ (a:ι->Rat),∀ i∈L,c i=true->a i=a i / (s i+S i)*(s i+S i):=by
   intro a i hi hc
   have:=hp i hi hc
   exact (Rat.div_mul_cancel (by grind)).symm
  have h2:=Ei (t:=fun i=>s i / (s i+S i)) (u:=fun i=>S i / (s i+S i)) (L.filter c) (by
   intro i hi
   obtain ⟨hi,hc⟩:=List.mem_filter.mp hi
   have h1:=hp i hi hc
   show s i / (s i+S i)+S i / (s i+S i)=1
   rw [nO,nO,<- Rat.add_mul]
   exact Rat.mul_inv_cancel _ (by grind))
  have nn:∀ {a:ι->Rat},(∀ i,0<=a i)->0<=smR ((L.filter c).map (fun i=>a i / (s i+S i))):=by
   intro a ha
   refine Aj (fun x hx=>?_)
   obtain ⟨i,_,rfl⟩:=List.mem_map.mp hx
   exact t0 ha i
  have n1:=nn hs
  have n2:=nn hS
  obtain ⟨x,x0,hx,hx1⟩:=IA c (b:=fun i=>s i+S i) (t:=fun i=>s i / (s i+S i)) hd hd0 (ht s) (t0 hs) (by grind) hb hr hN
  obtain ⟨y,y0,hy,hy1⟩:=IA c (b:=fun i=>s i+S i) (t:=fun i=>S i / (s i+S i)) hd hd0 (ht S) (t0 hS) (by grind) hb hr hM
  have hn:(0:Rat)<((L.filter c).length:Rat):=Rat.natCast_pos.mpr oa
  have hxy:x+y=1:=by
   have:(x+y)*((L.filter c).length:Rat)=1*((L.filter c).length:Rat):=by grind
   grind
  refine Rat.not_lt.mp (fun hlt=>?_)
  have T0:0<=N+M:=by grind
  have go:∀ {z K:Rat},0<=z->0<=K->K ^ d<=z ^ d*prR (L.map (pk c (fun i=>s i+S i) r))->K<=z*(N+M)/\(0<z->K<z*(N+M)):=by
   intro z K z0 K0 h
   have e:=Cp z (N+M) d
   have zd:0<=z ^ d:=Rat.pow_nonneg z0
   have zT:0<=z*(N+M):=mz z0 T0
   have l1:z ^ d*prR (L.map (pk c (fun i=>s i+S i) r))<=z ^ d*(N+M) ^ d:=wN (rc hlt) zd
   have st:0<z->K<z*(N+M):=by
    intro zp
    have zdp:0<z ^ d:=Rat.pow_pos zp
    have l2:=(Rat.mul_lt_mul_left zdp).mpr hlt
    refine Rat.not_le.mp (fun hle=>?_)
    have:=EO zT hle d
    grind
   refine ⟨?_,st⟩
   by_cases zp:0<z
   ·exact rc (st zp)
   ·have z00:z=0:=by grind
    subst z00
    have e0:(0:Rat) ^ d=0:=by
     obtain ⟨e,rfl⟩:∃ e,d=e+1:=⟨d-1,oa⟩
     rw [jZ];grind
    rw [e0] at h
    have:=rJ K0 (by grind:K ^ d<=0)
    grind
  have g1:=go x0 N0 hx1
  have g2:=go y0 M0 hy1
  have e3:x*(N+M)+y*(N+M)=N+M:=by
   rw [<- Rat.add_mul,hxy,Rat.one_mul]
  by_cases xp:0<x
  ·have:=g1.2 xp
   have:=g2.1
   grind
  ·have yp:0<y:=by grind
   have:=g2.2 yp
   have:=g1.1
   grind
end
def prN:List Nat->Nat
 | []=>1
 | x :: l=>x*prN l
def smN:List Nat->Nat
 | []=>0
 | x :: l=>x+smN l
theorem DD:∀ l:List Nat,((prN l:Nat):Rat)=prR (l.map (fun n:Nat=>(n:Rat)))
 | []=>rfl
 | x :: l=>by
  rw [fI]
  show ((x*prN l:Nat):Rat)=(x:Rat)*prR (l.map (fun n:Nat=>(n:Rat)))
  rw [Rat.natCast_mul,DD l]
theorem AI {ι:Type} {f g:ι->Nat}:∀ {L:List ι},(∀ i∈L,f i<=g i)->prN (L.map f)<=prN (L.map g)
 | [],_=>bN _
 | i :: L,h=>by
  rw [fI,fI]
  exact l9 (h i dM) (AI (fun j hj=>h j (fJ _ hj)))
theorem Lo {ι α:Type} (c:ι->Bool) {L:List ι} {d:Nat} (hd0:0<d) (hd:d<=(L.filter c).length) {F:α->Nat} {s:ι->α->Nat} {r:ι->Nat}:∀ {K:List α},(∀ x∈K,F x ^ d<=prN (L.map (fun i=>s i x)))->(∀ i∈L,c i=false->∀ x∈K,s i x<=r i) ->
  (smN (K.map F)) ^ d<=prN (L.map (fun i=>cond (c i) (smN (K.map (s i))) (r i)))
 | [],_,_=>by
  show 0 ^ d<=_
  rw [rC hd0]
  exact cE _
 | x :: K,h,h2=>by
  have ih:=Lo (L:=L) (s:=s) (r:=r) c hd0 hd (K:=K) (fun y hy=>h y (fJ _ hy)) (fun i hi hc y hy=>h2 i hi hc y (fJ _ hy))
  have hx:=h x dM
  have hx':F x ^ d<=prN (L.map (fun i=>cond (c i) (s i x) (r i))):=by
   refine Nat.le_trans hx (AI (fun i hi=>?_))
   cases hc:c i with
   | true=>exact bN _
   | false=>exact h2 i hi hc x dM
  have cs:∀ (u w:ι->Nat),((prN (L.map (fun i=>cond (c i) (u i) (w i))):Nat):Rat)=prR (L.map (pk c (fun i=>((u i:Nat):Rat)) (fun i=>((w i:Nat):Rat)))):=by
   intro u w
   rw [DD,ni]
   congr 1
   refine ua (fun i _=>?_)
   show ((cond (c i) (u i) (w i):Nat):Rat)=pk c (fun i=>((u i:Nat):Rat)) (fun i=>((w i:Nat):Rat)) i
   unfold pk
   cases c i <;> rfl
  have a1:((F x:Nat):Rat) ^ d<=prR (L.map (pk c (fun i=>((s i x:Nat):Rat)) (fun i=>((r i:Nat):Rat)))):=by
   rw [<- cs,<- Rat.natCast_pow]
   exact Rat.natCast_le_natCast.mpr hx'
  have a2:((smN (K.map F):Nat):Rat) ^ d<=prR (L.map (pk c (fun i=>((smN (K.map (s i)):Nat):Rat)) (fun i=>((r i:Nat):Rat)))):=by
   rw [<- cs,<- Rat.natCast_pow]
   exact Rat.natCast_le_natCast.mpr ih
  have m:=Kf c (fun _=>us) (fun _=>us) (fun _=>us) hd0 hd us us a1 a2
  have e:∀ i,((s i x:Nat):Rat)+((smN (K.map (s i)):Nat):Rat)=((smN ((x :: K).map (s i)):Nat):Rat):=by
   intro i
   rw [<- uG];rfl
  have e2:(fun i=>((s i x:Nat):Rat)+((smN (K.map (s i)):Nat):Rat))=fun i=>((smN ((x :: K).map (s i)):Nat):Rat):=funext e
  rw [e2,<- cs,<- uG,<- Rat.natCast_pow] at m
  exact Rat.natCast_le_natCast.mp m
theorem ixR {ls:bh} {k:Nat} (h:k<ls.length):ix ls (k:Int)=some (ls.getD k []):=by rw [be h,iT h]
theorem ixD {xs:yQ} {k:Nat} (h:k<xs.length):ix xs (k:Int)=some (xs.getD k 0):=by rw [be h,bP h]
theorem ixH {xs:yQ} (h:0<xs.length):ix xs 0=some (ms xs):=ixD h
def cz (A:List Nat):yQ:=A.map fun (a:Nat)=>((a:Nat):Int)
theorem FJ {A:List Nat} {k:Nat} (h:k<A.length):ix (cz A) (k:Int)=some ((A.getD k 0:Nat):Int):=by
 unfold cz
 rw [be (by rw [cD];exact h),ky]
 simp [h]
theorem Hi {A:List Nat} {k a:Nat} (h:k<A.length):sto (cz A) (k:Int) (a:Int)=some (cz (A.set k a)):=by
 unfold cz
 rw [lS (by rw [cD];exact h),xh]
theorem Li {a b:Nat} (h:0<b):rm (a:Int) (b:Int)=some ((a % b:Nat):Int):=by
 rw [tt oa,<- Int.ofNat_tmod]
theorem LN (ls:bh) (O:yQ):(lsO ls O).map ms=O.map (hdI ls):=by unfold lsO;rw [ni];rfl
theorem IK (ls:bh) (O:yQ) (i:Nat):lsO ls (vy ls O i)=(lsO ls O).take (mX ls O i)++[ls.getD i []]++(lsO ls O).drop (mX ls O i):=by
 unfold lsO vy
 rw [fE,fE,List.map_take,List.map_drop];rfl
section
variable {N:Nat}
theorem J2 {yM ls:bh} {l:yQ} {b c:Int} (hne:∀ x∈yM,0<x.length) (hl:0<l.length) (hlen:yM.length<=1000):∀ k f,k<=yM.length->k<f ->
  fZ N f yM l (k:Int) ls b c=some ((rK (yM.map ms) (ms l) k:Nat):Int):=by
 intro k
 induction k with
 | zero =>
  intro f _ hf
  obtain ⟨f,rfl⟩:∃ g,f=g+1:=⟨f-1,oa⟩
  rw [fZ,ba oa,am];rfl
 | succ k ih =>
  intro f hk hf
  obtain ⟨f,rfl⟩:∃ g,f=g+1:=⟨f-1,oa⟩
  have hk':k<yM.length:=by omega
  rw [fZ,aW oa,ag,eu oa oa,bs,show (((k+1:Nat):Int)-1)=(k:Int) by omega,be hk',bs,ixH (hne _ (bF hk')),bs,ixH hl,bs,bs,rK]
  have e:(yM.map ms).getD k 0=ms yM[k]:=by simp [hk']
  rw [e]
  by_cases h:ms l<ms yM[k]
  ·rw [aW h,ag,aX h,ih f oa oa]
  ·rw [ba h,am,a9 h]
theorem I0 (hN:1073741824<=N) {ls:bh} (hne:∀ x∈ls,0<x.length) (hlen:ls.length<=1000):cM N N [] ls (ls.length:Int) 0=some (lsO ls (hJ ls ls.length),(ls.length:Int)) :=
 gC (fun k (o:bh) i=>cM N k o ls (ls.length:Int) i) ls.length (fun i=>lsO ls (hJ ls i)) (lsO ls (hJ ls ls.length),(ls.length:Int))
  (fun k i h=>by
   have ho:=uX ls i
   have hol:(lsO ls (hJ ls i)).length=i:=by unfold lsO;rw [cD,ho.len]
   have hp:=Ec ls (hJ ls i) i
   rw [ho.len] at hp
   have hne':∀ x∈lsO ls (hJ ls i),0<x.length:=fun x hx=>by
    obtain ⟨j,hj,rfl⟩:=fK.1 hx
    have:=ho.bd j hj
    exact hne _ (mi oa)
   have e:rK ((lsO ls (hJ ls i)).map ms) (ms ls[i]) (lsO ls (hJ ls i)).length=mX ls (hJ ls i) i:=by
    unfold mX hdI
    rw [LN,hol,ho.len,show ((i:Nat):Int).toNat=i from rfl,iT h];rfl
   show cM N (k+1) (lsO ls (hJ ls i)) ls (ls.length:Int) (i:Int)=cM N k (lsO ls (hJ ls (i+1))) ls (ls.length:Int) ((i+1:Nat):Int)
   rw [cM,dlt h,ag,be h,bs,J2 hne' (hne _ (bF h)) oa _ N (bN _) oa,bs,lpB,e,H7 oa,bs,lc oa (bN _),bs,fC,bA (by decide) (by simp;omega),bs,bA (by decide) (by simp;omega),bs,bA (by decide) (by simp;omega),bs,ad1 oa,bs,B0,IK,iT h]
   rfl)
  (fun k=>by
   show cM N (k+1) (lsO ls (hJ ls ls.length)) ls (ls.length:Int) (ls.length:Int)=_
   rw [cM,dge oa,am]) N 0 oa oa
theorem xM (hN:1073741824<=N) {l:yQ} {a:Nat} {v:Int} (ha:a<=l.length) (hl:l.length<=1048576):kX N l (a:Int) v=some ((gQ l a v:Nat):Int):=by
 have key:∀ k i,i<=l.length->l.length-i<k->kG N k l v (i:Int)=some (if gQ l i v<l.length then .inl ((gQ l i v:Nat):Int) else .inr (l.length:Int)):=by
  intro k
  induction k with
  | zero=>intro i _ h;omega
  | succ k ih =>
   intro i h1 h2
   rw [kG]
   by_cases h:i<l.length
   ·rw [dlt h,ag,be h,bs]
    have e:gQ l i v=if l[i]<v then gQ l (i+1) v else i:=by
     unfold gQ
     rw [gj h,oA]
     by_cases hv:l[i]<v
     ·rw [aX (by simpa using hv),aX hv,bW];omega
     ·rw [a9 (by simpa using hv),a9 hv];rfl
    by_cases hv:v<=l[i]
    ·have e2:gQ l i v=i:=by rw [e,a9 oa]
     rw [aW hv,ag,e2,aX h]
    ·have e2:gQ l i v=gQ l (i+1) v:=by rw [e,aX oa]
     rw [ba hv,am,ad1 oa,bs,ih (i+1) oa oa,e2]
   ·rw [dge h,am]
    have hi:i=l.length:=by omega
    have e:gQ l i v=l.length:=by unfold gQ;rw [lu oa,hi];rfl
    rw [e,a9 oa,hi]
 unfold kX
 have hm:imx 0 (a:Int)=(a:Int):=by unfold imx;split <;> omega
 rw [hm,key N a ha oa,bs]
 have hle:=CX (v:=v) ha
 by_cases h:gQ l a v<l.length
 ·rw [aX h,lN]
 ·rw [a9 h,iW,show gQ l a v=l.length by omega]
theorem tV (hN:1073741824<=N) {ls:bh} (hl:ls.length<=1048576):jn N ls=some (shT ls ls.length):=by
 have h:=gC (fun k (s:Int) i=>cB N k s ls (ls.length:Int) i) ls.length (fun i=>shT ls i) (shT ls ls.length,(ls.length:Int))
  (fun k i h=>by
   show cB N (k+1) (shT ls i) ls (ls.length:Int) (i:Int)=cB N k (shT ls (i+1)) ls (ls.length:Int) ((i+1:Nat):Int)
   rw [cB,dlt h,ag,be h,bs,ad1 oa,bs,bs,yn]
   unfold shS
   rw [iT h]
   cases i with
   | zero=>rfl
   | succ i =>
    rw [show (((i+1:Nat):Int) == 0)=false by simp;omega,am,show Nat.beq (i+1) 0=false from rfl,ue]
    cases decide ((ls[i+1].length:Int)<shT ls (i+1)) <;> rfl)
  (fun k=>by
   show cB N (k+1) (shT ls ls.length) ls (ls.length:Int) (ls.length:Int)=_
   rw [cB,dge oa,am]) N 0 oa oa
 have h':cB N N 0 ls (ls.length:Int) 0=_:=h
 unfold jn
 rw [h',bs,lpB]
end
theorem I4 (Ls:bh) (A:List Nat) (most:Int) (out:yQ) (s:Nat):(lkO Ls A most out s).length<=out.length+1:=by
 unfold lkO;split
 ·simp
 ·omega
theorem Bt (a b:Nat):((a:Int) == (b:Int))=decide (a=b):=by
 by_cases h:a=b
 ·rw [aW h,h];simp
 ·rw [ba h];simp;omega
section
variable {N:Nat}
theorem L6 (hN:1073741824<=N) {Ls:bh} (hb:∀ l∈Ls,l.length<=1000000):∀ (m:Nat) (A:List Nat) (most:Int) (out:yQ) (s k:Nat),LInv Ls A most out s->o6 Ls A<m->m<=k->out.length+m<=1073741824->s+m<=1073741824 ->
  eM N k Ls (cz A) most out ((s+1:Nat):Int)=some ((lq Ls m A most out s).1,((lq Ls m A most out s).2:Int)):=by
 intro m
 induction m with
 | zero=>intro A most out s k _ h;omega
 | succ m ih =>
  intro A most out s k I h hmk h1 h2
  obtain ⟨k,rfl⟩:∃ g,k=g+1:=⟨k-1,oa⟩
  obtain ⟨hk,ha,hgt,hle,_,hstep⟩:=xa I
  have hkA:s % Ls.length<A.length:=by rw [I.len];exact hk
  have ha':lkP Ls A s<(lkL Ls s).length:=ha
  have hle':lkA Ls A most s<=(lkL Ls s).length:=hle
  have hlb:=hb _ (mi hk)
  have hlb':(lkL Ls s).length<=1000000:=hlb
  have hset:s % Ls.length<(A.set (s % Ls.length) (lkA Ls A most s)).length:=by rw [gP];exact hkA
  have hrec:¬ lkA Ls A most s=(lkL Ls s).length->eM N k Ls (cz (A.set (s % Ls.length) (lkA Ls A most s))) ((lkL Ls s).getD (lkA Ls A most s) 0) (lkO Ls A most out s) ((s+1+1:Nat):Int)=some ((lq Ls (m+1) A most out s).1,((lq Ls (m+1) A most out s).2:Int)):=fun hne=>by
   have hr:=yU Ls A (s % Ls.length) (lkA Ls A most s) hk I.len (by
    have h4:lkP Ls A s<lkA Ls A most s:=hgt
    show (lkL Ls s).length-lkA Ls A most s<(lkL Ls s).length-lkP Ls A s
    omega)
   have hol:=I4 Ls A most out s
   rw [ih _ _ _ (s+1) k (hstep hne) oa oa oa oa,lq,a9 hne]
  have hend:lkA Ls A most s=(lkL Ls s).length->(lq Ls (m+1) A most out s)=(lkO Ls A most out s,s+1):=fun he=>by rw [lq,aX he]
  rw [eM,eu oa oa,bs,show (((s+1:Nat):Int)-1)=(s:Int) by omega,Li I.pos,bs,ixR hk,bs]
  show ((ix (cz A) ((s % Ls.length:Nat):Int)).bind fun x854=>(ix (lkL Ls s) x854).bind _)=_
  rw [FJ hkA,bs]
  show ((ix (lkL Ls s) ((lkP Ls A s:Nat):Int)).bind _)=_
  rw [ixD ha',bs]
  by_cases e:(lkL Ls s).getD (lkP Ls A s) 0=most
  ·have eA:lkA Ls A most s=lkP Ls A s+1:=aX e
   have eO:lkO Ls A most out s=out++[most]:=aX e
   rw [show ((lkL Ls s).getD (lkP Ls A s) 0 == most)=true by rw [e];simp,ag,bA (by decide) (by simp;omega),bs,bs,ad1 (show A.getD (s % Ls.length) 0<1099511627776 by have:lkP Ls A s=A.getD (s % Ls.length) 0:=rfl;omega),bs,bs]
   show ((sto (cz A) ((s % Ls.length:Nat):Int) ((lkP Ls A s+1:Nat):Int)).bind _)=_
   rw [Hi hkA,bs,<- eA,<- eO,FJ hset,bs,Dh hkA]
   show (bif (((lkA Ls A most s:Nat):Int) == ((lkL Ls s).length:Int)) then _ else _)=_
   rw [Bt]
   by_cases he:lkA Ls A most s=(lkL Ls s).length
   ·rw [aW he,ag,hend he]
   ·rw [ba he,am,bs]
    show ((ix (lkL Ls s) ((lkA Ls A most s:Nat):Int)).bind _)=_
    rw [ixD (show lkA Ls A most s<(lkL Ls s).length by omega),bs,ad1 oa,bs]
    exact hrec he
  ·have eA:lkA Ls A most s=gQ (lkL Ls s) (lkP Ls A s) most:=a9 e
   have eO:lkO Ls A most out s=out:=a9 e
   rw [show ((lkL Ls s).getD (lkP Ls A s) 0 == most)=false by simpa using e,am,bs]
   show ((kX N (lkL Ls s) ((lkP Ls A s:Nat):Int) most).bind _)=_
   rw [xM hN oa oa,bs,bs,<- eA]
   show ((sto (cz A) ((s % Ls.length:Nat):Int) ((lkA Ls A most s:Nat):Int)).bind _)=_
   rw [Hi hkA,bs,FJ hset,bs,Dh hkA]
   show (bif (((lkA Ls A most s:Nat):Int) == ((lkL Ls s).length:Int)) then _ else _)=_
   rw [Bt]
   by_cases he:lkA Ls A most s=(lkL Ls s).length
   ·rw [aW he,ag,hend he,eO]
   ·rw [ba he,am,bs]
    show ((ix (lkL Ls s) ((lkA Ls A most s:Nat):Int)).bind _)=_
    rw [ixD (show lkA Ls A most s<(lkL Ls s).length by omega),bs,ad1 oa,bs]
    have:=hrec he
    rw [eO] at this
    exact this
theorem HP (n:Nat):List.replicate n (0:Int)=cz (jV n):=by unfold cz jV;rw [List.map_replicate];rfl
theorem si (hN:1073741824<=N) {ls:bh} (hl:ls.length<=1000) (hb:∀ l∈ls,l.length<=1000000):iI N ls=some (nD ls):=by
 have hok:iX ls:=⟨oa,fun l h=>⟨by have:=hb l h;omega,fun _ _=>trivial⟩⟩
 unfold iI nD
 rw [xJ hN hok,bs]
 cases h1:nU ls with
 | false=>rfl
 | true =>
  rw [ag,tV hN oa,bs,cW]
  cases h2:(shT ls ls.length == 0) with
  | true=>rfl
  | false =>
   obtain ⟨I,hne⟩:=vj (ls:=ls) (by rw [h1,h2];rfl)
   have hpos:=I.pos
   have hlen:=uw ls
   have hrem:=wQ (lsO ls (hJ ls ls.length)) 1000000 ls.length fun l hl=>hb l (nk.1 hl)
   rw [hlen] at hrem
   have hmul:=mc 1000000 hl
   have h1p:0<((lsO ls (hJ ls ls.length)).getD (ls.length-1) []).length:=hne _ (nk.1 (mi oa))
   rw [am,tc,ag,I0 hN hne hl,bs,lpB]
   show ((mk 8 (0:Int) ((lsO ls (hJ ls ls.length)).length:Int)).bind _)=_
   rw [hlen,xB (by decide) oa,bs,HP,eu oa oa,bs,show ((ls.length:Int)-1)=((ls.length-1:Nat):Int) by omega,ixR oa,bs,ixH h1p,bs]
   have:=L6 hN (Ls:=lsO ls (hJ ls ls.length)) (fun l h=>hb l (nk.1 h)) (o6 (lsO ls (hJ ls ls.length)) (jV ls.length)+1) (jV ls.length) _ [] 0 N I oa oa (by simp;omega) oa
   exact this
end
def cx (yL:List bj) (i:Nat):bj:=yL.getD i (ByteArray.empty,[])
theorem lU {yL:List bj} {i:Nat} (h:i<yL.length):cx yL i=yL[i]:=by unfold cx;simp [h]
def rE (yL:List bj) (v:Int) (n:Nat):List Nat:=(List.range' 0 n).filter fun i=>decide (v∈(cx yL i).2)
def Hs (yL:List bj) (v:Int):List Nat:=rE yL v yL.length
def pF (vs yM p:yQ) (n:Nat):yQ:=((List.range' 0 n).filter fun k=>decide (yM.getD k 0∈vs)).map fun k=>p.getD k 0
def qz (vs yM p:yQ):yQ:=pF vs yM p p.length
def atV (ts:List bE) (yM:yQ) (yL:List bj) (p:yQ) (i:Nat):yQ :=
 mT (jl ts yM (cx yL i)).1 (jl ts yM (cx yL i)).2 (qz (cx yL i).2 yM p)
def mN (ts:List bE) (yM:yQ) (yL:List bj) (p:yQ):bh:=(Hs yL (yM.getD p.length 0)).map (atV ts yM yL p)
theorem GE (yL:List bj) (v:Int) (n:Nat):rE yL v (n+1)=bif decide (v∈(cx yL n).2) then rE yL v n++[n] else rE yL v n:=by
 unfold rE
 rw [oD,uY]
 simp only [e9,lw,rr,List.filter_nil]
 cases decide (v∈(cx yL n).2) <;> simp
theorem Cz (yL:List bj) (v:Int) (n:Nat):(rE yL v n).length<=n:=by
 unfold rE
 refine Nat.le_trans (qS _ _) ?_
 simp
theorem DE {yL:List bj} {v:Int} {i:Nat}:i∈Hs yL v↔i<yL.length/\v∈(cx yL i).2:=by
 unfold Hs rE
 rw [lW,dN]
 simp
theorem tG (vs yM p:yQ) (n:Nat):pF vs yM p (n+1)=bif decide (yM.getD n 0∈vs) then pF vs yM p n++[p.getD n 0] else pF vs yM p n:=by
 unfold pF
 rw [oD,uY,fE]
 simp only [e9,lw,rr,List.filter_nil]
 cases decide (yM.getD n 0∈vs) <;> simp
theorem HA (vs yM p:yQ) (n:Nat):(pF vs yM p n).length<=n:=by
 unfold pF
 rw [cD]
 refine Nat.le_trans (qS _ _) ?_
 simp
theorem FW {ts:List bE} {yM:yQ} {yL:List bj} {i:Nat} (h:i<yL.length):ix (c4 ts yM yL) (i:Int)=some (jl ts yM (cx yL i)):=by
 rw [be (by rw [sf];exact h)]
 unfold c4
 rw [ky,lU h]
theorem mU {yL:List bj} {i:Nat} (h:i<yL.length):cx yL i∈yL:=by rw [lU h];exact bF h
theorem BD {yL:List bj} (ha:dz yL) {i:Nat} (h:i<yL.length):okI (cx yL i).2:=by rw [lU h];exact sN ha h
theorem HD {yL:List bj} {i:Nat} (h:i<yL.length):ix yL (i:Int)=some (cx yL i):=by rw [be h,lU h]
theorem vp (ts:List bE) (yM:yQ) (yL:List bj) (p:yQ):(mN ts yM yL p).length<=yL.length:=by
 unfold mN;rw [cD];exact Cz _ _ _
theorem tu {ts:List bE} {n:Nat} {yL:List bj} {yM p:yQ} (q:QFor ts n yL yM):∀ l∈mN ts yM yL p,l.length<=16/\mj l/\∀ v∈l,0<=v/\v<=99:=by
 intro l hl
 obtain ⟨i,hi,rfl⟩:=fK.1 hl
 have hm:=mU (DE.1 hi).1
 obtain ⟨_,_,g3,g4,_⟩:=qG q hm
 unfold atV
 exact ⟨Nat.le_trans (B2 _ _ _) g4,F9 g3,Fo g3⟩
section
variable {N:Nat}
theorem Kk (hN:1073741824<=N) {t1:List xx} {yM p vs:yQ} {s:ByteArray} {b1:bh} {b2 b5 b6:Int} {b4:List bj} (hv:okI vs) (hp:p.length<=1000) (ho:p.length<=yM.length) :
  eG N N t1 yM p b1 b2 s vs [] b4 b5 b6 p (p.length:Int) 0=some (qz vs yM p,(p.length:Int)) :=
 gC (fun k (o:yQ) i=>eG N k t1 yM p b1 b2 s vs o b4 b5 b6 p (p.length:Int) i) p.length (pF vs yM p) (qz vs yM p,(p.length:Int))
  (fun k i h=>by
   have hl:=HA vs yM p i
   show eG N (k+1) t1 yM p b1 b2 s vs (pF vs yM p i) b4 b5 b6 p (p.length:Int) (i:Int)=eG N k t1 yM p b1 b2 s vs (pF vs yM p (i+1)) b4 b5 b6 p (p.length:Int) ((i+1:Nat):Int)
   rw [eG,dlt h,ag,ixD h,bs,ixD (show i<yM.length by omega),bs,lD hN hv,bs,ad1 oa,tG]
   cases decide (yM.getD i 0∈vs) with
   | true=>rw [ag,ag,bA (by decide) (by simp;omega),bs,bs]
   | false=>rw [am,am,bs])
  (fun k=>by
   show eG N (k+1) t1 yM p b1 b2 s vs (pF vs yM p p.length) b4 b5 b6 p (p.length:Int) (p.length:Int)=_
   rw [eG,dge oa,am];rfl) N 0 oa oa
theorem CP (hN:1073741824<=N) {ts:List bE} {n:Nat} {m:Int} {yL:List bj} {out yM p:yQ} (q:QFor ts n yL yM) (ha:dz yL) (hp:p.length<n) :
  mJ N m yL out (c4 ts yM yL) yM p=some (mN ts yM yL p):=by
 have hn5:=q.n5
 have hol:=q.ol
 have h4:=q.a4
 have h:=gC (fun k (o:bh) i=>eH N k (c4 ts yM yL) yM p o yL (yL.length:Int) i) yL.length (fun i=>(rE yL (yM.getD p.length 0) i).map (atV ts yM yL p)) (mN ts yM yL p,(yL.length:Int))
  (fun k i h=>by
   have hl:=Cz yL (yM.getD p.length 0) i
   have hm:=bF h
   obtain ⟨_,_,g3,_,_⟩:=qG q (mU h)
   show eH N (k+1) (c4 ts yM yL) yM p ((rE yL (yM.getD p.length 0) i).map (atV ts yM yL p)) yL (yL.length:Int) (i:Int)=eH N k (c4 ts yM yL) yM p ((rE yL (yM.getD p.length 0) (i+1)).map (atV ts yM yL p)) yL (yL.length:Int) ((i+1:Nat):Int)
   rw [eH,dlt h,ag,HD h,bs,ixD (show p.length<yM.length by omega),bs,lD hN (BD ha h),bs,ad1 oa,GE]
   cases decide (yM.getD p.length 0∈(cx yL i).2) with
   | true =>
    rw [ag,ag,Kk hN (BD ha h) oa oa,bs,lpB]
    show ((ix (c4 ts yM yL) (i:Int)).bind _)=_
    rw [FW h,bs,vH hN g3,bs,bA (by decide) (by rw [cD,bT];omega),bs,bs,fE];rfl
   | false=>rw [am,am,bs])
  (fun k=>by
   show eH N (k+1) (c4 ts yM yL) yM p ((rE yL (yM.getD p.length 0) yL.length).map (atV ts yM yL p)) yL (yL.length:Int) (yL.length:Int)=_
   rw [eH,dge oa,am];rfl) N 0 oa oa
 have h':eH N N (c4 ts yM yL) yM p [] yL (yL.length:Int) 0=_:=h
 unfold mJ
 rw [h',bs,lpB]
theorem AN {α β:Type} {xs:List α} {f:α->β} {i:Nat} (h:i<xs.length):(xs.take (i+1)).map f=(xs.take i).map f++[f xs[i]]:=by
 rw [gk h,fE];rfl
end
def bR (ts:List bE) (yM:yQ) (yL:List bj):Nxt:=fun p=>nD (mN ts yM yL p)
theorem vq {xs:yQ} (h:mj xs):xs.Nodup:=List.Pairwise.imp (fun {a b} (hab:a<b) (e:a=b)=>by omega) h
theorem Gp {ls:bh} {xs:yQ} (h:∀ l∈ls,l.length<=16/\mj l/\∀ v∈l,0<=v/\v<=99) (ha:mj xs) (hx:∀ x∈xs,∀ l∈ls,x∈l) (he:ls=[]->xs=[]):xs.length<=16/\∀ v∈xs,0<=v/\v<=99:=by
 cases ls with
 | nil=>rw [he rfl];simp
 | cons l ls =>
  obtain ⟨h1,_,h3⟩:=h l dM
  refine ⟨Nat.le_trans (sc xs l (vq ha) fun x hx'=>hx x hx' l dM) h1,fun v hv=>h3 v (hx v hv l dM)⟩
theorem Gm:(nD []).1=[]:=rfl
theorem o5 {ts:List bE} {n:Nat} {yL:List bj} {yM:yQ} (q:QFor ts n yL yM):NxtOk (bR ts yM yL):=by
 have h4:=q.a4
 have key:=fun p=>zq (ls:=mN ts yM yL p) (B:=16) fun l hl=>(tu q l hl).1
 have com:=fun p=>Gp (fun l hl=>tu q (p:=p) l hl) (key p).1 (key p).2.1 fun e=>by rw [e];exact Gm
 have hll:=fun p=>vp ts yM yL p
 refine ⟨fun p=>(com p).1,fun p=>(key p).1,fun p=>(com p).2,fun p=>(key p).2.2.1,fun p=>?_⟩
 have h1:=(key p).2.2.2.1
 have h2:=hll p
 show (nD (mN ts yM yL p)).2<=1000
 omega
theorem DN {α β:Type} {xs:List α} {g:α->List β} {i:Nat} (h:i<xs.length):(xs.take (i+1)).flatMap g=(xs.take i).flatMap g++g xs[i]:=by
 rw [gk h,List.flatMap_append];simp
theorem Fr {α:Type} {xs:List α} {g:α->Int} {i:Nat} (h:i<xs.length):((xs.take (i+1)).map g).sum=((xs.take i).map g).sum+g xs[i]:=by
 rw [AN h,List.sum_append];simp
theorem C2 {f:Nxt} {rows:bh} {i:Nat} (h:i<rows.length):jP f (rows.take (i+1))=jP f (rows.take i)+(f rows[i]).2:=Fr h
theorem wC (f:Nxt):∀ (m:Nat) (L:bh) (c:Int),nu f (m+1) L c=((nu f m L c).1.flatMap (tZ f),(nu f m L c).2+jP f (nu f m L c).1)
 | 0,_,_=>rfl
 | m+1,L,c=>by
  rw [nu,wC f m];rfl
theorem C0:∀ {i:Nat},i<=5->se i<=1000000000
 | 0,_=>by decide
 | 1,_=>by decide
 | 2,_=>by decide
 | 3,_=>by decide
 | 4,_=>by decide
 | 5,_=>by decide
section
variable {N:Nat}
theorem DW {xs:yQ} (h:xs.length<=1048576):kw N xs=some xs:=by
 unfold kw
 rw [Bg (by decide) oa,bs]
theorem C9 (hN:1073741824<=N) {t1:List xx} {yM out p vs:yQ} {b1 b2 b3 b4 b5 b6:Int} {yL:List bj} {next rows:bh} (hp:p.length<=1000) (hv:vs.length<=1000) (hn:next.length<=1073741824) :
  bD N N t1 yM b1 b2 yL out b3 b4 next p rows b5 b6 vs (vs.length:Int) 0=some (next++vs.map (fun v=>p++[v]),(vs.length:Int)):=by
 have h:=gC (fun k (o:bh) i=>bD N k t1 yM b1 b2 yL out b3 b4 o p rows b5 b6 vs (vs.length:Int) i) vs.length (fun i=>next++(vs.take i).map (fun v=>p++[v])) (next++vs.map (fun v=>p++[v]),(vs.length:Int))
  (fun k i h=>by
   show bD N (k+1) t1 yM b1 b2 yL out b3 b4 (next++(vs.take i).map (fun v=>p++[v])) p rows b5 b6 vs (vs.length:Int) (i:Int)=bD N k t1 yM b1 b2 yL out b3 b4 (next++(vs.take (i+1)).map (fun v=>p++[v])) p rows b5 b6 vs (vs.length:Int) ((i+1:Nat):Int)
   rw [bD,dlt h,ag,be h,bs,DW oa,bs,bA (by decide) (by simp;omega),bs,bA (by decide) (by rw [b8,cD,dh,bT];omega),bs,ad1 oa,bs,AN h,gT])
  (fun k=>by
   show bD N (k+1) t1 yM b1 b2 yL out b3 b4 (next++(vs.take vs.length).map (fun v=>p++[v])) p rows b5 b6 vs (vs.length:Int) (vs.length:Int)=_
   rw [bD,dge oa,am,fC]) N 0 oa oa
 rw [List.take_zero,nS,mP] at h
 exact h
theorem CF (hN:1073741824<=N) {ts:List bE} {n:Nat} {m b1 b4 c:Int} {yL:List bj} {out yM:yQ} (q:QFor ts n yL yM) (ha:dz yL) {rows:bh} {lv:Nat} (hlv:lv<n) (hrow:∀ r∈rows,r.length=lv) (hl:rows.length<=1048576) (hc:0<=c/\c<=1073741824) :
  bC N N (c4 ts yM yL) yM b1 m yL out c b4 [] rows (rows.length:Int) 0=some (c+jP (bR ts yM yL) rows,rows.flatMap (tZ (bR ts yM yL)),(rows.length:Int)):=by
 have hf:=o5 q
 have hn5:=q.n5
 have h4:=q.a4
 have h:=gC (fun k (s:Int × bh) i=>bC N k (c4 ts yM yL) yM b1 m yL out s.1 b4 s.2 rows (rows.length:Int) i) rows.length (fun i=>(c+jP (bR ts yM yL) (rows.take i),(rows.take i).flatMap (tZ (bR ts yM yL)))) (c+jP (bR ts yM yL) rows,rows.flatMap (tZ (bR ts yM yL)),(rows.length:Int))
  (fun k i h=>by
   have hr:=hrow _ (bF h)
   have hll:=vp ts yM yL rows[i]
   have hk:=hf.len rows[i];have h0:=hf.st0 rows[i];have h1:=hf.st1 rows[i]
   have hsb:=Do (g:=fun p=>((bR ts yM yL) p).2) hf.st0 hf.st1 (rows.take i)
   have hsb2:0<=jP (bR ts yM yL) (rows.take i)/\jP (bR ts yM yL) (rows.take i)<=(((rows.take i).length:Nat):Int)*1000:=hsb
   have hfl:=oN (Ie hf) (rows.take i)
   rw [dh] at hsb2 hfl
   show bC N (k+1) (c4 ts yM yL) yM b1 m yL out (c+jP (bR ts yM yL) (rows.take i)) b4 ((rows.take i).flatMap (tZ (bR ts yM yL))) rows (rows.length:Int) (i:Int)=bC N k (c4 ts yM yL) yM b1 m yL out (c+jP (bR ts yM yL) (rows.take (i+1))) b4 ((rows.take (i+1)).flatMap (tZ (bR ts yM yL))) rows (rows.length:Int) ((i+1:Nat):Int)
   rw [bC,dlt h,ag,be h,bs,CP hN q ha oa,bs,si hN oa (fun l hl=>by have:=(tu q l hl).1;omega),bs]
   show ((ad _ ((bR ts yM yL) rows[i]).2).bind fun x501=>(bD N N (c4 ts yM yL) yM b1 m yL out x501 b4 _ rows[i] rows (rows.length:Int) (i:Int) ((bR ts yM yL) rows[i]).1 (((bR ts yM yL) rows[i]).1.length:Int) 0).bind _)=_
   rw [ce oa oa,bs,C9 hN oa oa oa,bs,lpB,DN h,C2 h,<- Int.add_assoc,ad1 oa];rfl)
  (fun k=>by
   show bC N (k+1) (c4 ts yM yL) yM b1 m yL out (c+jP (bR ts yM yL) (rows.take rows.length)) b4 ((rows.take rows.length).flatMap (tZ (bR ts yM yL))) rows (rows.length:Int) (rows.length:Int)=_
   rw [bC,dge oa,am,fC]) N 0 oa oa
 have h':bC N N (c4 ts yM yL) yM b1 m yL out (c+0) b4 [] rows (rows.length:Int) 0=_:=h
 rw [sV] at h'
 exact h'
theorem CN (hN:1073741824<=N) {ts:List bE} {n:Nat} {m:Int} {yL:List bj} {out yM:yQ} (q:QFor ts n yL yM) (ha:dz yL) {len:Nat} (hlen:len<=n) :
  dB N m yL out (c4 ts yM yL) yM (len:Int)=some ((c9 (bR ts yM yL) len []).1,(c9 (bR ts yM yL) len []).2,decide (((c9 (bR ts yM yL) len []).1.length:Int)<=4000)):=by
 have hf:=o5 q
 have hn5:=q.n5
 have h:=gC (fun k (s:bh × Int) i=>bH N k (c4 ts yM yL) yM (len:Int) m yL out s.1 s.2 i) len (fun i=>nu (bR ts yM yL) i [[]] 0) ((nu (bR ts yM yL) len [[]] 0).1,(nu (bR ts yM yL) len [[]] 0).2,(len:Int))
  (fun k i h=>by
   have hw:=vh (bR ts yM yL) i
   have hl:=BT hf i []
   have hs:=sB hf i []
   have hp:16 ^ i<=16 ^ 5:=nR (by decide) oa
   have hb:=C0 (show i<=5 by omega)
   show bH N (k+1) (c4 ts yM yL) yM (len:Int) m yL out (nu (bR ts yM yL) i [[]] 0).1 (nu (bR ts yM yL) i [[]] 0).2 (i:Int)=bH N k (c4 ts yM yL) yM (len:Int) m yL out (nu (bR ts yM yL) (i+1) [[]] 0).1 (nu (bR ts yM yL) (i+1) [[]] 0).2 ((i+1:Nat):Int)
   rw [wC,hw,bH,dlt h,ag,CF hN q ha (show i<n by omega) (fun r hr=>by obtain ⟨s,e1,e⟩:=tz hr;rw [e1];exact e) oa oa,bs,lpB,ad1 oa];rfl)
  (fun k=>by
   show bH N (k+1) (c4 ts yM yL) yM (len:Int) m yL out (nu (bR ts yM yL) len [[]] 0).1 (nu (bR ts yM yL) len [[]] 0).2 (len:Int)=_
   rw [bH,dge oa,am]) N 0 oa oa
 have h':bH N N (c4 ts yM yL) yM (len:Int) m yL out [[]] 0 0=_:=h
 unfold dB
 rw [h',vh,bs,lpB]
end
theorem wX {Ls:bh} {k:Nat} (hk:k<Ls.length):∀ (m:Nat) (A:List Nat) (most:Int) (out:yQ) (s i:Nat),LInv Ls A most out s->i<Ls.length->(s+i) % Ls.length=k ->
  (lq Ls m A most out s).2+Ls.length<=s+i+1+Ls.length*((Ls.getD k []).length-A.getD k 0)
 | 0,A,most,out,s,i,I,hi,e=>by
  have h1:=I.lt k hk
  have h2:=rn Ls.length (show 1<=(Ls.getD k []).length-A.getD k 0 by omega)
  show s+Ls.length<=_
  omega
 | m+1,A,most,out,s,i,I,hi,e=>by
  obtain ⟨hk',ha,hgt,hle,_,h2⟩:=xa I
  have hr:=I.lt k hk
  have hm:=rn Ls.length (show 1<=(Ls.getD k []).length-A.getD k 0 by omega)
  rw [lq]
  by_cases he:lkA Ls A most s=(lkL Ls s).length
  ·rw [aX he]
   show s+1+Ls.length<=_
   omega
  ·rw [a9 he]
   have I':=h2 he
   have hgt':lkP Ls A s<lkA Ls A most s:=hgt
   have hle':lkA Ls A most s<=(lkL Ls s).length:=hle
   cases i with
   | zero =>
    rw [lh] at e
    have e1:(A.set (s % Ls.length) (lkA Ls A most s)).getD k 0=lkA Ls A most s:=by
     rw [e];exact Dh (by rw [I.len];exact hk)
    have e2:lkL Ls s=Ls.getD k []:=by unfold lkL;rw [e]
    have e3:lkP Ls A s=A.getD k 0:=by unfold lkP;rw [e]
    have ih:=wX hk m _ _ (lkO Ls A most out s) (s+1) (Ls.length-1) I' oa (by
     rw [show s+1+(Ls.length-1)=s+Ls.length by omega,Nat.add_mod_right];exact e)
    rw [e1] at ih
    rw [e2] at hle'
    rw [e3] at hgt'
    have hx:=rn Ls.length (show (Ls.getD k []).length-lkA Ls A most s+1<=(Ls.getD k []).length-A.getD k 0 by omega)
    rw [Nat.mul_succ] at hx
    omega
   | succ i =>
    have hne:k≠s % Ls.length:=by
     intro h
     have:=G5 (s:=s) (show 0<i+1 by omega) hi
     rw [lh] at this
     exact this (by rw [e];exact h)
    have e1:(A.set (s % Ls.length) (lkA Ls A most s)).getD k 0=A.getD k 0:=Bh hne
    have ih:=wX hk m _ _ (lkO Ls A most out s) (s+1) i I' oa (by
     rw [show s+1+i=s+(i+1) by omega];exact e)
    rw [e1] at ih
    omega
theorem HB {ls:bh} {l:yQ} (hl:l∈ls):(nD ls).2<=((ls.length*l.length:Nat):Int):=by
 unfold nD
 cases hc:nU ls&&!(shT ls ls.length == 0) with
 | false =>
  rw [am]
  exact zx _
 | true =>
  rw [ag]
  obtain ⟨I,_⟩:=vj hc
  have hm:=nk.2 hl
  obtain ⟨k,hk,e⟩:=gR hm
  have h:=wX hk (o6 (lsO ls (hJ ls ls.length)) (jV ls.length)+1) _ _ _ 0 k I hk (by rw [e9];exact pI hk)
  rw [yw,iP,iT hk,e,uw] at h
  rw [uw] at hk
  have h':(At ls).2+ls.length<=0+k+1+ls.length*l.length:=h
  exact sx.2 oa
theorem vJ:∀ a b:List Nat,smN (a++b)=smN a+smN b
 | [],b=>by rw [List.nil_append];exact (e9 _).symm
 | x :: a,b=>by
  have:=vJ a b
  show x+smN (a++b)=x+smN a+smN b
  omega
theorem Dk {α β:Type} (g:α->List β) (w:β->Nat):∀ L:List α,smN ((L.flatMap g).map w)=smN (L.map fun p=>smN ((g p).map w))
 | []=>rfl
 | p :: L=>by rw [sO,fE,vJ,Dk g w L];rfl
theorem EM {α:Type} (g h:α->Nat):∀ L:List α,smN (L.map fun p=>g p+h p)=smN (L.map g)+smN (L.map h)
 | []=>rfl
 | p :: L=>by
  have:=EM g h L
  show g p+h p+smN (L.map fun p=>g p+h p)=g p+smN (L.map g)+(h p+smN (L.map h))
  omega
theorem Hk {α:Type} {g h:α->Nat}:∀ {L:List α},(∀ x∈L,g x<=h x)->smN (L.map g)<=smN (L.map h)
 | [],_=>bN _
 | p :: L,hx=>by
  have h1:=Hk (L:=L) fun x hm=>hx x (fJ _ hm)
  have h2:=hx p dM
  show g p+smN (L.map g)<=h p+smN (L.map h)
  omega
theorem vQ {α:Type} {g:α->Nat}:∀ {L:List α},(∀ x∈L,g x=0)->smN (L.map g)=0
 | [],_=>rfl
 | p :: L,hx=>by
  have h1:=vQ (L:=L) fun x hm=>hx x (fJ _ hm)
  have h2:=hx p dM
  show g p+smN (L.map g)=0
  omega
theorem En {y:Int}:∀ {K:yQ},K.Nodup->smN (K.map fun x=>if x=y then 1 else 0)<=1
 | [],_=>cE _
 | x :: K,hn=>by
  obtain ⟨n1,n2⟩:=lV.1 hn
  show (if x=y then 1 else 0)+smN (K.map fun x=>if x=y then 1 else 0)<=1
  by_cases h:x=y
  ·rw [aX h,vQ fun z hz=>a9 fun e=>n1 (by rw [h,<- e];exact hz)]
   omega
  ·rw [a9 h]
   have:=En (y:=y) n2
   omega
theorem A2 (r:yQ) (rows:bh) (p:yQ):(fi (r :: rows) p).length=(if r.take p.length=p then 1 else 0)+(fi rows p).length:=by
 unfold fi
 rw [rr]
 by_cases h:r.take p.length=p
 ·rw [aX (by simpa using h),aX h,bW];omega
 ·rw [a9 (by simpa using h),a9 h];omega
theorem BW {p K:yQ} (hn:K.Nodup):∀ rows:bh,smN (K.map fun x=>(fi rows (p++[x])).length)<=(fi rows p).length
 | []=>by
  rw [vQ (g:=fun x=>(fi [] (p++[x])).length) fun x _=>rfl]
  exact cE _
 | r :: rows=>by
  have ih:=BW (p:=p) hn rows
  rw [A2]
  have e:(fun x=>(fi (r :: rows) (p++[x])).length)=fun x=>(if r.take (p++[x]).length=p++[x] then 1 else 0)+(fi rows (p++[x])).length:=funext fun x=>A2 r rows (p++[x])
  rw [e,EM]
  refine Nat.add_le_add ?_ ih
  have h1:∀ x,r.take (p++[x]).length=p++[x]->r.take p.length=p/\x=r.getD p.length 0:=by
   intro x h
   rw [b8] at h
   have h2:=aZ (List.take p.length) h
   rw [List.take_take,wJ,ru (by simp)] at h2
   ·refine ⟨h2,?_⟩
    have h3:=aZ (fun l:yQ=>l.getD p.length 0) h
    simp only [pL,bT] at h3
    rw [List.getElem?_take_of_lt oa] at h3
    simp at h3
    simp [h3]
   ·rfl
  by_cases hp:r.take p.length=p
  ·rw [aX hp]
   refine Nat.le_trans (Hk fun x _=>?_) (En (y:=r.getD p.length 0) hn)
   by_cases h:r.take (p++[x]).length=p++[x]
   ·rw [aX h,aX (h1 x h).2];exact bN _
   ·rw [a9 h];exact cE _
  ·rw [a9 hp,vQ fun x _=>a9 fun h=>hp (h1 x h).1];exact bN _
theorem Kz {f:Nxt} {ι:Type} {cnt:ι->yQ->Nat} {c:Nat->ι->Bool} {L:List ι} {d m:Nat} (hd:0<d) {Good:yQ->Prop} {F:yQ->Nat}
  (hg:∀ p,Good p->p.length<m->∀ x∈(f p).1,Good (p++[x]))
  (h1:∀ p,Good p->p.length<m->∀ i∈L,c p.length i=true->smN ((f p).1.map fun x=>cnt i (p++[x]))<=cnt i p)
  (h2:∀ p,Good p->p.length<m->∀ i∈L,c p.length i=false->∀ x∈(f p).1,cnt i (p++[x])<=cnt i p)
  (hc:∀ k,k<m->d<=(L.filter (c k)).length)
  (hF:∀ p,Good p->p.length=m->F p ^ d<=prN (L.map fun i=>cnt i p)):∀ (k:Nat) (p:yQ),Good p->p.length+k=m->smN ((c9 f k p).1.map F) ^ d<=prN (L.map fun i=>cnt i p)
 | 0,p,g,e=>by
  show (F p+0) ^ d<=_
  exact hF p g e
 | k+1,p,g,e=>by
  have hl:p.length<m:=by omega
  show smN (((f p).1.flatMap fun v=>(c9 f k (p++[v])).1).map F) ^ d<=_
  rw [Dk]
  have h:=Lo (c p.length) hd (hc p.length hl) (F:=fun x=>smN ((c9 f k (p++[x])).1.map F)) (s:=fun i x=>cnt i (p++[x])) (r:=fun i=>cnt i p) (K:=(f p).1)
   (fun x hx=>Kz hd hg h1 h2 hc hF k (p++[x]) (hg p g hl x hx) (by rw [b8,bT];omega))
   (fun i hi hci x hx=>h2 p g hl i hi hci x hx)
  refine Nat.le_trans h (AI fun i hi=>?_)
  cases hci:c p.length i with
  | true=>exact h1 p g hl i hi hci
  | false=>exact bN _
def iV (ts:List bE) (yM:yQ) (yL:List bj) (i:Nat) (p:yQ):Nat:=(fi (jl ts yM (cx yL i)).2 (qz (cx yL i).2 yM p)).length
def qx (yM:yQ) (yL:List bj) (k i:Nat):Bool:=decide (yM.getD k 0∈(cx yL i).2)
structure Cov (yL:List bj) (n:Nat) (L:List Nat) (d:Nat):Prop where
 d0:0<d
 lt:∀ i∈L,i<yL.length
 cov:∀ v:Int,0<=v->v<n->d<=(L.filter fun i=>decide (v∈(cx yL i).2)).length
section
variable {ts:List bE} {n d:Nat} {yL:List bj} {yM:yQ} {L:List Nat}
theorem yY {vs p:yQ} {x:Int}:qz vs yM (p++[x])=bif decide (yM.getD p.length 0∈vs) then qz vs yM p++[x] else qz vs yM p:=by
 unfold qz
 have e:∀ l,l<=p.length->pF vs yM (p++[x]) l=pF vs yM p l:=by
  intro l
  induction l with
  | zero=>intro _;rfl
  | succ l ih =>
   intro hl
   rw [tG,tG,ih oa,bP (xs:=p++[x]) (by rw [b8];omega),bP (xs:=p) oa,List.getElem_append_left oa]
 rw [b8,bT,tG,e _ (bN _),bP (xs:=p++[x]) (by rw [b8,bT];omega),List.getElem_append_right (bN _)]
 simp
def rW (ts:List bE) (yM:yQ) (yL:List bj) (L:List Nat) (p:yQ):Prop:=∀ i∈L,1<=iV ts yM yL i p
theorem Gw (q:QFor ts n yL yM) (C:Cov yL n L d) {k:Nat} (hk:k<n):d<=(L.filter (qx yM yL k)).length:=by
 have hol:=q.ol
 have hb:=(nl q.os).2 (yM.getD k 0) (by rw [bP oa];exact bF _)
 exact C.cov _ oa oa
theorem E2 (q:QFor ts n yL yM) {p:yQ} (hp:p.length<n) {i:Nat} (hi:i<yL.length) (h:qx yM yL p.length i=true):atV ts yM yL p i∈mN ts yM yL p:=by
 unfold mN qx at *
 rw [dN] at h
 exact fK.2 ⟨i,DE.2 ⟨hi,h⟩,rfl⟩
theorem yV (q:QFor ts n yL yM) {p:yQ} (hp:p.length<n) {i:Nat} (hi:i<yL.length) (h:qx yM yL p.length i=true) {x:Int} (hx:x∈(bR ts yM yL p).1):x∈atV ts yM yL p i :=
 (zq (ls:=mN ts yM yL p) (B:=16) fun l hl=>(tu q l hl).1).2.1 x hx _ (E2 q hp hi h)
theorem FZ (q:QFor ts n yL yM) (C:Cov yL n L d) {p:yQ} (g:rW ts yM yL L p) (hp:p.length<n) {x:Int} (hx:x∈(bR ts yM yL p).1):rW ts yM yL L (p++[x]):=by
 intro i hi
 have hil:=C.lt i hi
 unfold iV
 rw [yY]
 cases h:decide (yM.getD p.length 0∈(cx yL i).2) with
 | false=>exact g i hi
 | true =>
  rw [ag]
  have hk:=yV q hp hil h hx
  unfold atV mT at hk
  split at hk
  ·rename_i hlt
   obtain ⟨r,hr,e1,e2⟩:=tE.1 hk
   refine Ar (a:=r) ?_
   unfold fi
   rw [lW,dN]
   refine ⟨hr,?_⟩
   obtain ⟨_,_,h3,_⟩:=qG q (mU hil)
   obtain ⟨_,_,_,h4⟩:=dQ h3
   obtain ⟨j,hj,rfl⟩:=gR hr
   have hrl:=(h4 j hj).1
   rw [b8,bT,gk oa,e1,e2,bP oa]
  ·cases hk
theorem HS {f:Nxt}:∀ {k:Nat} {p r:yQ},r∈(c9 f k p).1->r.length=p.length+k:=by
 intro k p r h
 obtain ⟨s,rfl,hs⟩:=tz h
 rw [b8,hs]
theorem CL (q:QFor ts n yL yM) (C:Cov yL n L d) (g0:rW ts yM yL L []) {m:Nat} (hm:m<=n) {F:yQ->Nat} (hF:∀ p,rW ts yM yL L p->p.length=m->F p ^ d<=prN (L.map fun i=>iV ts yM yL i p)) :
  smN ((c9 (bR ts yM yL) m []).1.map F) ^ d<=prN (L.map fun i=>iV ts yM yL i []):=by
 refine Kz (f:=bR ts yM yL) (cnt:=iV ts yM yL) (c:=qx yM yL) (m:=m) C.d0 (Good:=rW ts yM yL L) (fun p g hp x hx=>FZ q C g oa hx) (fun p g hp i hi hc=>?_) (fun p g hp i hi hc x hx=>?_) (fun k hk=>Gw q C oa) hF m [] g0 (by simp)
 ·have e:(fun x=>iV ts yM yL i (p++[x]))=fun x=>(fi (jl ts yM (cx yL i)).2 (qz (cx yL i).2 yM p++[x])).length:=by
   funext x
   unfold iV
   unfold qx at hc
   rw [yY,hc,ag]
  rw [e]
  exact BW (vq ((o5 q).asc p)) _
 ·unfold iV
  unfold qx at hc
  rw [yY,hc,am]
  exact bN _
theorem EF {ι:Type} {f:ι->Nat}:∀ {L:List ι},(∀ i∈L,1<=f i)->1<=prN (L.map f)
 | [],_=>bN _
 | i :: L,h=>Nat.mul_pos (h i dM) (EF fun j hj=>h j (fJ _ hj))
theorem Ee {ι:Type} {f:ι->Nat} {x:Nat} {c:ι->Bool}:∀ {L:List ι},(∀ i∈L,1<=f i)->(∀ i∈L,c i=true->x<=f i)->x ^ (L.filter c).length<=prN (L.map f)
 | [],_,_=>by rw [List.filter_nil];exact bN _
 | i :: L,h,h2=>by
  have ih:=Ee (L:=L) (f:=f) (x:=x) (c:=c) (fun j hj=>h j (fJ _ hj)) fun j hj=>h2 j (fJ _ hj)
  have hi:=h i dM
  show _<=f i*prN (L.map f)
  cases hc:c i with
  | true =>
   rw [List.filter_cons_of_pos hc,bW,pZ,uz]
   exact l9 (h2 i dM hc) ih
  | false =>
   rw [List.filter_cons_of_neg (by rw [hc];decide)]
   have:=l9 hi ih
   rw [lw] at this
   exact this
theorem Dj {α:Type}:∀ L:List α,smN (L.map fun _=>1)=L.length
 | []=>rfl
 | x :: L=>by
  have:=Dj L
  show 1+smN (L.map fun _=>1)=L.length+1
  omega
theorem JQ (q:QFor ts n yL yM) (C:Cov yL n L d) (g0:rW ts yM yL L []) {m:Nat} (hm:m<=n):(c9 (bR ts yM yL) m []).1.length ^ d<=prN (L.map fun i=>iV ts yM yL i []):=by
 have h:=CL q C g0 hm (F:=fun _=>1) fun p g _=>by
  rw [Nat.one_pow]
  exact EF g
 rw [Dj] at h
 exact h
def stF (f:Nxt) (A:Nat) (p:yQ):Nat:=((f p).2.toNat+(A-1)) / A
theorem Ki (q:QFor ts n yL yM) (C:Cov yL n L d) (g0:rW ts yM yL L []) {m:Nat} (hm:m<n):smN ((c9 (bR ts yM yL) m []).1.map (stF (bR ts yM yL) yL.length)) ^ d<=prN (L.map fun i=>iV ts yM yL i []):=by
 refine CL q C g0 oa fun p g hp=>?_
 have ha:=q.a1
 have hcv:=Gw q C (k:=p.length) oa
 have hle:∀ i∈L,qx yM yL p.length i=true->stF (bR ts yM yL) yL.length p<=iV ts yM yL i p:=by
  intro i hi hc
  have hil:=C.lt i hi
  have h1:=HB (E2 q oa hil hc)
  have h2:=vp ts yM yL p
  have h3:(atV ts yM yL p i).length<=iV ts yM yL i p:=by
   unfold atV mT
   split
   ·unfold r9 iV
    have:=qI (qz (cx yL i).2 yM p).length (fi (jl ts yM (cx yL i)).2 (qz (cx yL i).2 yM p)) []
    rw [fH,e9] at this
    exact this
   ·exact cE _
  have h4:(bR ts yM yL p).2.toNat<=yL.length*iV ts yM yL i p:=by
   have h5:(nD (mN ts yM yL p)).2.toNat<=(mN ts yM yL p).length*(atV ts yM yL p i).length:=by omega
   exact Nat.le_trans h5 (l9 h2 h3)
  unfold stF
  have h6:((bR ts yM yL p).2.toNat+(yL.length-1)) / yL.length<iV ts yM yL i p+1:=by
   rw [Nat.div_lt_iff_lt_mul oa,lY,lw,uz]
   omega
  omega
 have h:=Ee (L:=L) (f:=fun i=>iV ts yM yL i p) (c:=qx yM yL p.length) g hle
 by_cases hz:stF (bR ts yM yL) yL.length p=0
 ·rw [hz,rC C.d0];exact cE _
 ·exact Nat.le_trans (nR oa hcv) h
theorem JL (f:Nxt) (m:Nat):(c9 f (m+1) []).2=(c9 f m []).2+jP f (c9 f m []).1:=by
 rw [<- vh f (m+1),wC,vh]
theorem Dg {f:Nxt} (hf:∀ p,0<=(f p).2) {A:Nat} (hA:0<A):∀ rows:bh,jP f rows<=((A*smN (rows.map (stF f A)):Nat):Int)
 | []=>by unfold jP;exact zx _
 | p :: rows=>by
  have ih:=Dg hf hA rows
  have h0:=hf p
  unfold jP at ih ⊢
  rw [fI,rq,fI]
  show _<=((A*(stF f A p+smN (rows.map (stF f A))):Nat):Int)
  rw [Nat.mul_add]
  have h1:(f p).2.toNat<=A*stF f A p:=by
   unfold stF
   have h2:=Nat.div_add_mod ((f p).2.toNat+(A-1)) A
   have h3:=Nat.mod_lt ((f p).2.toNat+(A-1)) hA
   omega
  omega
theorem Ga (q:QFor ts n yL yM) (C:Cov yL n L d) (g0:rW ts yM yL L []) {m:Nat} (hm:m<=n) :
  ∃ M:Nat,M ^ d<=prN (L.map fun i=>iV ts yM yL i [])/\(c9 (bR ts yM yL) m []).2<=((m*yL.length*M:Nat):Int):=by
 have ha:=q.a1
 have hst:=(o5 q).st0
 induction m with
 | zero=>exact ⟨0,by rw [rC C.d0];exact cE _,by show (0:Int)<=_;exact zx _⟩
 | succ m ih =>
  obtain ⟨M,hM,h⟩:=ih oa
  have h1:=Ki q C g0 (m:=m) oa
  have h2:=Dg (f:=bR ts yM yL) hst (A:=yL.length) oa (c9 (bR ts yM yL) m []).1
  rw [JL]
  generalize smN ((c9 (bR ts yM yL) m []).1.map (stF (bR ts yM yL) yL.length))=S at h1 h2
  refine ⟨max M S,?_,?_⟩
  ·rcases Nat.le_total M S with e | e
   ·rw [Nat.max_eq_right e];exact h1
   ·rw [Nat.max_eq_left e];exact hM
  ·have h3:=rn (m*yL.length) (Nat.le_max_left M S)
   have h4:=rn yL.length (Nat.le_max_right M S)
   have h5:(m+1)*yL.length*max M S=m*yL.length*max M S+yL.length*max M S:=by rw [rp,lY]
   rw [h5]
   omega
end
abbrev c5:=List eD
abbrev fh:=List c5
def bI (m:fh) (i:Nat):c5:=m.getD i []
def aM (r:c5) (j:Nat):eD:=r.getD j (0,0)
def cell (m:fh) (i j:Nat):eD:=aM (bI m i) j
def Shp (n c:Nat) (m:fh):Prop:=m.length=n/\∀ i,i<n->(bI m i).length=c
theorem ixM {m:fh} {i:Nat} (h:i<m.length):ix m (i:Int)=some (bI m i):=by
 rw [be h];unfold bI;simp [h]
theorem jX {r:c5} {j:Nat} (h:j<r.length):ix r (j:Int)=some (aM r j):=by
 rw [be h];unfold aM;simp [h]
theorem vf {α:Type} {xs:List α} {i:Nat} {y:α} (h:i<xs.length):sto xs (i:Int) y=some (xs.set i y):=by
 rw [ub oa oa];rfl
theorem vm {m:fh} {i:Nat} {r:c5} (h:i<m.length) (a:Nat):bI (m.set i r) a=if a=i then r else bI m a:=by
 unfold bI
 by_cases e:a=i
 ·subst e;rw [aX rfl];simp [h]
 ·rw [a9 e];simp [zj (qT e)]
theorem rf {r:c5} {j:Nat} {v:eD} (h:j<r.length) (a:Nat):aM (r.set j v) a=if a=j then v else aM r a:=by
 unfold aM
 by_cases e:a=j
 ·subst e;rw [aX rfl];simp [h]
 ·rw [a9 e];simp [zj (qT e)]
theorem Shp.set {n c:Nat} {m:fh} (h:Shp n c m) {i:Nat} (hi:i<n) {r:c5} (hr:r.length=c):Shp n c (m.set i r):=by
 refine ⟨by rw [gP];exact h.1,fun a ha=>?_⟩
 rw [vm (by rw [h.1];exact hi)]
 split
 ·exact hr
 ·exact h.2 a ha
section
variable {N:Nat}
theorem J0 (hN:1073741824<=N) {n:Nat} (hn:n<=6) {p i:Nat} (hp:p<n) (hi:i<n) (hpi:p≠i) {f:eD}:∀ (c k yO:Nat) (m:fh) (is:Bool),k+c=n+1->c<yO->Shp n (n+1) m ->
  ∃ m' is' z,jd N yO m (p:Int) (i:Int) f.1 f.2 is (k:Int)=some (m',is',z)/\Shp n (n+1) m'/\(is'=true->is=true/\(∀ a,a≠i->bI m' a=bI m a)/\(∀ j,j<k->cell m' i j=cell m i j) /\
   ∀ j,k<=j->j<=n->VR N (cell m' i j)/\rv (cell m' i j)=rv (cell m i j)-rv f*rv (cell m p j)):=by
 intro c
 induction c with
 | zero =>
  intro k yO m is hk hf hs
  obtain ⟨yO,rfl⟩:∃ k',yO=k'+1:=⟨yO-1,oa⟩
  rw [jd,ixM (by rw [hs.1];exact hi),bs,hs.2 i hi,ba oa,am]
  exact ⟨m,is,_,rfl,hs,fun h=>⟨h,fun _ _=>rfl,fun _ _=>rfl,fun j h1 h2=>by omega⟩⟩
 | succ c ih =>
  intro k yO m is hk hf hs
  obtain ⟨yO,rfl⟩:∃ k',yO=k'+1:=⟨yO-1,oa⟩
  have hli:=hs.2 i hi
  have hlp:=hs.2 p hp
  rw [jd,ixM (by rw [hs.1];exact hi),bs,hli,aW oa,ag]
  cases is with
  | false =>
   rw [am]
   exact ⟨m,false,_,rfl,hs,fun h=>by cases h⟩
  | true =>
   obtain ⟨r,ok,e1,h1⟩:=Id hN f (aM (bI m p) k)
   obtain ⟨y,ok2,e2,h2⟩:=MH hN (aM (bI m i) k) r
   have hset:((bI m i).set k y).length=n+1:=by rw [gP];exact hli
   have hs':=hs.set hi hset
   rw [ag,ixM (by rw [hs.1];exact hp),bs,jX oa,bs,e1,bs,bs,jX oa,bs,e2,bs]
   dsimp only
   cases ok with
   | false =>
    rw [am,bs,jX oa,bs,vf oa,bs,vf (by rw [hs.1];exact hi),bs,ce oa oa,bs]
    obtain ⟨m',is',z,e3,h3,h4⟩:=ih (k+1) yO _ false oa oa hs'
    exact ⟨m',is',z,e3,h3,fun h=>absurd (h4 h).1 (by decide)⟩
   | true =>
    rw [ag,bs,jX oa,bs,vf oa,bs,vf (by rw [hs.1];exact hi),bs,ce oa oa,bs]
    obtain ⟨m',is',z,e3,h3,h4⟩:=ih (k+1) yO _ ok2 oa oa hs'
    refine ⟨m',is',z,e3,h3,fun h=>?_⟩
    obtain ⟨k1,k2,k3,k4⟩:=h4 h
    have hM:∀ a,bI (m.set i ((bI m i).set k y)) a=if a=i then (bI m i).set k y else bI m a:=vm (by rw [hs.1];exact hi)
    have hC:∀ j,cell (m.set i ((bI m i).set k y)) i j=if j=k then y else cell m i j:=fun j=>by
     unfold cell
     rw [hM i,aX rfl,rf oa]
    refine ⟨rfl,fun a ha=>?_,fun j hj=>?_,fun j hj hjn=>?_⟩
    ·rw [k2 a ha,hM a,a9 ha]
    ·rw [k3 j oa,hC j,a9 oa]
    ·by_cases e:j=k
     ·subst e
      rw [k3 j oa,hC j,aX rfl]
      obtain ⟨g1,g2,g3,g4⟩:=h2 k1
      obtain ⟨_,_,_,g8⟩:=h1 rfl
      refine ⟨g3,?_⟩
      rw [g4,g8]
      rfl
     ·obtain ⟨g1,g2⟩:=k4 j oa hjn
      rw [hC j,a9 e] at g2
      refine ⟨g1,?_⟩
      rw [g2]
      have:cell (m.set i ((bI m i).set k y)) p j=cell m p j:=by
       unfold cell;rw [hM p,a9 hpi]
      rw [this]
end
def cv (m:fh) (i j:Nat):Rat:=rv (cell m i j)
def eF:Nat->(Nat->Rat)->Rat
 | 0,_=>0
 | n+1,g=>eF n g+g n
theorem gX {g h:Nat->Rat}:∀ {n:Nat},(∀ j,j<n->g j=h j)->eF n g=eF n h
 | 0,_=>rfl
 | n+1,e=>by
  have h1:=gX (n:=n) fun j hj=>e j oa
  have h2:=e n oa
  unfold eF
  rw [h1,h2]
theorem yS {a b y:Nat->Rat} {F:Rat}:∀ n:Nat,eF n (fun j=>(a j-F*b j)*y j)=eF n (fun j=>a j*y j)-F*eF n (fun j=>b j*y j)
 | 0=>by unfold eF;grind
 | n+1=>by
  have:=yS (a:=a) (b:=b) (y:=y) (F:=F) n
  unfold eF
  grind
theorem yg {g:Nat->Rat} {p:Nat}:∀ {n:Nat},p<n->(∀ j,j<n->j≠p->g j=0)->eF n g=g p
 | 0,h,_=>by omega
 | n+1,h,e=>by
  unfold eF
  by_cases hp:p=n
  ·subst hp
   have:eF p g=eF p (fun _=>0):=gX fun j hj=>e j oa oa
   have z:∀ k:Nat,eF k (fun _=>(0:Rat))=0:=fun k=>by
    induction k with
    | zero=>rfl
    | succ k ih=>unfold eF;rw [ih];grind
   rw [this,z];grind
  ·rw [yg oa fun j hj=>e j oa,e n oa oa];grind
def vC (n:Nat) (m:fh) (y:Nat->Rat):Prop:=∀ i,i<n->eF n (fun j=>cv m i j*y j)=cv m i n
def Ag (n p:Nat) (m:fh):Prop:=∀ i,i<n->∀ q,q<p->i≠q->cv m i q=0
section
variable {N:Nat}
theorem ES {r:eD} (h:r.1=0):rv r=0:=by
 unfold rv
 rw [h]
 have:((0:Int):Rat)=0:=rfl
 rw [this,nO,wz]
theorem Jq (hN:1073741824<=N) {n:Nat} (hn:n<=6) {p:Nat} (hp:p<n):∀ (c i yO:Nat) (m:fh),i+c=n->c<yO->Shp n (n+1) m ->
  ∃ s,gY N yO m (p:Int) (i:Int)=some s/\((∃ m',s=.inl (false,m')/\Shp n (n+1) m')\/∃ m' z,s=.inr (m',z)/\Shp n (n+1) m'/\bI m' p=bI m p/\(∀ a,a<i->bI m' a=bI m a) /\
   ∀ a,i<=a->a<n->a≠p->∃ F:Rat,(∀ j,j<p->cv m' a j=cv m a j)/\(∀ j,p<=j->j<=n->cv m' a j=cv m a j-F*cv m p j)/\cv m' a p=0):=by
 intro c
 induction c with
 | zero =>
  intro i yO m hi hf hs
  obtain ⟨yO,rfl⟩:∃ k',yO=k'+1:=⟨yO-1,oa⟩
  rw [gY,hs.1,ba oa,am]
  exact ⟨_,rfl,.inr ⟨m,_,rfl,hs,rfl,fun _ _=>rfl,fun a h1 h2=>by omega⟩⟩
 | succ c ih =>
  intro i yO m hi hf hs
  obtain ⟨yO,rfl⟩:∃ k',yO=k'+1:=⟨yO-1,oa⟩
  have hin:i<n:=by omega
  have hli:=hs.2 i hin
  have hlp:=hs.2 p hp
  rw [gY,hs.1,aW oa,ag]
  by_cases e:i=p
  ·rw [show ((i:Int) == (p:Int))=true by rw [qR];omega,ag,ce oa oa,bs]
   obtain ⟨s,e1,h1⟩:=ih (i+1) yO m oa oa hs
   refine ⟨s,e1,h1.imp id ?_⟩
   rintro ⟨m',z,k1,k2,k3,k4,k5⟩
   exact ⟨m',z,k1,k2,k3,fun a ha=>k4 a oa,fun a h1 h2 h3=>k5 a oa h2 h3⟩
  ·rw [show ((i:Int) == (p:Int))=false by rw [qU];omega,am,ixM (by rw [hs.1];exact hin),bs,jX oa,bs]
   by_cases h0:(aM (bI m i) p).1=0
   ·rw [show ((aM (bI m i) p).1 == 0)=true by rw [qR];exact h0,ag,ce oa oa,bs]
    obtain ⟨s,e1,h1⟩:=ih (i+1) yO m oa oa hs
    refine ⟨s,e1,h1.imp id ?_⟩
    rintro ⟨m',z,k1,k2,k3,k4,k5⟩
    refine ⟨m',z,k1,k2,k3,fun a ha=>k4 a oa,fun a h1 h2 h3=>?_⟩
    by_cases ea:a=i
    ·subst ea
     have hrow:=k4 a oa
     have hc:∀ j,cv m' a j=cv m a j:=fun j=>by unfold cv cell;rw [hrow]
     refine ⟨0,fun j _=>hc j,fun j _ _=>by rw [hc j];grind,?_⟩
     rw [hc p]
     exact ES h0
    ·exact k5 a oa h2 h3
   ·rw [show ((aM (bI m i) p).1 == 0)=false by rw [qU];exact h0,am,bs,jX oa,bs,ixM (by rw [hs.1];exact hp),bs,jX oa,bs]
    obtain ⟨f,ok,e2,h2⟩:=LC hN (aM (bI m i) p) (aM (bI m p) p)
    rw [e2,bs]
    dsimp only
    obtain ⟨m2,is2,z2,e3,hs2,h3⟩:=J0 hN hn hp hin (fun h=>e h.symm) (f:=f) (n+1-p) p N m ok oa oa hs
    rw [e3,bs,lpB]
    cases is2 with
    | false =>
     rw [am]
     exact ⟨_,rfl,.inl ⟨m2,rfl,hs2⟩⟩
    | true =>
     rw [ag,ce oa oa,bs]
     obtain ⟨g1,g2,g3,g4⟩:=h3 rfl
     obtain ⟨_,_,_,_,hf⟩:=h2 g1
     obtain ⟨s,e1,h1⟩:=ih (i+1) yO m2 oa oa hs2
     refine ⟨s,e1,h1.imp id ?_⟩
     rintro ⟨m',z,k1,k2,k3,k4,k5⟩
     have hpi:p≠i:=fun h=>e h.symm
     have hP:∀ j,cv m2 p j=cv m p j:=fun j=>by unfold cv cell;rw [g2 p hpi]
     refine ⟨m',z,k1,k2,k3.trans (g2 p hpi),fun a ha=>(k4 a oa).trans (g2 a oa),fun a h1 h2 h3=>?_⟩
     by_cases ea:a=i
     ·subst ea
      have hrow:=k4 a oa
      have hc:∀ j,cv m' a j=cv m2 a j:=fun j=>by unfold cv cell;rw [hrow]
      have hv:∀ j,p<=j->j<=n->cv m' a j=cv m a j-rv f*cv m p j:=fun j h4 h5=>by
       rw [hc j];exact (g4 j h4 h5).2
      refine ⟨rv f,fun j hj=>?_,hv,?_⟩
      ·rw [hc j];unfold cv;rw [g3 j hj]
      ·rw [hv p oa oa]
       have:rv f*cv m p p=cv m a p:=hf
       rw [this];grind
     ·obtain ⟨F,f1,f2,f3⟩:=k5 a oa h2 h3
      have hA:∀ j,cv m2 a j=cv m a j:=fun j=>by unfold cv cell;rw [g2 a ea]
      exact ⟨F,fun j hj=>by rw [f1 j hj,hA j],fun j h4 h5=>by rw [f2 j h4 h5,hA j,hP j],f3⟩
theorem J6 (hN:1073741824<=N) {n:Nat} (hn:n<=6) {p:Nat} (hp:p<n) {m:fh} (hs:Shp n (n+1) m) (hd:Ag n p m) :
  ∃ ok m',nX N m (p:Int)=some (ok,m')/\Shp n (n+1) m'/\(ok=true->Ag n (p+1) m'/\∀ y,vC n m y↔vC n m' y):=by
 unfold nX
 obtain ⟨s,e,h⟩:=Jq hN hn hp n 0 N m oa oa hs
 have e':gY N N m (p:Int) 0=some s:=e
 rw [e',bs]
 rcases h with ⟨m',rfl,h1⟩ | ⟨m',z,rfl,h1,h2,_,h3⟩
 ·rw [lN]
  exact ⟨_,_,rfl,h1,fun h=>by cases h⟩
 ·rw [iW]
  refine ⟨_,_,rfl,h1,fun _=>?_⟩
  have hP:∀ j,cv m' p j=cv m p j:=fun j=>by unfold cv cell;rw [h2]
  have hall:∀ a,a<n->a≠p->∃ F:Rat,(∀ j,j<=n->cv m' a j=cv m a j-F*cv m p j)/\cv m' a p=0:=by
   intro a ha hap
   obtain ⟨F,f1,f2,f3⟩:=h3 a oa ha hap
   refine ⟨F,fun j hj=>?_,f3⟩
   by_cases hjp:j<p
   ·rw [f1 j hjp,hd p hp j hjp oa];grind
   ·exact f2 j oa hj
  refine ⟨fun i hi q hq hiq=>?_,fun y=>⟨fun h i hi=>?_,fun h i hi=>?_⟩⟩
  ·by_cases e1:i=p
   ·subst e1
    rw [hP q]
    exact hd i hi q oa hiq
   ·obtain ⟨F,f1,f2⟩:=hall i hi e1
    by_cases e2:q=p
    ·subst e2;exact f2
    ·rw [f1 q oa,hd i hi q oa hiq,hd p hp q oa oa];grind
  ·by_cases e1:i=p
   ·subst e1
    rw [hP n,<- h i hi]
    exact gX fun j _=>by rw [hP j]
   ·obtain ⟨F,f1,_⟩:=hall i hi e1
    rw [gX (h:=fun j=>(cv m i j-F*cv m p j)*y j) fun j hj=>by rw [f1 j oa],yS,h i hi,h p hp,f1 n oa]
  ·by_cases e1:i=p
   ·subst e1
    rw [<- hP n,<- h i hi]
    exact gX fun j _=>by rw [hP j]
   ·obtain ⟨F,f1,_⟩:=hall i hi e1
    have h4:=h i hi
    have h5:=h p hp
    rw [gX (h:=fun j=>(cv m i j-F*cv m p j)*y j) fun j hj=>by rw [f1 j oa],yS,f1 n oa] at h4
    rw [gX (h:=fun j=>cv m p j*y j) fun j _=>by rw [hP j],hP n] at h5
    grind
end
section
variable {N:Nat}
theorem Jg {n:Nat} (hn:n<=6) {p:Nat} (hp:p<n) {m:fh} (hs:Shp n (n+1) m):∀ (c k yO:Nat),k+c=n->c<yO->∃ q:Nat,fX N yO (n:Int) m (p:Int) (k:Int)=some (q:Int)/\k<=q/\q<=n:=by
 intro c
 induction c with
 | zero =>
  intro k yO hk hf
  obtain ⟨yO,rfl⟩:∃ k',yO=k'+1:=⟨yO-1,oa⟩
  rw [fX,ba oa,am]
  exact ⟨k,rfl,bN k,oa⟩
 | succ c ih =>
  intro k yO hk hf
  obtain ⟨yO,rfl⟩:∃ k',yO=k'+1:=⟨yO-1,oa⟩
  rw [fX,aW oa,ag,ixM (by rw [hs.1];omega),bs,jX (by rw [hs.2 k oa];omega),bs]
  cases (aM (bI m k) p).1 == 0 with
  | true =>
   rw [ag,ce oa oa,bs]
   obtain ⟨q,e,h1,h2⟩:=ih (k+1) yO oa oa
   exact ⟨q,e,oa,h2⟩
  | false =>
   rw [am]
   exact ⟨k,rfl,bN k,oa⟩
theorem I6 (hN:1073741824<=N) {n:Nat} (hn:n<=6):∀ (c p yO:Nat) (m:fh),p+c=n->c<yO->Shp n (n+1) m->Ag n p m ->
  ∃ s,eW N yO (n:Int) m (p:Int)=some s/\(s=.inl ([],false)\/∃ m' z,s=.inr (m',z)/\Shp n (n+1) m'/\Ag n n m'/\∀ y,vC n m y↔vC n m' y):=by
 intro c
 induction c with
 | zero =>
  intro p yO m hpc hf hs hd
  obtain ⟨yO,rfl⟩:∃ k',yO=k'+1:=⟨yO-1,oa⟩
  obtain rfl:p=n:=by omega
  rw [eW,ba oa,am]
  exact ⟨_,rfl,.inr ⟨m,_,rfl,hs,hd,fun _=>Iff.rfl⟩⟩
 | succ c ih =>
  intro p yO m hpc hf hs hd
  obtain ⟨yO,rfl⟩:∃ k',yO=k'+1:=⟨yO-1,oa⟩
  have hp:p<n:=by omega
  obtain ⟨k,e1,hk1,hk2⟩:=Jg (N:=N) hn hp hs (n-p) p N oa oa
  rw [eW,aW oa,ag,e1,bs,lpB]
  by_cases hkn:k=n
  ·rw [show ((k:Int) == (n:Int))=true by rw [qR];omega,ag]
   exact ⟨_,rfl,.inl rfl⟩
  ·have hk:k<n:=by omega
   have hml:=hs.1
   rw [show ((k:Int) == (n:Int))=false by rw [qU];omega,am,ixM oa,bs,ixM oa,bs,bs,vf oa,bs,vf (by rw [gP];omega),bs]
   have hs1:Shp n (n+1) (m.set k (bI m p)):=hs.set hk (hs.2 p hp)
   have hs2:Shp n (n+1) ((m.set k (bI m p)).set p (bI m k)):=hs1.set hp (hs.2 k hk)
   have hR:∀ a,bI ((m.set k (bI m p)).set p (bI m k)) a=if a=p then bI m k else if a=k then bI m p else bI m a:=fun a=>by
    rw [vm (by rw [gP];omega),vm oa]
   generalize (m.set k (bI m p)).set p (bI m k)=m2 at hs2 hR
   have hC:∀ a j,cv m2 a j=if a=p then cv m k j else if a=k then cv m p j else cv m a j:=fun a j=>by
    unfold cv cell
    rw [hR a]
    split
    ·rfl
    ·split <;> rfl
   have hd2:Ag n p m2:=fun i hi q hq hiq=>by
    rw [hC i q]
    split
    ·exact hd k hk q hq oa
    ·split
     ·exact hd p hp q hq oa
     ·exact hd i hi q hq hiq
   have hsol:∀ y,vC n m y↔vC n m2 y:=fun y=>by
    have key:∀ a b,(∀ j,cv m2 a j=cv m b j)->(eF n (fun j=>cv m2 a j*y j)=cv m2 a n↔eF n (fun j=>cv m b j*y j)=cv m b n):=fun a b h=>by
     rw [h n,gX (g:=fun j=>cv m2 a j*y j) (h:=fun j=>cv m b j*y j) fun j _=>by rw [h j]]
    have kp:=key p k fun j=>by rw [hC p j,aX rfl]
    have kk:eF n (fun j=>cv m2 k j*y j)=cv m2 k n↔eF n (fun j=>cv m p j*y j)=cv m p n:=by
     by_cases e:k=p
     ·subst e;exact kp
     ·exact key k p fun j=>by rw [hC k j,a9 e,aX rfl]
    constructor
    ·intro h i hi
     by_cases e1:i=p
     ·subst e1;exact kp.2 (h k hk)
     ·by_cases e2:i=k
      ·subst e2;exact kk.2 (h p hp)
      ·exact (key i i fun j=>by rw [hC i j,a9 e1,a9 e2]).2 (h i hi)
    ·intro h i hi
     by_cases e1:i=p
     ·subst e1;exact kk.1 (h k hk)
     ·by_cases e2:i=k
      ·subst e2;exact kp.1 (h p hp)
      ·exact (key i i fun j=>by rw [hC i j,a9 e1,a9 e2]).1 (h i hi)
   obtain ⟨ok,m3,e3,hs3,h3⟩:=J6 hN hn hp hs2 hd2
   rw [e3,bs]
   dsimp only
   cases ok with
   | false =>
    rw [am]
    exact ⟨_,rfl,.inl rfl⟩
   | true =>
    obtain ⟨h4,h5⟩:=h3 rfl
    rw [ag,ce oa oa,bs]
    obtain ⟨s,e6,h6⟩:=ih (p+1) yO m3 oa oa hs3 h4
    refine ⟨s,e6,h6.imp id ?_⟩
    rintro ⟨m',z,k1,k2,k3,k4⟩
    exact ⟨m',z,k1,k2,k3,fun y=>(hsol y).trans ((h5 y).trans (k4 y))⟩
theorem tH {o:c5} {v:eD} {j:Nat} (h:j<o.length):aM (o++[v]) j=aM o j:=by
 unfold aM;simp [uQ h]
theorem rO {o:c5} {v:eD}:aM (o++[v]) o.length=v:=by
 unfold aM;simp
theorem Ke (hN:1073741824<=N) {n:Nat} (hn:n<=6) {m:fh} (hs:Shp n (n+1) m):∀ (c p yO:Nat) (o:c5),p+c=n->c<yO->o.length=p ->
  ∃ s,eZ N yO (n:Int) m o (p:Int)=some s/\(s=.inl ([],false)\/∃ o' z,s=.inr (o',z)/\o'.length=n/\(∀ j,j<p->aM o' j=aM o j) /\
   ∀ j,p<=j->j<n->VR N (aM o' j)/\cv m j j≠0/\rv (aM o' j)*cv m j j=cv m j n):=by
 intro c
 induction c with
 | zero =>
  intro p yO o hpc hf ho
  obtain ⟨yO,rfl⟩:∃ k',yO=k'+1:=⟨yO-1,oa⟩
  rw [eZ,ba oa,am]
  exact ⟨_,rfl,.inr ⟨o,_,rfl,oa,fun _ _=>rfl,fun j h1 h2=>by omega⟩⟩
 | succ c ih =>
  intro p yO o hpc hf ho
  obtain ⟨yO,rfl⟩:∃ k',yO=k'+1:=⟨yO-1,oa⟩
  have hp:p<n:=by omega
  have hlp:=hs.2 p hp
  obtain ⟨r,ok,e,h⟩:=LC hN (aM (bI m p) n) (aM (bI m p) p)
  rw [eZ,aW oa,ag,ixM (by rw [hs.1];omega),bs,jX oa,bs,bs,jX oa,bs,e,bs]
  dsimp only
  cases ok with
  | false =>
   rw [am]
   exact ⟨_,rfl,.inl rfl⟩
  | true =>
   rw [ag,bA (by decide) (by rw [bT];omega),bs,ce oa oa,bs]
   obtain ⟨s,e1,h1⟩:=ih (p+1) yO (o++[(r.1,r.2)]) oa oa (by rw [b8,bT];omega)
   refine ⟨s,e1,h1.imp id ?_⟩
   rintro ⟨o',z,k1,k2,k3,k4⟩
   refine ⟨o',z,k1,k2,fun j hj=>by rw [k3 j oa,tH oa],fun j h1 h2=>?_⟩
   by_cases ej:j=p
   ·subst ej
    have hr:aM o' j=r:=by
     rw [k3 j oa,<- ho,rO]
    obtain ⟨g1,g2,g3,g4,g5⟩:=h rfl
    rw [hr]
    refine ⟨g3,?_,g5⟩
    intro h0
    have hd:=nT hN g2
    have hz:(((aM (bI m j) j).1:Int):Rat)≠0:=fun e=>g4 (uM.1 e)
    have:rv (aM (bI m j) j)=0:=h0
    unfold rv at this
    grind
   ·exact k4 j oa h2
theorem LR (hN:1073741824<=N) {n:Nat} (hn:n<=6) {A:fh} (hA:Shp n n A) {b:c5} (hb:b.length=n):∀ (c i yO:Nat) (m:fh),i+c=n->c<yO->m.length=i ->
  ∃ s,eR N yO A b (n:Int) m (i:Int)=some s/\(s=.inl ([],false)\/∃ m' z,s=.inr (m',z)/\m'.length=n/\(∀ a,a<i->bI m' a=bI m a)/\∀ a,i<=a->a<n->bI m' a=bI A a++[aM b a]):=by
 intro c
 induction c with
 | zero =>
  intro i yO m hic hf hm
  obtain ⟨yO,rfl⟩:∃ k',yO=k'+1:=⟨yO-1,oa⟩
  rw [eR,ba oa,am]
  exact ⟨_,rfl,.inr ⟨m,_,rfl,oa,fun _ _=>rfl,fun a h1 h2=>by omega⟩⟩
 | succ c ih =>
  intro i yO m hic hf hm
  obtain ⟨yO,rfl⟩:∃ k',yO=k'+1:=⟨yO-1,oa⟩
  have hi:i<n:=by omega
  have hAl:=hA.2 i hi
  rw [eR,aW oa,ag,jX oa,bs]
  rcases oV hN (aM b i) with hv | hv
  ·unfold VR at hv
   rw [hv,bs,ag,ixM (by rw [hA.1];exact hi),bs,bs,bA (by decide) (by rw [fH];omega),bs,bA (by decide) (by rw [b8,fH,bT];omega),bs,bA (by decide) (by rw [bT];omega),bs,ce oa oa,bs]
   obtain ⟨s,e1,h1⟩:=ih (i+1) yO (m++[[]++bI A i++[((aM b i).1,(aM b i).2)]]) oa oa (by rw [b8,bT];omega)
   refine ⟨s,e1,h1.imp id ?_⟩
   rintro ⟨m',z,k1,k2,k3,k4⟩
   have hr1:∀ a,a<i->bI (m++[[]++bI A i++[((aM b i).1,(aM b i).2)]]) a=bI m a:=fun a ha=>by
    unfold bI;simp [uQ (show a<m.length by omega)]
   have hr2:bI (m++[[]++bI A i++[((aM b i).1,(aM b i).2)]]) i=bI A i++[aM b i]:=by
    unfold bI;subst hm;simp
   refine ⟨m',z,k1,k2,fun a ha=>(k3 a oa).trans (hr1 a ha),fun a h1 h2=>?_⟩
   by_cases ea:a=i
   ·subst ea
    rw [k3 a oa,hr2]
   ·exact k4 a oa h2
  ·rw [hv,bs,am]
   exact ⟨_,rfl,.inl rfl⟩
def Ig (N:Nat) (A:fh) (c:Nat):Prop:=∀ i,i<A.length->(bI A i).length=c/\∀ j,j<c->VR N (cell A i j)
theorem LW (hN:1073741824<=N) {A:fh} {c:Nat} (hc:c<=1000) {i:Nat} (hi:i<A.length) (hl:(bI A i).length=c):∀ (d j yO:Nat) (x:Int),j+d=c->d<yO ->
  ∃ s,il N yO A x (c:Int) (i:Int) (j:Int)=some s/\((s=.inl false/\∃ q,j<=q/\q<c/\¬ VR N (cell A i q))\/∃ z,s=.inr z/\∀ q,j<=q->q<c->VR N (cell A i q)):=by
 intro d
 induction d with
 | zero =>
  intro j yO x hj hf
  obtain ⟨yO,rfl⟩:∃ k',yO=k'+1:=⟨yO-1,oa⟩
  rw [il,ba oa,am]
  exact ⟨_,rfl,.inr ⟨_,rfl,fun q h1 h2=>by omega⟩⟩
 | succ d ih =>
  intro j yO x hj hf
  obtain ⟨yO,rfl⟩:∃ k',yO=k'+1:=⟨yO-1,oa⟩
  rw [il,aW oa,ag,ixM hi,bs,jX oa,bs]
  rcases oV hN (aM (bI A i) j) with hv | hv
  ·have hv':=hv
   unfold VR at hv'
   rw [hv',bs,ag,ce oa oa,bs]
   obtain ⟨s,e,h⟩:=ih (j+1) yO x oa oa
   refine ⟨s,e,?_⟩
   rcases h with ⟨h1,q,h2,h3,h4⟩ | ⟨z,h1,h2⟩
   ·exact .inl ⟨h1,q,oa,h3,h4⟩
   ·refine .inr ⟨z,h1,fun q g1 g2=>?_⟩
    by_cases e:q=j
    ·subst e;exact hv
    ·exact h2 q oa g2
  ·rw [hv,bs,am]
   refine ⟨_,rfl,.inl ⟨rfl,j,bN j,oa,fun h=>?_⟩⟩
   unfold VR cell at h
   rw [hv] at h;cases h
theorem Mq (hN:1073741824<=N) {A:fh} (hA:A.length<=1000) {c:Nat} (hc:c<=1000):∀ (d i yO:Nat) (x:Int),i+d=A.length->d<yO ->
  ∃ s,im N yO A x (c:Int) (i:Int)=some s/\((s=.inl false/\¬ Ig N A c)\/∃ z,s=.inr z/\∀ q,i<=q->q<A.length->(bI A q).length=c/\∀ j,j<c->VR N (cell A q j)):=by
 intro d
 induction d with
 | zero =>
  intro i yO x hi hf
  obtain ⟨yO,rfl⟩:∃ k',yO=k'+1:=⟨yO-1,oa⟩
  rw [im,ba oa,am]
  exact ⟨_,rfl,.inr ⟨_,rfl,fun q h1 h2=>by omega⟩⟩
 | succ d ih =>
  intro i yO x hi hf
  obtain ⟨yO,rfl⟩:∃ k',yO=k'+1:=⟨yO-1,oa⟩
  have hil:i<A.length:=by omega
  rw [im,aW oa,ag,ixM hil,bs]
  by_cases hl:(bI A i).length=c
  ·rw [show (((bI A i).length:Int) != (c:Int))=false by rw [pW];omega,am]
   obtain ⟨s,e,h⟩:=LW hN hc hil hl c 0 N x oa oa
   have e':il N N A x (c:Int) (i:Int) 0=some s:=e
   rw [e',bs]
   rcases h with ⟨rfl,q,_,h3,h4⟩ | ⟨z,rfl,h2⟩
   ·rw [lN]
    exact ⟨_,rfl,.inl ⟨rfl,fun h=>h4 ((h i hil).2 q h3)⟩⟩
   ·rw [iW,ce oa oa,bs]
    obtain ⟨s,e,h⟩:=ih (i+1) yO x oa oa
    refine ⟨s,e,h.imp id ?_⟩
    rintro ⟨z,h5,h6⟩
    refine ⟨z,h5,fun q g1 g2=>?_⟩
    by_cases e:q=i
    ·subst e;exact ⟨hl,fun j hj=>h2 j oa hj⟩
    ·exact h6 q oa g2
  ·rw [show (((bI A i).length:Int) != (c:Int))=true by rw [bne_iff_ne];omega,ag]
   exact ⟨_,rfl,.inl ⟨rfl,fun h=>hl (h i hil).1⟩⟩
theorem Cg (hN:1073741824<=N) {A:fh} (hA:A.length<=1000) {c:Nat} (hc:c<=1000) (n:Nat):∃ b,gD N A (n:Int) (c:Int)=some b/\(b=true↔Ig N A c/\A.length=n):=by
 unfold gD
 obtain ⟨s,e,h⟩:=Mq hN hA hc A.length 0 N (n:Int) oa oa
 have e':im N N A (n:Int) (c:Int) 0=some s:=e
 rw [e',bs]
 rcases h with ⟨rfl,h⟩ | ⟨z,rfl,h⟩
 ·rw [lN]
  exact ⟨false,rfl,fun h=>(by cases h),fun h2=>absurd h2.1 h⟩
 ·rw [iW]
  refine ⟨_,rfl,?_⟩
  rw [qR]
  exact ⟨fun h2=>⟨fun i hi=>h i oa hi,oa⟩,fun h2=>by omega⟩
theorem Ae (hN:1073741824<=N) {n:Nat} (hn:n<=6) {A:fh} (hA:Shp n n A) {b:c5} (hb:b.length=n) :
  ∃ x ok,dZ N A b=some (x,ok)/\(ok=true->x.length=n/\(∀ j,j<n->VR N (aM x j)) /\
   ∀ y:Nat->Rat,(∀ i,i<n->eF n (fun j=>cv A i j*y j)=rv (aM b i))↔∀ j,j<n->y j=rv (aM x j)):=by
 have hAl:=hA.1
 unfold dZ
 rw [ba oa,am,hb]
 obtain ⟨q,e0,_⟩:=Cg hN (A:=A) oa (c:=n) oa n
 rw [e0,bs]
 cases q with
 | false=>exact ⟨_,_,rfl,fun h=>by cases h⟩
 | true =>
  rw [ag]
  obtain ⟨s1,e1,h1⟩:=LR hN hn hA hb n 0 N [] oa oa rfl
  have e1':eR N N A b (n:Int) [] 0=some s1:=e1
  rw [e1',bs]
  rcases h1 with rfl | ⟨m,z,rfl,hm,_,hr⟩
  ·rw [lN];exact ⟨_,_,rfl,fun h=>by cases h⟩
  ·rw [iW]
   have hs:Shp n (n+1) m:=⟨hm,fun i hi=>by rw [hr i oa hi,b8,hA.2 i hi,bT]⟩
   have hc1:∀ i j,i<n->j<n->cv m i j=cv A i j:=fun i j hi hj=>by
    unfold cv cell
    rw [hr i oa hi,tH (by rw [hA.2 i hi];exact hj)]
   have hc2:∀ i,i<n->cv m i n=rv (aM b i):=fun i hi=>by
    unfold cv cell
    have:=hA.2 i hi
    rw [hr i oa hi,<- this,rO]
   obtain ⟨s2,e2,h2⟩:=I6 hN hn n 0 N m oa oa hs (fun i _ q hq=>by omega)
   have e2':eW N N (n:Int) m 0=some s2:=e2
   dsimp only
   rw [e2',bs]
   rcases h2 with rfl | ⟨m',z',rfl,hs',hd,hsol⟩
   ·rw [lN];exact ⟨_,_,rfl,fun h=>by cases h⟩
   ·rw [iW]
    obtain ⟨s3,e3,h3⟩:=Ke hN hn hs' n 0 N [] oa oa rfl
    have e3':eZ N N (n:Int) m' [] 0=some s3:=e3
    dsimp only
    rw [e3',bs]
    rcases h3 with rfl | ⟨o,z'',rfl,ho,_,h4⟩
    ·rw [lN];exact ⟨_,_,rfl,fun h=>by cases h⟩
    ·rw [iW]
     refine ⟨_,_,rfl,fun _=>⟨ho,fun j hj=>(h4 j oa hj).1,fun y=>?_⟩⟩
     have k1:(∀ i,i<n->eF n (fun j=>cv A i j*y j)=rv (aM b i))↔vC n m y:=by
      unfold vC
      constructor
      ·intro h i hi
       rw [gX (h:=fun j=>cv A i j*y j) fun j hj=>by rw [hc1 i j hi hj],hc2 i hi]
       exact h i hi
      ·intro h i hi
       rw [<- hc2 i hi,<- h i hi]
       exact gX fun j hj=>by rw [hc1 i j hi hj]
     rw [k1,hsol y]
     unfold vC
     have k2:∀ i,i<n->eF n (fun j=>cv m' i j*y j)=cv m' i i*y i:=fun i hi=>yg hi fun j hj hji=>by
      rw [hd i hi j hj (fun e=>hji e.symm)];exact wz _
     constructor
     ·intro h j hj
      have h5:=h j hj
      rw [k2 j hj] at h5
      obtain ⟨_,g2,g3⟩:=h4 j oa hj
      grind
     ·intro h i hi
      rw [k2 i hi,h i hi]
      obtain ⟨_,g2,g3⟩:=h4 i oa hi
      rw [<- g3,Rat.mul_comm]
end
section
variable {N:Nat}
theorem nh (hN:1073741824<=N) {v:Int} (h1:-1000000000<=v) (h2:v<=1000000000):VR N (v,1) :=
 (iG hN).2 ⟨(by decide:(1:Int)<=1),(by decide:(1:Int)<=1000000000),h1,h2,Int.gcd_one⟩
theorem pu (v:Int):rv (v,1)=(v:Rat):=by
 unfold rv
 have:((1:Int):Rat)=1:=rfl
 show (v:Rat) / ((1:Int):Rat)=_
 rw [this];grind
theorem LD (hN:1073741824<=N) {n:Int} (h1:-1000000000<=n) (h2:n<=1000000000):fo N n 1=some ((n,1),true):=by
 obtain ⟨a1,a2,a3⟩:=xn n
 obtain ⟨g,e,g1,g2,g3,g4⟩:=ut (N:=N) hN a1 (by decide:(0:Int)<=1) (by decide)
 have hg:g=1:=by
  have:=g3 (.inr (by decide))
  have:=ry (by decide) g2
  omega
 subst hg
 have hv:=nh hN h1 h2
 unfold VR at hv
 have q1:qt n 1=some n:=by
  unfold qt;rw [aX ⟨by decide,by rw [Int.tdiv_one];exact pQ oa oa⟩,Int.tdiv_one]
 have q2:qt 1 1=some 1:=rfl
 unfold fo
 rw [show ((1:Int) == 0)=false from rfl,am,eu oa oa,bs,fg,bs,show inR n (0-4000000000000000000) 4000000000000000000=true from cg.2 oa,ag,bs,fg,bs,show inR 1 (0-4000000000000000000) 4000000000000000000=true from cg.2 oa,ag,show decide ((1:Int)<0)=false from rfl,am,eu oa oa,bs,e,bs,q1,bs,q2,bs,hv,bs,ag]
theorem FF (hN:1073741824<=N) {a b:Int} (h1:0<=a) (h2:a<=1000) (h3:0<=b) (h4:b<=1000):eC N a 1 b 1=some ((a*b,1),true):=by
 have m:=nq (a:=a) (b:=b) oa oa oa oa
 have ha:=nh hN (v:=a) oa oa
 have hb:=nh hN (v:=b) oa oa
 have m2:0<=a*b:=nY h1 h3
 have m3:a*b<=1000*1000:=lB h2 h4 h3 (by decide)
 unfold VR at ha hb
 unfold eC
 rw [ha,bs,ag,hb,bs,ag,eh oa oa,bs,show ml 1 1=some 1 from rfl,bs,LD hN oa oa,bs]
theorem MA (hN:1073741824<=N) {a b:Int} (h1:0<=a) (h2:a<=10000000) (h3:0<=b) (h4:b<=10000000):fj N a 1 b 1=some ((a+b,1),true):=by
 have ha:=nh hN (v:=a) oa oa
 have hb:=nh hN (v:=b) oa oa
 unfold VR at ha hb
 unfold fj
 rw [ha,bs,ag,hb,bs,ag,eh oa oa,bs,eh oa oa,bs,sw,sw,ce oa oa,bs,show ml 1 1=some 1 from rfl,bs,LD hN oa oa,bs]
theorem KB (hN:1073741824<=N) {a b:c5} (hl:a.length=b.length) (h10:a.length<=1000):∀ (c k yO:Nat) (x:eD) (u1 u2:Int),k+c=a.length->c<yO ->
  ∃ s,cA N yO a b u1 u2 x.1 x.2 (k:Int)=some s/\(s=.inl ((0,0),false)\/∃ r z:eD × Int,s=.inr (r.1.1,r.1.2,z.2)/\rv r.1=rv x+(eF a.length (fun j=>rv (aM a j)*rv (aM b j))-eF k (fun j=>rv (aM a j)*rv (aM b j)))/\(VR N x->VR N r.1)):=by
 intro c
 induction c with
 | zero =>
  intro k yO x u1 u2 hk hf
  obtain ⟨yO,rfl⟩:∃ k',yO=k'+1:=⟨yO-1,oa⟩
  rw [cA,ba oa,am]
  obtain rfl:k=a.length:=by omega
  exact ⟨_,rfl,.inr ⟨(x,0),((0,0),_),rfl,by grind,id⟩⟩
 | succ c ih =>
  intro k yO x u1 u2 hk hf
  obtain ⟨yO,rfl⟩:∃ k',yO=k'+1:=⟨yO-1,oa⟩
  obtain ⟨r,ok,e,h⟩:=Id hN (aM a k) (aM b k)
  obtain ⟨y,ok2,e2,h2⟩:=Ic hN x r
  rw [cA,aW oa,ag,jX oa,bs,jX oa,bs,e,bs]
  dsimp only
  cases ok with
  | false=>rw [am];exact ⟨_,rfl,.inl rfl⟩
  | true =>
   rw [ag,e2,bs]
   dsimp only
   cases ok2 with
   | false=>rw [am];exact ⟨_,rfl,.inl rfl⟩
   | true =>
    rw [ag,ce oa oa,bs]
    obtain ⟨s,e3,h3⟩:=ih (k+1) yO y u1 u2 oa oa
    refine ⟨s,e3,h3.imp id ?_⟩
    rintro ⟨r',z,k1,k2,k3⟩
    obtain ⟨_,_,_,g4⟩:=h rfl
    obtain ⟨_,_,f3,f4⟩:=h2 rfl
    refine ⟨r',z,k1,?_,fun _=>k3 f3⟩
    rw [k2,f4,g4]
    have:eF (k+1) (fun j=>rv (aM a j)*rv (aM b j))=eF k (fun j=>rv (aM a j)*rv (aM b j))+rv (aM a k)*rv (aM b k):=rfl
    rw [this]
    grind
theorem Ks (hN:1073741824<=N) {a b:c5} (hl:a.length=b.length) (h10:a.length<=1000):∃ r ok,gi N a b=some (r,ok)/\(ok=true->VR N r/\rv r=eF a.length (fun j=>rv (aM a j)*rv (aM b j))):=by
 unfold gi
 rw [show ((a.length:Int) != (b.length:Int))=false by rw [pW];omega,am]
 obtain ⟨s,e,h⟩:=KB hN hl h10 a.length 0 N (0,1) 0 0 oa oa
 have e':cA N N a b 0 0 0 1 0=some s:=e
 rw [e',bs]
 rcases h with rfl | ⟨r,z,rfl,h1,h2⟩
 ·rw [lN];exact ⟨_,_,rfl,fun h=>by cases h⟩
 ·rw [iW]
  refine ⟨r.1,true,rfl,fun _=>⟨h2 (nh hN (by decide) (by decide)),?_⟩⟩
  rw [h1,pu]
  have e0:((0:Int):Rat)=0:=rfl
  have e1:eF 0 (fun j=>rv (aM a j)*rv (aM b j))=0:=rfl
  rw [e0,e1]
  grind
def o3 (r:eD):Prop:=r=(0,1)\/r=(1,1)
theorem IJ (hN:1073741824<=N) {a b:c5} (hl:a.length=b.length) (h10:a.length<=1000) (ha:∀ j,j<a.length->o3 (aM a j)) (hb:∀ j,j<a.length->o3 (aM b j)):∀ (c k yO:Nat) (v:Int) (u1 u2:Int),k+c=a.length->c<yO->0<=v->v<=k ->
  ∃ v' z:Int,cA N yO a b u1 u2 v 1 (k:Int)=some (.inr (v',1,z))/\0<=v'/\v'<=a.length/\v<=v'/\∀ j,k<=j->j<a.length->aM a j=(1,1)->aM b j=(1,1)->v+1<=v':=by
 intro c
 induction c with
 | zero =>
  intro k yO v u1 u2 hk hf h0 h1
  obtain ⟨yO,rfl⟩:∃ k',yO=k'+1:=⟨yO-1,oa⟩
  rw [cA,ba oa,am]
  exact ⟨v,_,rfl,h0,oa,kL v,fun j h1 h2=>by omega⟩
 | succ c ih =>
  intro k yO v u1 u2 hk hf h0 h1
  obtain ⟨yO,rfl⟩:∃ k',yO=k'+1:=⟨yO-1,oa⟩
  have hm:∃ p:Int,0<=p/\p<=1/\eC N (aM a k).1 (aM a k).2 (aM b k).1 (aM b k).2=some ((p,1),true)/\(aM a k=(1,1)->aM b k=(1,1)->p=1):=by
   rcases ha k oa with e1 | e1 <;> rcases hb k oa with e2 | e2 <;> rw [e1,e2]
   ·exact ⟨_,by decide,by decide,FF hN (by decide) (by decide) (by decide) (by decide),fun h=>absurd h (by decide)⟩
   ·exact ⟨_,by decide,by decide,FF hN (by decide) (by decide) (by decide) (by decide),fun h=>absurd h (by decide)⟩
   ·exact ⟨_,by decide,by decide,FF hN (by decide) (by decide) (by decide) (by decide),fun _ h=>absurd h (by decide)⟩
   ·exact ⟨_,by decide,by decide,FF hN (by decide) (by decide) (by decide) (by decide),fun _ _=>rfl⟩
  obtain ⟨p,p0,p1,ep,hp⟩:=hm
  rw [cA,aW oa,ag,jX oa,bs,jX oa,bs,ep,bs]
  dsimp only
  rw [ag,MA hN h0 oa p0 oa,bs]
  dsimp only
  rw [ag,ce oa oa,bs]
  obtain ⟨v',z,e3,g1,g2,g3,g4⟩:=ih (k+1) yO (v+p) u1 u2 oa oa oa oa
  refine ⟨v',z,e3,g1,g2,oa,fun j h1 h2 h3 h4=>?_⟩
  by_cases e:j=k
  ·subst e
   have:=hp h3 h4
   omega
  ·have:=g4 j oa h2 h3 h4
   omega
theorem MI (hN:1073741824<=N) {a b:c5} (hl:a.length=b.length) (h10:a.length<=1000) (ha:∀ j,j<a.length->o3 (aM a j)) (hb:∀ j,j<a.length->o3 (aM b j)) :
  ∃ v:Int,gi N a b=some ((v,1),true)/\0<=v/\v<=1000/\∀ j,j<a.length->aM a j=(1,1)->aM b j=(1,1)->1<=v:=by
 unfold gi
 rw [show ((a.length:Int) != (b.length:Int))=false by rw [pW];omega,am]
 obtain ⟨v',z,e,g1,g2,g3,g4⟩:=IJ hN hl h10 ha hb a.length 0 N 0 0 0 oa oa (by decide) (by decide)
 have e':cA N N a b 0 0 0 1 0=_:=e
 rw [e',bs,iW]
 exact ⟨v',rfl,g1,oa,fun j h1 h2 h3=>by have:=g4 j oa h1 h2 h3;omega⟩
theorem Mk (hN:1073741824<=N) {A:fh} {x:c5} (hA:A.length<=1000) (hx:x.length<=1000) (hl:∀ i,i<A.length->(bI A i).length=x.length):∀ (c i yO:Nat) (y:c5),i+c=A.length->c<yO->y.length=i ->
  ∃ s,cu N yO A x y (i:Int)=some s/\(s=.inl ([],false)\/∃ y' z,s=.inr (y',z)/\y'.length=A.length/\(∀ a,a<i->aM y' a=aM y a) /\
   ∀ a,i<=a->a<A.length->VR N (aM y' a)/\rv (aM y' a)=eF x.length (fun j=>cv A a j*rv (aM x j))):=by
 intro c
 induction c with
 | zero =>
  intro i yO y hi hf hy
  obtain ⟨yO,rfl⟩:∃ k',yO=k'+1:=⟨yO-1,oa⟩
  rw [cu,ba oa,am]
  exact ⟨_,rfl,.inr ⟨y,_,rfl,oa,fun _ _=>rfl,fun a h1 h2=>by omega⟩⟩
 | succ c ih =>
  intro i yO y hi hf hy
  obtain ⟨yO,rfl⟩:∃ k',yO=k'+1:=⟨yO-1,oa⟩
  have hil:i<A.length:=by omega
  have hrl:=hl i hil
  obtain ⟨r,ok,e,h⟩:=Ks hN hrl oa
  rw [cu,aW oa,ag,ixM hil,bs,e,bs]
  dsimp only
  cases ok with
  | false=>rw [am];exact ⟨_,rfl,.inl rfl⟩
  | true =>
   rw [ag,bA (by decide) (by rw [bT];omega),bs,ce oa oa,bs]
   obtain ⟨s,e1,h1⟩:=ih (i+1) yO (y++[(r.1,r.2)]) oa oa (by rw [b8,bT];omega)
   refine ⟨s,e1,h1.imp id ?_⟩
   rintro ⟨y',z,k1,k2,k3,k4⟩
   refine ⟨y',z,k1,k2,fun a ha=>by rw [k3 a oa,tH oa],fun a h1 h2=>?_⟩
   by_cases ea:a=i
   ·subst ea
    have hr:aM y' a=r:=by rw [k3 a oa,<- hy,rO]
    obtain ⟨g1,g2⟩:=h rfl
    rw [hr]
    refine ⟨g1,?_⟩
    rw [g2,hrl]
    rfl
   ·exact k4 a oa h2
theorem GH (hN:1073741824<=N) {A:fh} {x:c5} (hA:A.length<=1000) (hx:x.length<=1000) (hl:∀ i,i<A.length->(bI A i).length=x.length) (hb:∀ i,i<A.length->∀ j,j<x.length->o3 (cell A i j)) (hxb:∀ j,j<x.length->o3 (aM x j)) (hc:∀ i,i<A.length->∃ j,j<x.length/\cell A i j=(1,1)/\aM x j=(1,1)):∀ (c i yO:Nat) (y:c5),i+c=A.length->c<yO->y.length=i->(∀ a,a<i->∃ v:Int,aM y a=(v,1)/\1<=v/\v<=1000) ->
  ∃ y' z,cu N yO A x y (i:Int)=some (.inr (y',z))/\y'.length=A.length/\∀ a,a<A.length->∃ v:Int,aM y' a=(v,1)/\1<=v/\v<=1000:=by
 intro c
 induction c with
 | zero =>
  intro i yO y hi hf hy hy2
  obtain ⟨yO,rfl⟩:∃ k',yO=k'+1:=⟨yO-1,oa⟩
  rw [cu,ba oa,am]
  exact ⟨y,_,rfl,oa,fun a ha=>hy2 a oa⟩
 | succ c ih =>
  intro i yO y hi hf hy hy2
  obtain ⟨yO,rfl⟩:∃ k',yO=k'+1:=⟨yO-1,oa⟩
  have hil:i<A.length:=by omega
  have hrl:=hl i hil
  obtain ⟨v,e,v0,v1,h⟩:=MI hN hrl oa (fun j hj=>hb i hil j oa) fun j hj=>hxb j oa
  rw [cu,aW oa,ag,ixM hil,bs,e,bs]
  dsimp only
  rw [ag,bA (by decide) (by rw [bT];omega),bs,ce oa oa,bs]
  refine ih (i+1) yO (y++[(v,1)]) oa oa (by rw [b8,bT];omega) fun a ha=>?_
  by_cases ea:a=i
  ·subst ea
   refine ⟨v,by rw [<- hy,rO],?_,v1⟩
   obtain ⟨j,h1,h2,h3⟩:=hc a hil
   exact h j oa h2 h3
  ·rw [tH oa]
   exact hy2 a oa
end
def n7 (a:bj) (v:Int):eD:=bif decide (v∈a.2) then (1,1) else (0,1)
def kN (yL:List bj) (v:Int):c5:=yL.map fun a=>n7 a v
def bY (n:Nat) (yL:List bj):fh:=(List.range' 0 n).map fun v:Nat=>kN yL (v:Int)
def bt (n:Nat):c5:=List.replicate n (1,1)
theorem Ax (n:Nat):bt n++[(1,1)]=bt (n+1):=by unfold bt;rw [List.replicate_succ']
theorem GK (n:Nat) (yL:List bj):bY n yL++[kN yL (n:Int)]=bY (n+1) yL:=by
 unfold bY
 rw [oD,fE]
 simp
section
variable {N:Nat}
theorem Kt (hN:1073741824<=N) {n v:Int} {yL:List bj} {out:yQ} {b1 b4:fh} {b2 b3 b5 b6:c5} (ha:dz yL) (h4:yL.length<=1000) :
  dw N N n yL out b1 b2 b3 b4 b5 b6 v [] 0=some (kN yL v,(yL.length:Int)) :=
 gC (fun k (o:c5) i=>dw N k n yL out b1 b2 b3 b4 b5 b6 v o i) yL.length (fun i=>kN (yL.take i) v) (kN yL v,(yL.length:Int))
  (fun k i h=>by
   show dw N (k+1) n yL out b1 b2 b3 b4 b5 b6 v (kN (yL.take i) v) (i:Int)=dw N k n yL out b1 b2 b3 b4 b5 b6 v (kN (yL.take (i+1)) v) ((i+1:Nat):Int)
   have hl:(kN (yL.take i) v).length<=1000:=by unfold kN;rw [cD,dh];omega
   have e:kN (yL.take (i+1)) v=kN (yL.take i) v++[n7 yL[i] v]:=by
    unfold kN
    rw [gk h,fE];rfl
   rw [dw,dlt h,ag,be h,bs,lj hN (sN ha h),bs,e]
   unfold n7
   cases decide (v∈yL[i].2) with
   | true=>rw [ag,ag,bA (by decide) (by rw [bT];omega),bs,ad1 oa,bs]
   | false=>rw [am,am,bA (by decide) (by rw [bT];omega),bs,ad1 oa,bs])
  (fun k=>by
   show dw N (k+1) n yL out b1 b2 b3 b4 b5 b6 v (kN (yL.take yL.length) v) (yL.length:Int)=_
   rw [dw,dge oa,am,fC]) N 0 oa oa
theorem Lc (hN:1073741824<=N) {n:Nat} (hn:n<=1000) {yL:List bj} {out:yQ} {b1:fh} {b2 b3 b6:c5} (ha:dz yL) (h4:yL.length<=1000) :
  dU N N (n:Int) yL out b1 b2 b3 [] [] b6 0=some (bY n yL,bt n,(n:Int)) :=
 gC (fun k (o:fh × c5) i=>dU N k (n:Int) yL out b1 b2 b3 o.1 o.2 b6 i) n (fun i=>(bY i yL,bt i)) (bY n yL,bt n,(n:Int))
  (fun k i h=>by
   show dU N (k+1) (n:Int) yL out b1 b2 b3 (bY i yL) (bt i) b6 (i:Int)=dU N k (n:Int) yL out b1 b2 b3 (bY (i+1) yL) (bt (i+1)) b6 ((i+1:Nat):Int)
   have h1:(bY i yL).length=i:=by unfold bY;simp
   have h2:(bt i).length=i:=by unfold bt;simp
   rw [dU,dlt h,ag,Kt hN ha h4,bs,lpB]
   dsimp only
   rw [bA (by decide) (by rw [bT];omega),bs,bA (by decide) (by rw [bT];omega),bs,ad1 oa,bs,GK,Ax])
  (fun k=>by
   show dU N (k+1) (n:Int) yL out b1 b2 b3 (bY n yL) (bt n) b6 (n:Int)=_
   rw [dU,dge oa,am]) N 0 oa oa
theorem Ka (hN:1073741824<=N) {n:Int} {yL:List bj} {out:yQ} {b1 b4:fh} {b2 b3 b5:c5} (h4:yL.length<=1000) :
  dV N N n yL out b1 b2 b3 b4 b5 [] 0=some (bt yL.length,(yL.length:Int)) :=
 gC (fun k (o:c5) i=>dV N k n yL out b1 b2 b3 b4 b5 o i) yL.length (fun i=>bt i) (bt yL.length,(yL.length:Int))
  (fun k i h=>by
   show dV N (k+1) n yL out b1 b2 b3 b4 b5 (bt i) (i:Int)=dV N k n yL out b1 b2 b3 b4 b5 (bt (i+1)) ((i+1:Nat):Int)
   have h2:(bt i).length=i:=by unfold bt;simp
   rw [dV,dlt h,ag,bA (by decide) (by rw [bT];omega),bs,ad1 oa,bs,Ax])
  (fun k=>by
   show dV N (k+1) n yL out b1 b2 b3 b4 b5 (bt yL.length) (yL.length:Int)=_
   rw [dV,dge oa,am]) N 0 oa oa
theorem tJ (hN:1073741824<=N) {n:Nat} {yL:List bj} {out:yQ} (ha:dz yL) (ho:okI out) (hq:et (n:Int) yL out=true) :
  ji N (n:Int) yL out=some ((bY n yL,bt n,bt yL.length),true):=by
 obtain ⟨_,n5,_,a4⟩:=kU hq
 unfold ji
 rw [fU hN ha ho,bs,hq,ag,Lc hN oa ha oa,bs,lpB]
 dsimp only
 rw [Ka hN oa,bs,lpB]
theorem gM {n:Nat} {yL:List bj}:(bY n yL).length=n:=by unfold bY;simp
theorem Cr {n v:Nat} {yL:List bj} (hv:v<n):bI (bY n yL) v=kN yL (v:Int):=by
 unfold bI bY
 rw [pL,List.getElem?_map,List.getElem?_range' hv]
 simp
theorem nQ {n v i:Nat} {yL:List bj} (hv:v<n) (hi:i<yL.length):cell (bY n yL) v i=n7 (cx yL i) (v:Int):=by
 unfold cell
 rw [Cr hv]
 unfold kN aM
 rw [lU hi]
 simp [hi]
theorem pB {n i:Nat} (h:i<n):aM (bt n) i=(1,1):=by unfold aM bt;simp [h]
theorem rX (a:bj) (v:Int):o3 (n7 a v):=by
 unfold n7 o3
 cases decide (v∈a.2)
 ·exact .inl rfl
 ·exact .inr rfl
theorem GS (hN:1073741824<=N) {r:eD} (h:o3 r):VR N r:=by
 rcases h with rfl | rfl
 ·exact nh hN (by decide) (by decide)
 ·exact nh hN (by decide) (by decide)
theorem qu {n:Nat} {yL:List bj}:Shp n yL.length (bY n yL) :=
 ⟨gM,fun i hi=>by rw [Cr hi];unfold kN;rw [cD]⟩
theorem Cl (hN:1073741824<=N) {n:Nat} {yL:List bj} (n1:1<=n) (n5:n<=5) (a1:1<=yL.length) (a4:yL.length<=4):eK N (bY n yL) (bt n) (bt yL.length)=some true:=by
 have l1:(bt n).length=n:=by unfold bt;simp
 have l2:(bt yL.length).length=yL.length:=by unfold bt;simp
 unfold eK
 have one:∀ k:Nat,k<=1000->Ig N [bt k] k:=fun k _ i hi=>by
  obtain rfl:i=0:=by simpa using hi
  refine ⟨by show (bt k).length=k;unfold bt;simp,fun j hj=>?_⟩
  have:cell [bt k] 0 j=(1,1):=pB hj
  rw [this];exact nh hN (by decide) (by decide)
 obtain ⟨b1,e1,h1⟩:=Cg hN (A:=bY n yL) (by rw [gM];omega) (c:=yL.length) oa n
 obtain ⟨b2,e2,h2⟩:=Cg hN (A:=[bt yL.length]) (by simp) (c:=yL.length) oa 1
 obtain ⟨b3,e3,h3⟩:=Cg hN (A:=[bt n]) (by simp) (c:=n) oa 1
 have t1:b1=true:=h1.2 ⟨fun i hi=>by
  rw [gM] at hi
  exact ⟨qu.2 i hi,fun j hj=>by rw [nQ hi hj];exact GS hN (rX _ _)⟩,gM⟩
 have t2:b2=true:=h2.2 ⟨one _ oa,rfl⟩
 have t3:b3=true:=h3.2 ⟨one _ oa,rfl⟩
 have e2':gD N [bt yL.length] 1 (yL.length:Int)=some b2:=e2
 have e3':gD N [bt n] 1 (n:Int)=some b3:=e3
 rw [l1,l2,fg,bs,show inR (yL.length:Int) 1 5=true from cg.2 oa,ag,fg,bs,show inR (n:Int) 1 5=true from cg.2 oa,ag,e1,bs,t1,ag,e2',bs,t2,ag,e3',bs,t3]
theorem Jy (hN:1073741824<=N) {x:c5} (hl:x.length<=1000) {sg:Int} {A:fh} {B C:c5}:∀ (c k yO:Nat),k+c=x.length->c<yO ->
  ∃ s,i9 N yO x sg A B C (k:Int)=some s/\((s=.inl false/\∃ j,k<=j/\j<x.length/\¬ (VR N (aM x j)/\0<=(aM x j).1))\/∃ z,s=.inr z/\∀ j,k<=j->j<x.length->VR N (aM x j)/\0<=(aM x j).1):=by
 intro c
 induction c with
 | zero =>
  intro k yO hk hf
  obtain ⟨yO,rfl⟩:∃ k',yO=k'+1:=⟨yO-1,oa⟩
  rw [i9,ba oa,am]
  exact ⟨_,rfl,.inr ⟨_,rfl,fun j h1 h2=>by omega⟩⟩
 | succ c ih =>
  intro k yO hk hf
  obtain ⟨yO,rfl⟩:∃ k',yO=k'+1:=⟨yO-1,oa⟩
  rw [i9,aW oa,ag,jX oa,bs]
  rcases oV hN (aM x k) with hv | hv
  ·have hv':=hv
   unfold VR at hv'
   rw [hv',bs,ag,bs]
   by_cases h0:(aM x k).1<0
   ·rw [aW h0,ag]
    exact ⟨_,rfl,.inl ⟨rfl,k,bN k,oa,fun h=>by omega⟩⟩
   ·rw [ba h0,am,ce oa oa,bs]
    obtain ⟨s,e,h⟩:=ih (k+1) yO oa oa
    refine ⟨s,e,?_⟩
    rcases h with ⟨h1,j,h2,h3,h4⟩ | ⟨z,h1,h2⟩
    ·exact .inl ⟨h1,j,oa,h3,h4⟩
    ·refine .inr ⟨z,h1,fun j g1 g2=>?_⟩
     by_cases e:j=k
     ·subst e;exact ⟨hv,oa⟩
     ·exact h2 j oa g2
  ·rw [hv,bs,am]
   refine ⟨_,rfl,.inl ⟨rfl,k,bN k,oa,fun h=>?_⟩⟩
   have:=h.1
   unfold VR at this
   rw [hv] at this;cases this
theorem EW (hN:1073741824<=N) {y B:c5} (hl:y.length<=1000) (hb:y.length<=B.length) {A:fh} {C:c5} {u:Bool}:∀ (c k yO:Nat),k+c=y.length->c<yO ->
  ∃ s,io N yO 1 A B C y u (k:Int)=some s/\((s=.inl false/\∃ j,k<=j/\j<y.length/\(VR N (aM y j)->VR N (aM B j)->rv (aM y j)<rv (aM B j)))\/∃ z,s=.inr z/\∀ j,k<=j->j<y.length->VR N (aM y j)->VR N (aM B j)->¬ rv (aM y j)<rv (aM B j)):=by
 intro c
 induction c with
 | zero =>
  intro k yO hk hf
  obtain ⟨yO,rfl⟩:∃ k',yO=k'+1:=⟨yO-1,oa⟩
  rw [io,ba oa,am]
  exact ⟨_,rfl,.inr ⟨_,rfl,fun j h1 h2=>by omega⟩⟩
 | succ c ih =>
  intro k yO hk hf
  obtain ⟨yO,rfl⟩:∃ k',yO=k'+1:=⟨yO-1,oa⟩
  obtain ⟨q,e1,q1,q2,h⟩:=Kj hN (aM y k) (aM B k)
  rw [io,aW oa,ag,jX oa,bs,jX oa,bs,e1,bs,eh oa oa,bs,sw]
  by_cases h0:q<0
  ·rw [aW h0,ag]
   exact ⟨_,rfl,.inl ⟨rfl,k,bN k,oa,fun v1 v2=>(h v1 v2).1 h0⟩⟩
  ·rw [ba h0,am,ce oa oa,bs]
   obtain ⟨s,e,h'⟩:=ih (k+1) yO oa oa
   refine ⟨s,e,?_⟩
   rcases h' with ⟨h1,j,h2,h3,h4⟩ | ⟨z,h1,h2⟩
   ·exact .inl ⟨h1,j,oa,h3,h4⟩
   ·refine .inr ⟨z,h1,fun j g1 g2=>?_⟩
    by_cases e:j=k
    ·subst e;exact fun v1 v2 hlt=>h0 ((h v1 v2).2 hlt)
    ·exact h2 j oa g2
structure FeasR (N n:Nat) (yL:List bj) (x:c5):Prop where
 len:x.length=yL.length
 ok:∀ j,j<x.length->VR N (aM x j)/\0<=(aM x j).1
 ge:∀ v,v<n->1<=eF yL.length (fun j=>cv (bY n yL) v j*rv (aM x j))
theorem EZ (hN:1073741824<=N) {n:Nat} {yL:List bj} (n1:1<=n) (n5:n<=5) (a1:1<=yL.length) (a4:yL.length<=4) {x:c5} (hx:x.length=yL.length) :
  ∃ b,jY N (bY n yL) (bt n) (bt yL.length) x 1=some b/\(b=true->FeasR N n yL x) /\
   ((∀ j,j<x.length->o3 (aM x j))->(∀ v,v<n->∃ j,j<x.length/\cell (bY n yL) v j=(1,1)/\aM x j=(1,1))->b=true):=by
 have l1:(bt n).length=n:=by unfold bt;simp
 have l2:(bt yL.length).length=yL.length:=by unfold bt;simp
 unfold jY
 rw [Cl hN n1 n5 a1 a4,bs,ag,l2,show ((x.length:Int) != (yL.length:Int))=false by rw [pW];omega,am]
 obtain ⟨s1,e1,h1⟩:=Jy hN (x:=x) oa (sg:=1) (A:=bY n yL) (B:=bt n) (C:=bt yL.length) x.length 0 N oa oa
 have e1':i9 N N x 1 (bY n yL) (bt n) (bt yL.length) 0=some s1:=e1
 rw [e1',bs]
 rcases h1 with ⟨rfl,j,_,h2,h3⟩ | ⟨z,rfl,h1⟩
 ·rw [lN]
  refine ⟨_,rfl,fun h=>(by cases h),fun hb _=>absurd ⟨GS hN (hb j h2),?_⟩ h3⟩
  rcases hb j h2 with e | e <;> rw [e] <;> decide
 ·rw [iW]
  have hsh:=qu (n:=n) (yL:=yL)
  have hrl:∀ i,i<(bY n yL).length->(bI (bY n yL) i).length=x.length:=fun i hi=>by rw [hsh.2 i (by rw [<- gM (n:=n) (yL:=yL)];exact hi),hx]
  obtain ⟨s2,e2,h2⟩:=Mk hN (A:=bY n yL) (x:=x) (by rw [gM];omega) oa hrl (bY n yL).length 0 N [] oa (by rw [gM];omega) rfl
  have e2':cu N N (bY n yL) x [] 0=some s2:=e2
  unfold i4
  rw [e2',bs]
  rcases h2 with rfl | ⟨y,z',rfl,hy,_,hv⟩
  ·rw [lN,bs]
   obtain ⟨s3,e3,_⟩:=EW hN (y:=[]) (B:=bt n) (by decide) (cE _) (A:=bY n yL) (C:=bt yL.length) (u:=false) 0 0 N rfl oa
   have e3':io N N 1 (bY n yL) (bt n) (bt yL.length) [] false 0=some s3:=e3
   dsimp only
   rw [e3',bs]
   have bad:¬ ((∀ j,j<x.length->o3 (aM x j))/\∀ v,v<n->∃ j,j<x.length/\cell (bY n yL) v j=(1,1)/\aM x j=(1,1)):=by
    rintro ⟨hb,hc⟩
    obtain ⟨y',z2,e4,_⟩:=GH hN (A:=bY n yL) (x:=x) (by rw [gM];omega) oa hrl (fun i hi j hj=>by
     rw [gM] at hi
     rw [nQ hi oa];exact rX _ _) hb (fun i hi=>hc i (by rw [gM] at hi;exact hi)) (bY n yL).length 0 N [] oa (by rw [gM];omega) rfl (fun a ha=>by omega)
    have:=e4.symm.trans e2
    cases this
   cases s3 with
   | inl q =>
    rw [lN]
    refine ⟨q,rfl,?_,fun hb hc=>absurd ⟨hb,hc⟩ bad⟩
    rename_i h6
    rcases h6 with ⟨h7,j,_,h8,_⟩ | ⟨z3,h7,_⟩
    ·exact absurd h8 (Nat.not_lt_zero _)
    ·cases h7
   | inr q =>
    rw [iW]
    exact ⟨false,rfl,fun h=>(by cases h),fun hb hc=>absurd ⟨hb,hc⟩ bad⟩
  ·rw [iW,bs]
   rw [gM] at hy hv
   obtain ⟨s3,e3,h3⟩:=EW hN (y:=y) (B:=bt n) oa oa (A:=bY n yL) (C:=bt yL.length) (u:=true) y.length 0 N oa oa
   have e3':io N N 1 (bY n yL) (bt n) (bt yL.length) y true 0=some s3:=e3
   dsimp only
   rw [e3',bs]
   have vB:∀ j,j<n->VR N (aM (bt n) j)/\rv (aM (bt n) j)=1:=fun j hj=>by
    rw [pB hj]
    exact ⟨nh hN (by decide) (by decide),pu 1⟩
   rcases h3 with ⟨rfl,j,_,g1,g2⟩ | ⟨z3,rfl,g⟩
   ·rw [lN]
    refine ⟨false,rfl,fun h=>(by cases h),fun hb hc=>?_⟩
    exfalso
    obtain ⟨y',z2,e4,_,h5⟩:=GH hN (A:=bY n yL) (x:=x) (by rw [gM];omega) oa hrl (fun i hi j hj=>by
     rw [gM] at hi
     rw [nQ hi oa];exact rX _ _) hb (fun i hi=>hc i (by rw [gM] at hi;exact hi)) (bY n yL).length 0 N [] oa (by rw [gM];omega) rfl (fun a ha=>by omega)
    have h6:=e4.symm.trans e2
    have h7:y'=y:=by
     have:=c8 h6
     injection this with this
     exact aZ Prod.fst this
    subst h7
    obtain ⟨w,hw,w1,_⟩:=h5 j (by rw [gM];omega)
    have g3:=g2 (hv j oa oa).1 (vB j oa).1
    rw [(vB j oa).2,hw,pu] at g3
    have:((1:Int):Rat)<=(w:Rat):=s8.2 w1
    have e1:((1:Int):Rat)=1:=rfl
    grind
   ·rw [iW]
    refine ⟨true,rfl,fun _=>⟨hx,fun j hj=>h1 j oa hj,fun v hv'=>?_⟩,fun _ _=>rfl⟩
    obtain ⟨k1,k2⟩:=hv v oa hv'
    have g3:=g v oa oa k1 (vB v hv').1
    rw [(vB v hv').2,k2,hx] at g3
    exact Rat.not_lt.1 g3
end
def iw:Nat->Nat->Nat->List (yQ)
 | 0,_,_=>[[]]
 | n+1,f,t=>(List.range' f (t-n-f)).flatMap fun i:Nat=>(iw n (i+1) t).map fun l=>(i:Int) :: l
theorem wk:∀ (n f t:Nat),(iw n f t).length<=t ^ n
 | 0,f,t=>by rw [Nat.pow_zero];exact bN 1
 | n+1,f,t=>by
  unfold iw
  have h:=oN (g:=fun i:Nat=>(iw n (i+1) t).map fun l=>(i:Int) :: l) (k:=t ^ n) (fun i=>by rw [cD];exact wk n (i+1) t) (List.range' f (t-n-f))
  rw [xe] at h
  refine Nat.le_trans h ?_
  rw [pZ,uz]
  exact rn _ oa
theorem tA:∀ {n f t:Nat} {l:yQ},l∈iw n f t->l.length=n/\∀ v∈l,(f:Int)<=v/\v<t
 | 0,f,t,l,h=>by
  rw [fD.1 h];exact ⟨rfl,by simp⟩
 | n+1,f,t,l,h=>by
  unfold iw at h
  obtain ⟨i,hi,h⟩:=uA.1 h
  obtain ⟨s,hs,rfl⟩:=fK.1 h
  obtain ⟨h1,h2⟩:=tA hs
  rw [za] at hi
  refine ⟨by rw [bW,h1],fun v hv=>?_⟩
  rcases cZ.1 hv with rfl | hv
  ·omega
  ·have:=h2 v hv;omega
theorem BC:∀ {n f t:Nat} {l:List Nat},l.length=n->l.Pairwise (·<·)->(∀ v∈l,f<=v/\v<t)->l.map (fun v:Nat=>(v:Int))∈iw n f t
 | 0,f,t,l,h,_,_=>by
  rw [ma.1 h];exact fD.2 rfl
 | n+1,f,t,[],h,_,_=>by simp at h
 | n+1,f,t,i :: l,h,hp,hb=>by
  obtain ⟨p1,p2⟩:=jU.1 hp
  have hl:l.length=n:=by simpa using h
  have hi:=hb i dM
  have room:∀ (k a:Nat) (s:List Nat),s.length=k->s.Pairwise (·<·)->(∀ v∈s,a<v/\v<t)->a<t->a+k<t:=by
   intro k
   induction k with
   | zero=>intro a s _ _ _ h;omega
   | succ k ih =>
    intro a s hs hp2 hb2 hat
    cases s with
    | nil=>simp at hs
    | cons b s =>
     obtain ⟨q1,q2⟩:=jU.1 hp2
     have hb3:=hb2 b dM
     have:=ih b s (by simpa using hs) q2 (fun v hv=>⟨q1 v hv,(hb2 v (fJ _ hv)).2⟩) hb3.2
     omega
  have hr:=room n i l hl p2 (fun v hv=>⟨p1 v hv,(hb v (fJ _ hv)).2⟩) hi.2
  unfold iw
  refine uA.2 ⟨i,za.2 ⟨hi.1,oa⟩,?_⟩
  rw [fI]
  exact fK.2 ⟨_,BC hl p2 (fun v hv=>⟨p1 v hv,(hb v (fJ _ hv)).2⟩),rfl⟩
theorem IU {rec:Int->Int->Int->Option (List (yQ))} {N:Nat} {t n i:Int} {acc rest:List (yQ)} (hN:rest.length<N) (hr:rest.length<=100000) (ha:acc.length<=1000000) (hl:∀ l∈rest,l.length<=1000) :
  gg rec N N t n acc i rest 0=some (acc++rest.map (fun l=>i :: l),(rest.length:Int)):=by
 have h:=gC (fun k (o:List (yQ)) j=>gg rec N k t n o i rest j) rest.length (fun j=>acc++(rest.take j).map fun l=>i :: l) (acc++rest.map (fun l=>i :: l),(rest.length:Int))
  (fun k j h=>by
   have hm:=hl _ (bF h)
   show gg rec N (k+1) t n (acc++(rest.take j).map fun l=>i :: l) i rest (j:Int)=gg rec N k t n (acc++(rest.take (j+1)).map fun l=>i :: l) i rest ((j+1:Nat):Int)
   rw [gg,dlt h,ag,be h,bs,bA (by decide) (by rw [bT];omega),bs,bA (by decide) (by rw [b8,cD,dh,bT];omega),bs,ad1 oa,bs,gk h,fE,gT]
   rfl)
  (fun k=>by
   show gg rec N (k+1) t n (acc++(rest.take rest.length).map fun l=>i :: l) i rest (rest.length:Int)=_
   rw [gg,dge oa,am,fC]) N 0 oa oa
 rw [List.take_zero,nS,mP] at h
 exact h
theorem Io {t n:Nat} (ht:t<=9) (hn:n<=4):t ^ n<=6561 :=
 Nat.le_trans (sI ht n) (Nat.le_trans (nR (by decide) hn) (by decide))
theorem Du:∀ (n M f t:Nat),n<=4->t<=9->f<=10->10000+n<M->gA M (f:Int) (t:Int) (n:Int)=some (iw n f t)
 | 0,M,f,t,_,_,_,hM=>by
  obtain ⟨M,rfl⟩:∃ k,M=k+1:=⟨M-1,oa⟩
  rw [gA,show (((0:Nat):Int) == 0)=true from rfl,ag];rfl
 | n+1,M,f,t,hn,ht,hf,hM=>by
  obtain ⟨M,rfl⟩:∃ k,M=k+1:=⟨M-1,oa⟩
  rw [gA,show (((n+1:Nat):Int) == 0)=false by rw [qU];omega,am]
  have key:∀ (d i yO:Nat) (acc:List (yQ)),t-n-i=d->d<yO->i<=10->acc.length+d*6561<=1000000 ->
    ∃ z,j9 (gA M) M yO (t:Int) ((n+1:Nat):Int) acc (i:Int)=some (acc++(List.range' i d).flatMap (fun i:Nat=>(iw n (i+1) t).map fun l=>(i:Int) :: l),z):=by
   intro d
   induction d with
   | zero =>
    intro i yO acc hd hfu hi ha
    obtain ⟨yO,rfl⟩:∃ k,yO=k+1:=⟨yO-1,oa⟩
    rw [j9,ce oa oa,bs,ba oa,am]
    refine ⟨(i:Int),?_⟩
    rw [List.range'_zero,List.flatMap_nil,mP]
   | succ d ih =>
    intro i yO acc hd hfu hi ha
    obtain ⟨yO,rfl⟩:∃ k,yO=k+1:=⟨yO-1,oa⟩
    have hlen:=Nat.le_trans (wk n (i+1) t) (Io (n:=n) ht oa)
    have e1:gA M ((i:Int)+1) (t:Int) ((n+1:Nat)-1:Int)=some (iw n (i+1) t):=by
     have h:=Du n M (i+1) t oa ht oa oa
     rw [show ((i:Int)+1)=((i+1:Nat):Int) by omega,show (((n+1:Nat):Int)-1)=(n:Int) by omega]
     exact h
    rw [j9,ce oa oa,bs,aW oa,ag,ce oa oa,bs,eu oa oa,bs,e1,bs,IU oa oa oa (fun l hl=>by have:=(tA hl).1;omega),bs,lpB]
    dsimp only
    rw [bs]
    obtain ⟨z,h⟩:=ih (i+1) yO (acc++(iw n (i+1) t).map fun l=>(i:Int) :: l) oa oa oa (by rw [b8,cD];omega)
    refine ⟨z,?_⟩
    rw [wv,sO,<- gT]
    exact h
  obtain ⟨z,h⟩:=key (t-n-f) f M [] rfl oa hf (by rw [fH];omega)
  rw [h,bs,lpB,List.nil_append]
  rfl
def lZ (n i:Nat):c5:=(List.replicate n (0,1)).set i (1,1)
def lH (A:fh) (m n:Nat) (j:Nat):c5:=if j<m then bI A j else lZ n (j-m)
def nC (m:Nat) (j:Nat):eD:=if j<m then (1,1) else (0,1)
def pC (l:yQ):List Nat:=l.map Int.toNat
def kq (A:fh) (m n:Nat) (l:yQ):fh:=(pC l).map (lH A m n)
def jW (m:Nat) (l:yQ):c5:=(pC l).map (nC m)
section
variable {N:Nat}
theorem KJ (hN:1073741824<=N) {n:Nat} (hn:n<=1000) {sg m i k j:Int} {A a out:fh} {B C b:c5} {l:List (yQ)} :
  fz N N sg A B C out (n:Int) m l i a b k j [] 0=some (List.replicate n (0,1),(n:Int)) :=
 gC (fun q (o:c5) v=>fz N q sg A B C out (n:Int) m l i a b k j o v) n (fun v=>List.replicate v (0,1)) (List.replicate n (0,1),(n:Int))
  (fun q v h=>by
   show fz N (q+1) sg A B C out (n:Int) m l i a b k j (List.replicate v (0,1)) (v:Int)=fz N q sg A B C out (n:Int) m l i a b k j (List.replicate (v+1) (0,1)) ((v+1:Nat):Int)
   rw [fz,dlt h,ag,bA (by decide) (by rw [wW,bT];omega),bs,ad1 oa,bs,List.replicate_succ'])
  (fun q=>by
   show fz N (q+1) sg A B C out (n:Int) m l i a b k j (List.replicate n (0,1)) (n:Int)=_
   rw [fz,dge oa,am]) N 0 oa oa
theorem LF (hN:1073741824<=N) {n m:Nat} (hn:n<=4) (hm:m<=5) {sg:Int} {A out:fh} {C:c5} (hA:A.length=m) {L:List (yQ)} {i:Nat} (hi:i<L.length) (hl:L[i].length=n) (hb:∀ v∈L[i],0<=v/\v<(m+n:Nat)) :
  eJ N N sg A (bt m) C out (n:Int) (m:Int) L (i:Int) [] [] 0=some (kq A m n L[i],jW m L[i],(n:Int)):=by
 have h:=gC (fun q (o:fh × c5) k=>eJ N q sg A (bt m) C out (n:Int) (m:Int) L (i:Int) o.1 o.2 k) n (fun k=>(kq A m n (L[i].take k),jW m (L[i].take k))) (kq A m n L[i],jW m L[i],(n:Int))
  (fun q k h=>by
   show eJ N (q+1) sg A (bt m) C out (n:Int) (m:Int) L (i:Int) (kq A m n (L[i].take k)) (jW m (L[i].take k)) (k:Int)=eJ N q sg A (bt m) C out (n:Int) (m:Int) L (i:Int) (kq A m n (L[i].take (k+1))) (jW m (L[i].take (k+1))) ((k+1:Nat):Int)
   have hk:k<L[i].length:=by omega
   have hv:=hb _ (bF hk)
   have l1:(kq A m n (L[i].take k)).length<=1000:=by unfold kq pC;rw [cD,cD,dh];omega
   have l2:(jW m (L[i].take k)).length<=1000:=by unfold jW pC;rw [cD,cD,dh];omega
   have eA:kq A m n (L[i].take (k+1))=kq A m n (L[i].take k)++[lH A m n L[i][k].toNat]:=by
    unfold kq pC
    rw [gk hk,fE,fE];rfl
   have eB:jW m (L[i].take (k+1))=jW m (L[i].take k)++[nC m L[i][k].toNat]:=by
    unfold jW pC
    rw [gk hk,fE,fE];rfl
   rw [eJ,dlt h,ag,be hi,bs,be hk,bs,eA,eB]
   unfold lH nC
   obtain ⟨j,hj⟩:∃ j:Nat,L[i][k]=(j:Int):=⟨L[i][k].toNat,oa⟩
   rw [hj] at hv ⊢
   rw [iR]
   by_cases hjm:j<m
   ·have ones:(bt m).length=m:=by unfold bt;simp
    rw [aW oa,ag,aX hjm,aX hjm,ixM oa,bs,bA (by decide) (by rw [bT];omega),bs,jX oa,bs,pB hjm,bA (by decide) (by rw [bT];omega),bs,ad1 oa,bs]
   ·have hlr:j-m<(List.replicate n ((0:Int),(1:Int))).length:=by rw [wW];omega
    rw [ba oa,am,a9 hjm,a9 hjm,KJ hN oa,bs,lpB]
    dsimp only
    rw [eu oa oa,bs,show ((j:Int)-(m:Int))=((j-m:Nat):Int) by omega,be hlr,bs,vf hlr,bs,bA (by decide) (by rw [bT];omega),bs,bA (by decide) (by rw [bT];omega),bs,ad1 oa,bs]
    rfl)
  (fun q=>by
   show eJ N (q+1) sg A (bt m) C out (n:Int) (m:Int) L (i:Int) (kq A m n (L[i].take n)) (jW m (L[i].take n)) (n:Int)=_
   rw [eJ,dge oa,am,<- hl,fC]) N 0 oa oa
 exact h
theorem HF (hN:1073741824<=N) {a b:c5} (ha:a.length<=1000):∃ q,jp N a b=some q:=by
 unfold jp
 by_cases hl:a.length=b.length
 ·rw [show ((a.length:Int) != (b.length:Int))=false by rw [pW];omega,am]
  have key:∀ (c k yO:Nat),k+c=a.length->c<yO->∃ s,fV N yO a b (k:Int)=some s:=by
   intro c
   induction c with
   | zero =>
    intro k yO hk hf
    obtain ⟨yO,rfl⟩:∃ k',yO=k'+1:=⟨yO-1,oa⟩
    rw [fV,ba oa,am]
    exact ⟨_,rfl⟩
   | succ c ih =>
    intro k yO hk hf
    obtain ⟨yO,rfl⟩:∃ k',yO=k'+1:=⟨yO-1,oa⟩
    rw [fV,aW oa,ag,jX oa,bs,jX oa,bs]
    cases (aM a k).1 == (aM b k).1&&(aM a k).2 == (aM b k).2 with
    | true =>
     rw [ag,ce oa oa,bs]
     exact ih (k+1) yO oa oa
    | false=>rw [am];exact ⟨_,rfl⟩
  obtain ⟨s,e⟩:=key a.length 0 N oa oa
  have e':fV N N a b 0=some s:=e
  rw [e',bs]
  cases s with
  | inl q=>rw [lN];exact ⟨_,rfl⟩
  | inr q=>rw [iW];exact ⟨_,rfl⟩
 ·rw [show ((a.length:Int) != (b.length:Int))=true by rw [bne_iff_ne];omega,ag]
  exact ⟨_,rfl⟩
theorem KF (hN:1073741824<=N) {sg n m i:Int} {A:fh} {B C x:c5} {L:List (yQ)} {out:fh} (ho:out.length<=100000) (hl:∀ j,j<out.length->(bI out j).length<=1000):∀ (c k yO:Nat) (b:Bool),k+c=out.length->c<yO ->
  ∃ b' z,gG N yO sg A B C out n m L i x b (k:Int)=some (b',z)/\(out.length=0->b'=b):=by
 intro c
 induction c with
 | zero =>
  intro k yO b hk hf
  obtain ⟨yO,rfl⟩:∃ k',yO=k'+1:=⟨yO-1,oa⟩
  rw [gG,ba oa,am]
  exact ⟨b,_,rfl,fun _=>rfl⟩
 | succ c ih =>
  intro k yO b hk hf
  obtain ⟨yO,rfl⟩:∃ k',yO=k'+1:=⟨yO-1,oa⟩
  rw [gG,aW oa,ag]
  cases b with
  | true =>
   rw [ag,ce oa oa,bs]
   obtain ⟨b',z,e,_⟩:=ih (k+1) yO true oa oa
   exact ⟨b',z,e,fun h=>by omega⟩
  | false =>
   obtain ⟨q,eq⟩:=HF hN (a:=bI out k) (b:=x) (hl k oa)
   rw [am,ixM oa,bs,eq,bs,ce oa oa,bs]
   obtain ⟨b',z,e,_⟩:=ih (k+1) yO q oa oa
   exact ⟨b',z,e,fun h=>by omega⟩
def iM (N n:Nat) (yL:List bj) (x:c5):Prop:=FeasR N n yL x/\∃ l∈iw yL.length 0 (n+yL.length),dZ N (kq (bY n yL) n yL.length l) (jW n l)=some (x,true)
theorem w7 (n i:Nat):(lZ n i).length=n:=by unfold lZ;simp
theorem El {n:Nat} {yL:List bj} {l:yQ} (hl:l.length=yL.length):Shp yL.length yL.length (kq (bY n yL) n yL.length l):=by
 refine ⟨by unfold kq pC;rw [cD,cD,hl],fun i hi=>?_⟩
 have e:bI (kq (bY n yL) n yL.length l) i=lH (bY n yL) n yL.length (l[i]'oa).toNat:=by
  unfold bI kq pC
  simp [hl,hi]
 rw [e]
 unfold lH
 split
 ·rename_i h;exact qu.2 _ h
 ·exact w7 _ _
theorem GN (hN:1073741824<=N) {n:Nat} {yL:List bj} (n1:1<=n) (n5:n<=5) (a1:1<=yL.length) (a4:yL.length<=4) :
  ∃ P,g7 N (bY n yL) (bt n) (bt yL.length)=some P/\P.length<=100000/\(∀ x∈P,iM N n yL x)/\((∃ x,iM N n yL x/\jY N (bY n yL) (bt n) (bt yL.length) x 1=some true)->P≠[]):=by
 have l1:(bt n).length=n:=by unfold bt;simp
 have l2:(bt yL.length).length=yL.length:=by unfold bt;simp
 have hPl:=Nat.le_trans (wk yL.length 0 (n+yL.length)) (Io oa a4)
 have ep:=Du yL.length N 0 (n+yL.length) a4 oa oa oa
 have hmem:=fun l (hl:l∈iw yL.length 0 (n+yL.length))=>tA hl
 have key:∀ (c i yO:Nat) (out:fh),i+c=(iw yL.length 0 (n+yL.length)).length->c<yO->out.length<=i->(∀ x∈out,iM N n yL x) ->
   ∃ P z,fA N yO 1 (bY n yL) (bt n) (bt yL.length) out (yL.length:Int) (n:Int) (iw yL.length 0 (n+yL.length)) (i:Int)=some (P,z)/\P.length<=100000/\(∀ x∈P,iM N n yL x)/\(out≠[]->P≠[]) /\
    ∀ j (hj:j<(iw yL.length 0 (n+yL.length)).length),i<=j->(∃ x,dZ N (kq (bY n yL) n yL.length (iw yL.length 0 (n+yL.length))[j]) (jW n (iw yL.length 0 (n+yL.length))[j])=some (x,true)/\jY N (bY n yL) (bt n) (bt yL.length) x 1=some true)->P≠[]:=by
  intro c
  induction c with
  | zero =>
   intro i yO out hi hf hol hop
   obtain ⟨yO,rfl⟩:∃ k',yO=k'+1:=⟨yO-1,oa⟩
   rw [fA,ba oa,am]
   exact ⟨out,_,rfl,oa,hop,id,fun j hj h=>by omega⟩
  | succ c ih =>
   intro i yO out hi hf hol hop
   obtain ⟨yO,rfl⟩:∃ k',yO=k'+1:=⟨yO-1,oa⟩
   have hiL:i<(iw yL.length 0 (n+yL.length)).length:=by omega
   obtain ⟨m1,m2⟩:=hmem _ (bF hiL)
   have hsh:=El (n:=n) (yL:=yL) m1
   have hbl:(jW n (iw yL.length 0 (n+yL.length))[i]).length=yL.length:=by unfold jW pC;rw [cD,cD,m1]
   obtain ⟨x,ok,es,hsol⟩:=Ae hN (n:=yL.length) oa hsh hbl
   rw [fA,aW oa,ag,LF hN a4 n5 gM hiL m1 (fun v hv=>by have:=m2 v hv;omega),bs,lpB]
   dsimp only
   rw [es,bs]
   dsimp only
   cases ok with
   | false =>
    rw [am,ce oa oa,bs]
    obtain ⟨P,z,e,g1,g2,g3,g4⟩:=ih (i+1) yO out oa oa oa hop
    refine ⟨P,z,e,g1,g2,g3,fun j hj hij hx=>?_⟩
    by_cases e:j=i
    ·subst e
     obtain ⟨x',e',_⟩:=hx
     rw [es] at e';cases e'
    ·exact g4 j hj oa hx
   | true =>
    have hxl:=(hsol rfl).1
    obtain ⟨b,eb,hb,_⟩:=EZ hN n1 n5 a1 a4 (x:=x) hxl
    rw [ag,eb,bs]
    cases b with
    | false =>
     rw [am,ce oa oa,bs]
     obtain ⟨P,z,e,g1,g2,g3,g4⟩:=ih (i+1) yO out oa oa oa hop
     refine ⟨P,z,e,g1,g2,g3,fun j hj hij hx=>?_⟩
     by_cases e:j=i
     ·subst e
      obtain ⟨x',e',e2⟩:=hx
      rw [es] at e'
      obtain rfl:x=x':=aZ Prod.fst (c8 e')
      rw [eb] at e2;cases e2
     ·exact g4 j hj oa hx
    | true =>
     have hpx:iM N n yL x:=⟨hb rfl,_,bF hiL,es⟩
     obtain ⟨k,z,ek,hk⟩:=KF hN (sg:=1) (n:=(yL.length:Int)) (m:=(n:Int)) (i:=(i:Int)) (A:=bY n yL) (B:=bt n) (C:=bt yL.length) (x:=x) (L:=iw yL.length 0 (n+yL.length)) (out:=out) oa (fun j hj=>by
      have hm:bI out j∈out:=by unfold bI;simp [hj]
      have:=(hop _ hm).1.len
      omega) out.length 0 N false oa oa
     have ek':gG N N 1 (bY n yL) (bt n) (bt yL.length) out (yL.length:Int) (n:Int) (iw yL.length 0 (n+yL.length)) (i:Int) x false 0=some (k,z):=ek
     rw [ag,ek',bs,lpB]
     dsimp only
     cases k with
     | true =>
      rw [ag,ce oa oa,bs]
      obtain ⟨P,z,e,g1,g2,g3,g4⟩:=ih (i+1) yO out oa oa oa hop
      have hne:out≠[]:=fun h0=>by
       rw [h0] at hk
       exact absurd (hk rfl) (by decide)
      exact ⟨P,z,e,g1,g2,g3,fun _ _ _ _=>g3 hne⟩
     | false =>
      rw [am,bA (by decide) (by rw [bT];omega),bs,ce oa oa,bs]
      obtain ⟨P,z,e,g1,g2,g3,g4⟩:=ih (i+1) yO (out++[x]) oa oa (by rw [b8,bT];omega) (fun y hy=>by
       rcases dj.1 hy with h | h
       ·exact hop y h
       ·rw [fD.1 h];exact hpx)
      exact ⟨P,z,e,g1,g2,fun _=>g3 (by simp),fun _ _ _ _=>g3 (by simp)⟩
 obtain ⟨P,z,e,g1,g2,_,g4⟩:=key (iw yL.length 0 (n+yL.length)).length 0 N [] oa oa (cE _) (by simp)
 have e':fA N N 1 (bY n yL) (bt n) (bt yL.length) [] (yL.length:Int) (n:Int) (iw yL.length 0 (n+yL.length)) 0=some (P,z):=e
 have ep':gA N 0 ((n:Int)+(yL.length:Int)) (yL.length:Int)=some (iw yL.length 0 (n+yL.length)):=by
  rw [show ((n:Int)+(yL.length:Int))=((n+yL.length:Nat):Int) by omega]
  exact ep
 refine ⟨P,?_,g1,g2,?_⟩
 ·unfold g7 jE
  rw [Cl hN n1 n5 a1 a4,bs,ag,l1,l2,ce oa oa,bs,ep',bs,e',bs,lpB,bs]
 ·rintro ⟨x,⟨_,l,hl,hs⟩,hside⟩
  obtain ⟨j,hj,rfl⟩:=gR hl
  exact g4 j hj (cE _) ⟨x,hs,hside⟩
end
section
variable {N:Nat}
theorem HW (hN:1073741824<=N) {a b K:Int} (hK:K=1\/K=2\/K=3) (ha:a=1\/a=K) (hb:b=1\/b=K):∃ g,iJ N a b=some g/\∃ q,qt a g=some q/\ml q b=some (if b=1 then a else K):=by
 obtain ⟨g,e,g1,g2,g3,g4⟩:=ut (N:=N) hN (x:=a) (y:=b) oa oa oa
 have gp:=g3 (.inl oa)
 refine ⟨g,e,?_⟩
 have l1:=ry oa g1
 have l2:=ry oa g2
 by_cases h1:a=1
 ·obtain rfl:g=1:=by omega
  refine ⟨a,by rw [h1];rfl,?_⟩
  rw [eh (by rw [h1];omega) (by rw [h1];omega),h1,uO]
  split
  ·rename_i h;rw [h]
  ·rcases hb with h | h
   ·contradiction
   ·rw [h]
 ·by_cases h2:b=1
  ·obtain rfl:g=1:=by omega
   refine ⟨a,?_,?_⟩
   ·rcases hK with h | h | h <;> rcases ha with h3 | h3 <;> first | (exact absurd h3 h1) | (rw [h3,h];rfl)
   ·rw [aX h2,h2,eh oa oa,sw]
  ·have ea:a=K:=by omega
   have eb:b=K:=by omega
   have l3:=ry gp (g4 K (by rw [ea];exact Int.dvd_refl K) (by rw [eb];exact Int.dvd_refl K))
   obtain rfl:g=K:=by omega
   refine ⟨1,?_,?_⟩
   ·rcases hK with h | h | h <;> rw [ea,h] <;> rfl
   ·rw [a9 h2,eb,eh oa oa,uO]
structure DenOk (N:Nat) (K:Int) (x:c5):Prop where
 hK:K=1\/K=2\/K=3
 len:x.length<=4
 ok:∀ j,j<x.length->VR N (aM x j)/\0<=(aM x j).1
 den:∀ j,j<x.length->(aM x j).2=1\/(aM x j).2=K
theorem DenOk.w (hN:1073741824<=N) {K:Int} {x:c5} (h:DenOk N K x):∀ i,i<x.length->wOk N (x.getD i (0,0))=true:=fun i hi=>by
 obtain ⟨h1,h2⟩:=h.ok i hi
 unfold VR at h1
 rw [Db] at h1
 unfold wOk
 have e:x.getD i (0,0)=aM x i:=rfl
 rw [e,h1,aW h2];rfl
theorem I2 (hN:1073741824<=N) {K:Int} {x:c5} (h:DenOk N K x):∀ (c k yO:Nat) (d:Int),k+c=x.length->c<yO->(d=1\/d=K) ->
  ∃ d' z,cK N yO x d (k:Int)=some (.inr (d',z))/\(d'=1\/d'=K)/\(d=K->d'=K)/\∀ j,k<=j->j<x.length->(aM x j).2=1\/(aM x j).2=d':=by
 intro c
 induction c with
 | zero =>
  intro k yO d hk hf hd
  obtain ⟨yO,rfl⟩:∃ k',yO=k'+1:=⟨yO-1,oa⟩
  rw [cK,ba oa,am]
  exact ⟨d,_,rfl,hd,id,fun j h1 h2=>by omega⟩
 | succ c ih =>
  intro k yO d hk hf hd
  obtain ⟨yO,rfl⟩:∃ k',yO=k'+1:=⟨yO-1,oa⟩
  have hx4:=h.len
  have hKK:=h.hK
  obtain ⟨h1,h2⟩:=h.ok k oa
  have h3:=h.den k oa
  obtain ⟨g,eg,q,eq,em⟩:=HW hN hKK hd h3
  unfold VR at h1
  rw [cK,aW oa,ag,jX oa,bs,h1,bs,ag,bs,ba oa,am,bs,eg,bs,eq,bs,bs,em,bs]
  have hd2:(if (aM x k).2=1 then d else K)=1\/(if (aM x k).2=1 then d else K)=K:=by
   split
   ·exact hd
   ·exact .inr rfl
  have hle:¬ (1000<(if (aM x k).2=1 then d else K)):=by rcases hd2 with h | h <;> rw [h] <;> omega
  rw [ba hle,am,ce oa oa,bs]
  obtain ⟨d',z,e,g1,g2,g3⟩:=ih (k+1) yO _ oa oa hd2
  refine ⟨d',z,e,g1,fun hdK=>g2 (by rw [hdK];split <;> rfl),fun j hj hjl=>?_⟩
  by_cases ej:j=k
  ·subst ej
   by_cases h5:(aM x j).2=1
   ·exact .inl h5
   ·refine .inr ?_
    rw [g2 (by rw [a9 h5])]
    rcases h3 with h | h
    ·contradiction
    ·exact h
  ·exact g3 j oa hjl
theorem JY (hN:1073741824<=N) {K:Int} {x:c5} (h:DenOk N K x):∃ d:Int,(d=1\/d=K)/\dv N x=some (ku x d x.length,d)/\∀ j,j<x.length->∃ v:Int,(ku x d x.length).getD j 0=v/\0<=v/\(v:Rat)=(d:Rat)*rv (aM x j):=by
 obtain ⟨d,z,e,h1,_,h2⟩:=I2 hN h x.length 0 N 1 oa (by have:=h.len;omega) (.inl rfl)
 have hKK:=h.hK
 have hx4:=h.len
 have e':cK N N x 1 0=some (.inr (d,z)):=e
 refine ⟨d,h1,?_,fun j hj=>?_⟩
 ·unfold dv
  rw [e',bs,iW]
  dsimp only
  rw [BF hN oa (h.w hN) oa oa,bs,lpB]
 ·have hj2:=h2 j oa hj
  obtain ⟨g1,g2⟩:=h.ok j hj
  have ev:(ku x d x.length).getD j 0=(aM x j).1*d.tdiv (aM x j).2:=by
   unfold ku aM
   simp [hj]
  refine ⟨_,ev,?_,?_⟩
  ·refine nY g2 (Int.tdiv_nonneg oa oa)
  ·have hq:=nT hN g1
   have key:(d.tdiv (aM x j).2)*(aM x j).2=d:=by
    rcases hj2 with h | h
    ·rw [h,Int.tdiv_one,sw]
    ·rw [h,Int.tdiv_self oa,uO]
   have kR:((d.tdiv (aM x j).2:Int):Rat)*((aM x j).2:Rat)=(d:Rat):=by
    rw [<- jN,key]
   rw [jN]
   unfold rv
   rw [<- kR]
   grind
end
abbrev Q4:=(Int × Int × Int × Int) × Int
abbrev V4:=Int × Int × Int × Int
def lnI (e:V4) (y:V4):Int:=e.1*y.1+e.2.1*y.2.1+e.2.2.1*y.2.2.1+e.2.2.2*y.2.2.2
def u7:List Q4:=[((1,0,0,0),1),((0,1,0,0),1),((1,1,0,0),1),((0,0,1,0),1),((1,0,1,0),1),((0,1,1,0),1),((1,1,1,0),1),((0,0,0,1),1),((1,0,0,1),1),((0,1,0,1),1),((1,1,0,1),1),((0,0,1,1),1),((1,0,1,1),1),((0,1,1,1),1),((1,1,1,1),1),((1,0,0,0),0),((0,1,0,0),0),((0,0,1,0),0),((0,0,0,1),0)]
def Kn:List V4:=[(0,0,0,(-1)),(0,0,(-1),0),(0,(-1),0,0),((-1),0,0,0),((-1),0,0,1),((-1),0,1,0),(0,(-1),0,1),(0,0,(-1),1),(0,(-1),1,0),((-1),1,0,0),((-1),(-1),0,1),((-1),0,(-1),1),((-1),(-1),1,0),(0,(-1),(-1),1),((-1),0,1,(-1)),((-1),1,(-1),0),(0,(-1),1,(-1)),((-1),1,0,(-1)),((-1),0,1,1),((-1),1,0,1),(0,(-1),1,1),((-1),1,1,0),((-1),(-1),1,1),(0,0,(-1),(-1)),(0,(-1),0,(-1)),(0,(-1),(-1),0),((-1),0,0,(-1)),((-1),0,(-1),0),((-1),(-1),0,0),((-1),1,(-1),1),((-1),1,1,(-1)),((-1),(-1),(-1),1),((-1),(-1),1,(-1)),((-1),1,(-1),(-1)),(0,(-1),(-1),(-1)),((-1),0,(-1),(-1)),((-1),(-1),0,(-1)),((-1),(-1),(-1),0),((-1),(-1),(-1),(-1)),((-1),1,1,1),((-1),1,1,(-2)),((-1),1,(-1),2),((-1),1,(-2),1),((-1),1,2,(-1)),((-1),(-1),1,2),((-1),(-2),1,1),((-1),2,1,(-1)),((-2),(-1),1,1),((-2),1,(-1),1),((-1),(-1),2,1),((-1),2,(-1),1),((-2),1,1,(-1)),((-2),1,1,1),((-1),2,(-1),(-1)),((-1),(-1),2,(-1)),((-1),(-1),(-1),2)]
def d2 (a b c d:Int):Int:=a*d-b*c
def d3 (a b c d e f g h i:Int):Int:=a*d2 e f h i-b*d2 d f g i+c*d2 d e g h
def d4 (a b c d:V4):Int:=a.1*d3 b.2.1 b.2.2.1 b.2.2.2 c.2.1 c.2.2.1 c.2.2.2 d.2.1 d.2.2.1 d.2.2.2-a.2.1*d3 b.1 b.2.2.1 b.2.2.2 c.1 c.2.2.1 c.2.2.2 d.1 d.2.2.1 d.2.2.2+a.2.2.1*d3 b.1 b.2.1 b.2.2.2 c.1 c.2.1 c.2.2.2 d.1 d.2.1 d.2.2.2-a.2.2.2*d3 b.1 b.2.1 b.2.2.1 c.1 c.2.1 c.2.2.1 d.1 d.2.1 d.2.2.1
def cr (f:Q4->V4) (a b c d:Q4):Int:=d4 (f a) (f b) (f c) (f d)
def zr (a b c d:Q4):V4:=(cr (fun e=>(e.2,e.1.2)) a b c d,cr (fun e=>(e.1.1,e.2,e.1.2.2)) a b c d,cr (fun e=>(e.1.1,e.1.2.1,e.2,e.1.2.2.2)) a b c d,cr (fun e=>(e.1.1,e.1.2.1,e.1.2.2.1,e.2)) a b c d)
def HR (y:V4):Bool:=decide (y.1.natAbs<=3)&&decide (y.2.1.natAbs<=3)&&decide (y.2.2.1.natAbs<=3)&&decide (y.2.2.2.natAbs<=3)
def Gh:List Q4->Bool
 | [a,b,c,d]=>!(cr (fun e=>e.1) a b c d == 0)&&decide ((cr (fun e=>e.1) a b c d).natAbs<=3)&&HR (zr a b c d)&&[a,b,c,d].all fun e=>lnI e.1 (zr a b c d) == cr (fun e=>e.1) a b c d*e.2
 | _=>false
def G8 (F:List Q4):Bool:=Kn.any (fun k=>F.all fun e=>lnI e.1 k == 0)||Gh F
def xv {α:Type}:Nat->List α->List (List α)
 | _,[]=>[[]]
 | 0,_ :: _=>[[]]
 | k+1,a :: l=>(xv k l).map (a :: ·)++xv (k+1) l
theorem Mo:(xv 4 u7).all G8=true:=by decide +kernel
theorem wU {α:Type}:∀ {l s:List α} {k:Nat},s.Sublist l->s.length<=k->s∈xv k l
 | [],s,k,h,_=>by
  rw [List.sublist_nil.1 h]
  cases k <;> exact fD.2 rfl
 | a :: l,s,0,_,hk=>by
  rw [ma.1 (Nat.le_zero.1 hk)]
  exact fD.2 rfl
 | a :: l,s,k+1,h,hk=>by
  unfold xv
  cases h with
  | cons _ h=>exact i7 _ (wU h hk)
  | cons_cons _ h=>exact gV _ (fK.2 ⟨_,wU h (by simpa using hk),rfl⟩)
abbrev R4:=Rat × Rat × Rat × Rat
def lnR (e:V4) (y:R4):Rat:=e.1*y.1+e.2.1*y.2.1+e.2.2.1*y.2.2.1+e.2.2.2*y.2.2.2
def vR (y:V4):R4:=(y.1,y.2.1,y.2.2.1,y.2.2.2)
theorem DG (e y:V4):lnR e (vR y)=((lnI e y:Int):Rat):=by
 unfold lnR vR lnI
 simp only [Rat.intCast_add,jN]
def FI (x y:R4):R4:=(x.1+y.1,x.2.1+y.2.1,x.2.2.1+y.2.2.1,x.2.2.2+y.2.2.2)
def yl (c:Rat) (y:R4):R4:=(c*y.1,c*y.2.1,c*y.2.2.1,c*y.2.2.2)
theorem IY (e:V4) (x y:R4):lnR e (FI x y)=lnR e x+lnR e y:=by
 unfold lnR FI
 grind
theorem JH (e:V4) (c:Rat) (y:R4):lnR e (yl c y)=c*lnR e y:=by
 unfold lnR yl
 grind
theorem Jp:∀ k∈Kn,k≠(0,0,0,0):=by decide
theorem CM {E:List Q4} (hE:∀ e∈E,e∈u7) (hl:E.length<=4) {x:R4} (hx:∀ e∈E,lnR e.1 x=(e.2:Rat)) (hu:∀ y:R4,(∀ e∈E,lnR e.1 y=(e.2:Rat))->y=x) :
  ∃ D:Int,D≠0/\D.natAbs<=3/\∃ y:V4,yl D x=vR y/\HR y=true:=by
 have hF:u7.filter (fun e=>decide (e∈E))∈xv 4 u7:=by
  refine wU AP ?_
  refine Nat.le_trans (List.Nodup.length_le_of_subset ?_ ?_) hl
  ·exact List.Nodup.sublist AP (by decide)
  ·intro e he
   exact ro (lW.1 he).2
 have hFE:∀ e,e∈u7.filter (fun e=>decide (e∈E))↔e∈E:=by
  intro e
  rw [lW,dN]
  exact ⟨fun h=>h.2,fun h=>⟨hE e h,h⟩⟩
 have hs:=dL.1 Mo _ hF
 generalize u7.filter (fun e=>decide (e∈E))=F at hF hFE hs
 unfold G8 at hs
 rw [rj] at hs
 rcases hs with hs | hs
 ·exfalso
  obtain ⟨k,hk,hs⟩:=List.any_eq_true.1 hs
  have h1:=hu (FI x (vR k)) (fun e he=>by
   have h2:=dL.1 hs e ((hFE e).2 he)
   rw [qR] at h2
   rw [IY,DG,h2,hx e he]
   exact Rat.add_zero _)
  have h3:∀ {a:Rat} {z:Int},a+(z:Rat)=a->z=0:=by
   intro a z h
   have h4:(z:Rat)=((0:Int):Rat):=by
    have e0:((0:Int):Rat)=0:=rfl
    rw [e0];grind
   exact Rat.intCast_inj.1 h4
  unfold FI vR at h1
  have e1:=aZ Prod.fst h1
  have e2:=aZ (fun p:R4=>p.2.1) h1
  have e3:=aZ (fun p:R4=>p.2.2.1) h1
  have e4:=aZ (fun p:R4=>p.2.2.2) h1
  refine Jp k hk ?_
  obtain ⟨k1,k2,k3,k4⟩:=k
  rw [show k1=0 from h3 e1,show k2=0 from h3 e2,show k3=0 from h3 e3,show k4=0 from h3 e4]
 ·match F,hs,hFE with
  | [a,b,c,d],hs,hFE =>
   unfold Gh at hs
   rw [bU,bU,bU,dN] at hs
   obtain ⟨⟨⟨h1,h2⟩,ht⟩,h3⟩:=hs
   have hD:cr (fun e=>e.1) a b c d≠0:=by
    intro h
    rw [h] at h1
    exact absurd h1 (by decide)
   have h4:∀ e∈E,lnI e.1 (zr a b c d)=cr (fun e=>e.1) a b c d*e.2:=fun e he=>by
    have h5:=dL.1 h3 e ((hFE e).2 he)
    rw [qR] at h5
    exact h5
   generalize cr (fun e=>e.1) a b c d=D at hD h2 h4
   generalize zr a b c d=y at h4 ht
   refine ⟨D,hD,h2,y,?_,ht⟩
   have hDR:(D:Rat)≠0:=fun h=>hD (uM.1 h)
   have h6:=hu (yl (D:Rat)⁻¹ (vR y)) (fun e he=>by
    rw [JH,DG,h4 e he,jN,<- Rat.mul_assoc,Rat.inv_mul_cancel _ hDR,Rat.one_mul])
   rw [<- h6]
   unfold yl vR
   simp only [<- Rat.mul_assoc,Rat.mul_inv_cancel _ hDR,Rat.one_mul]
def od (y:R4):Nat->Rat
 | 0=>y.1
 | 1=>y.2.1
 | 2=>y.2.2.1
 | 3=>y.2.2.2
 | _=>0
def mk4 (g:Nat->Rat):R4:=(g 0,g 1,g 2,g 3)
theorem Gt (g:Nat->Rat) {j:Nat} (h:j<4):od (mk4 g) j=g j:=by
 match j,h with
 | 0,_=>rfl
 | 1,_=>rfl
 | 2,_=>rfl
 | 3,_=>rfl
theorem Ih (y:R4):mk4 (od y)=y:=rfl
theorem GQ {g h:Nat->Rat} (e:∀ j,j<4->g j=h j):mk4 g=mk4 h:=by
 unfold mk4
 rw [e 0 (by decide),e 1 (by decide),e 2 (by decide),e 3 (by decide)]
theorem LM {g:Nat->Rat}:∀ {n:Nat},n<=4->(∀ j,n<=j->j<4->g j=0)->eF 4 g=eF n g:=by
 intro n hn h
 match n,hn,h with
 | 4,_,_=>rfl
 | 3,_,h =>
  have h3:=h 3 (by decide) (by decide)
  show eF 3 g+g 3=_
  rw [h3];grind
 | 2,_,h =>
  have h3:=h 3 (by decide) (by decide)
  have h2:=h 2 (by decide) (by decide)
  show eF 2 g+g 2+g 3=_
  rw [h3,h2];grind
 | 1,_,h =>
  have h3:=h 3 (by decide) (by decide)
  have h2:=h 2 (by decide) (by decide)
  have h1:=h 1 (by decide) (by decide)
  show eF 1 g+g 1+g 2+g 3=_
  rw [h3,h2,h1];grind
 | 0,_,h =>
  have h3:=h 3 (by decide) (by decide)
  have h2:=h 2 (by decide) (by decide)
  have h1:=h 1 (by decide) (by decide)
  have h0:=h 0 (by decide) (by decide)
  show eF 0 g+g 0+g 1+g 2+g 3=_
  rw [h3,h2,h1,h0];grind
theorem BG {g:Nat->Rat}:∀ {n:Nat},(∀ j,j<n->g j=0)->eF n g=0
 | 0,_=>rfl
 | n+1,h=>by
  have h1:=BG (n:=n) fun j hj=>h j oa
  have h2:=h n oa
  unfold eF
  rw [h1,h2];grind
def pD (r:c5) (b:Int):Q4:=(((aM r 0).1,(aM r 1).1,(aM r 2).1,(aM r 3).1),b)
theorem G4 {r:eD} (h:o3 r):rv r=(r.1:Rat):=by
 rcases h with rfl | rfl
 ·exact pu 0
 ·exact pu 1
theorem Eh {r:c5} {na:Nat} (hl:r.length=na) (h4:na<=4) (hb:∀ j,j<na->o3 (aM r j)) (b:Int) (y:R4):lnR (pD r b).1 y=eF na (fun j=>rv (aM r j)*od y j):=by
 have h0:∀ j,na<=j->(aM r j).1=0:=fun j hj=>by
  unfold aM
  rw [pL,List.getElem?_eq_none oa];rfl
 have e1:eF na (fun j=>rv (aM r j)*od y j)=eF na (fun j=>((aM r j).1:Rat)*od y j):=gX fun j hj=>by rw [G4 (hb j hj)]
 rw [e1,<- LM h4 fun j h1 h2=>by
  rw [h0 j h1]
  have:((0:Int):Rat)=0:=rfl
  rw [this];exact wz _]
 show _=(0:Rat)+_*_+_*_+_*_+_*_
 unfold lnR pD od
 dsimp only
 grind
theorem BL {n j:Nat} (h:j<n):aM (List.replicate n (0,1)) j=(0,1):=by
 unfold aM;simp [h]
theorem Cs (y:R4):∀ j,j<4->lnR (pD (lZ 4 j) 0).1 y=od y j:=by
 intro j hj
 rw [Eh (w7 4 j) (bN 4) (fun i hi=>?_) 0 y]
 ·rw [yg hj fun i hi hij=>?_]
  ·have:aM (lZ 4 j) j=(1,1):=by unfold lZ;rw [rf (by rw [wW];exact hj),aX rfl]
   rw [this,pu]
   have e:((1:Int):Rat)=1:=rfl
   rw [e];grind
  ·have:aM (lZ 4 j) i=(0,1):=by
    unfold lZ
    rw [rf (by rw [wW];exact hj),a9 hij]
    exact BL hi
   rw [this,pu]
   have e:((0:Int):Rat)=0:=rfl
   rw [e];exact wz _
 ·unfold lZ
  rw [rf (by rw [wW];exact hj)]
  split
  ·exact .inr rfl
  ·exact .inl (BL hi)
theorem JE:∀ a∈([0,1]:yQ),∀ b∈([0,1]:yQ),∀ c∈([0,1]:yQ),∀ d∈([0,1]:yQ),(a=0/\b=0/\c=0/\d=0)\/((a,b,c,d),(1:Int))∈u7:=by decide
theorem Ea:∀ na,na<=4->∀ i,i<na->pD (lZ na i) 0∈u7:=by
 intro na hna
 match na,hna with
 | 0,_=>intro i hi;exact absurd hi (Nat.not_lt_zero i)
 | 1,_=>intro i hi;match i,hi with
  | 0,_=>decide
 | 2,_=>intro i hi;match i,hi with
  | 0,_=>decide
  | 1,_=>decide
 | 3,_=>intro i hi;match i,hi with
  | 0,_=>decide
  | 1,_=>decide
  | 2,_=>decide
 | 4,_=>intro i hi;match i,hi with
  | 0,_=>decide
  | 1,_=>decide
  | 2,_=>decide
  | 3,_=>decide
theorem Hc {n i j:Nat} (hi:i<n) (hj:j<n):o3 (aM (lZ n i) j):=by
 unfold lZ
 rw [rf (by simpa using hi)]
 split
 ·exact .inr rfl
 ·refine .inl ?_
  unfold aM;simp [hj]
section
variable {N:Nat}
theorem Bx (hN:1073741824<=N) {n:Nat} {yL:List bj} (n5:n<=5) (a1:1<=yL.length) (a4:yL.length<=4) {x:c5} (hp:iM N n yL x) :
  ∃ K:Int,DenOk N K x/\∀ j,j<x.length->(K:Rat)*rv (aM x j)<=3:=by
 obtain ⟨F,l,hl,hs⟩:=hp
 obtain ⟨m1,m2⟩:=tA hl
 have hxl:=F.len
 have hsh:=El (n:=n) (yL:=yL) m1
 have hbl:(jW n l).length=yL.length:=by unfold jW pC;rw [cD,cD,m1]
 obtain ⟨x',ok,es,hsol⟩:=Ae hN (n:=yL.length) oa hsh hbl
 rw [hs] at es
 obtain ⟨rfl,rfl⟩:x=x'/\true=ok:=by
  have:=c8 es
  exact ⟨aZ Prod.fst this,aZ Prod.snd this⟩
 obtain ⟨_,hv,hiff⟩:=hsol rfl
 have hrow:∀ i (hi:i<yL.length),bI (kq (bY n yL) n yL.length l) i=lH (bY n yL) n yL.length (l[i]'oa).toNat/\aM (jW n l) i=nC n (l[i]'oa).toNat:=fun i hi=>by
  constructor
  ·unfold bI kq pC
   simp [m1,hi]
  ·unfold aM jW pC
   simp [m1,hi]
 -- the rows are bits
 have hrb:∀ k:Nat,k<n+yL.length->(lH (bY n yL) n yL.length k).length=yL.length/\∀ j,j<yL.length->o3 (aM (lH (bY n yL) n yL.length k) j):=fun k hk=>by
  unfold lH
  split
  ·rename_i h
   refine ⟨qu.2 k h,fun j hj=>?_⟩
   have:aM (bI (bY n yL) k) j=cell (bY n yL) k j:=rfl
   rw [this,nQ h hj]
   exact rX _ _
  ·exact ⟨w7 _ _,fun j hj=>Hc oa hj⟩
 have hlt:∀ i (hi:i<yL.length),(l[i]'oa).toNat<n+yL.length:=fun i hi=>by
  have:=m2 _ (bF (show i<l.length by omega))
  omega
 let E:List Q4:=(List.range' 0 yL.length).map (fun i=>pD (lH (bY n yL) n yL.length (l.getD i 0).toNat) (nC n (l.getD i 0).toNat).1)++(List.range' yL.length (4-yL.length)).map (fun j=>pD (lZ 4 j) 0)
 have hgd:∀ i (hi:i<yL.length),l.getD i 0=l[i]'oa:=fun i hi=>by simp [m1,hi]
 have memE:∀ e,e∈E->(∃ i,∃ hi:i<yL.length,e=pD (bI (kq (bY n yL) n yL.length l) i) (aM (jW n l) i).1)\/∃ j,yL.length<=j/\j<4/\e=pD (lZ 4 j) 0:=fun e he=>by
  rcases dj.1 he with h | h
  ·obtain ⟨i,hi,rfl⟩:=fK.1 h
   have hi:i<yL.length:=by simpa using hi
   refine .inl ⟨i,hi,?_⟩
   rw [(hrow i hi).1,(hrow i hi).2,hgd i hi]
  ·obtain ⟨j,hj,rfl⟩:=fK.1 h
   rw [za] at hj
   exact .inr ⟨j,hj.1,oa,rfl⟩
 have inE1:∀ i,i<yL.length->pD (bI (kq (bY n yL) n yL.length l) i) (aM (jW n l) i).1∈E:=fun i hi=>by
  refine gV _ (fK.2 ⟨i,by simpa using hi,?_⟩)
  rw [(hrow i hi).1,(hrow i hi).2,hgd i hi]
 have inE2:∀ j,yL.length<=j->j<4->pD (lZ 4 j) 0∈E:=fun j h1 h2 =>
  i7 _ (fK.2 ⟨j,za.2 ⟨h1,oa⟩,rfl⟩)
 have hrl:∀ i (hi:i<yL.length) (b:Int) (y:R4),lnR (pD (bI (kq (bY n yL) n yL.length l) i) b).1 y=eF yL.length (fun j=>cv (kq (bY n yL) n yL.length l) i j*od y j):=fun i hi b y=>by
  obtain ⟨k1,k2⟩:=hrb _ (hlt i hi)
  rw [(hrow i hi).1,Eh k1 a4 k2]
  refine gX fun j hj=>?_
  unfold cv cell
  rw [(hrow i hi).1]
 have hrhs:∀ i (hi:i<yL.length),rv (aM (jW n l) i)=((aM (jW n l) i).1:Rat):=fun i hi=>by
  rw [(hrow i hi).2]
  refine G4 ?_
  unfold nC
  split
  ·exact .inr rfl
  ·exact .inl rfl
 have hE:∀ e∈E,e∈u7:=fun e he=>by
  rcases memE e he with ⟨i,hi,rfl⟩ | ⟨j,h1,h2,rfl⟩
  ·obtain ⟨k1,k2⟩:=hrb _ (hlt i hi)
   rw [(hrow i hi).1,(hrow i hi).2]
   by_cases hn:(l[i]'oa).toNat<n
   ·have er:lH (bY n yL) n yL.length (l[i]'oa).toNat=bI (bY n yL) (l[i]'oa).toNat:=by unfold lH;rw [aX hn]
    have eb:nC n (l[i]'oa).toNat=(1,1):=by unfold nC;rw [aX hn]
    rw [eb]
    have hz:=F.ge _ hn
    rw [er] at k1 k2 ⊢
    have hbit:∀ j,(aM (bI (bY n yL) (l[i]'oa).toNat) j).1∈([0,1]:yQ):=fun j=>by
     by_cases hj:j<yL.length
     ·rcases k2 j hj with h | h <;> rw [h] <;> decide
     ·have:(aM (bI (bY n yL) (l[i]'oa).toNat) j).1=0:=by
       unfold aM
       rw [pL,List.getElem?_eq_none oa];rfl
      rw [this];decide
    rcases JE _ (hbit 0) _ (hbit 1) _ (hbit 2) _ (hbit 3) with ⟨z0,z1,z2,z3⟩ | h
    ·exfalso
     have hall:∀ j,j<yL.length->cv (bY n yL) (l[i]'oa).toNat j=0:=fun j hj=>by
      have hzj:(aM (bI (bY n yL) (l[i]'oa).toNat) j).1=0:=by
       match j,(show j<4 by omega) with
       | 0,_=>exact z0
       | 1,_=>exact z1
       | 2,_=>exact z2
       | 3,_=>exact z3
      exact ES hzj
     rw [BG fun j hj=>by rw [hall j hj];exact wz _] at hz
     exact absurd hz (by decide)
    ·exact h
   ·have er:lH (bY n yL) n yL.length (l[i]'oa).toNat=lZ yL.length ((l[i]'oa).toNat-n):=by unfold lH;rw [a9 hn]
    have eb:nC n (l[i]'oa).toNat=(0,1):=by unfold nC;rw [a9 hn]
    rw [er,eb]
    exact Ea _ a4 _ (by have:=hlt i hi;omega)
  ·exact Ea 4 (bN 4) j h2
 have hEl:E.length<=4:=by
  show (List.map _ _++List.map _ _).length<=4
  rw [b8,cD,cD,xe,xe]
  omega
 have hx4:∀ j,j<4->od (mk4 fun j=>if j<yL.length then rv (aM x j) else 0) j=if j<yL.length then rv (aM x j) else 0:=fun j hj=>Gt _ hj
 have hself:=(hiff fun j=>rv (aM x j)).2 fun j _=>rfl
 obtain ⟨D,D0,D3,y,hy,ht⟩:=CM hE hEl (x:=mk4 fun j=>if j<yL.length then rv (aM x j) else 0) (fun e he=>by
  rcases memE e he with ⟨i,hi,rfl⟩ | ⟨j,h1,h2,rfl⟩
  ·rw [hrl i hi]
   show _=(((aM (jW n l) i).1:Int):Rat)
   rw [<- hrhs i hi,<- hself i hi]
   refine gX fun j hj=>?_
   rw [hx4 j oa,aX hj]
  ·rw [Cs _ j h2,hx4 j h2,a9 oa]
   rfl) (fun z hz=>by
  have h1:=(hiff (od z)).1 fun i hi=>by
   have h2:=hz _ (inE1 i hi)
   rw [hrl i hi] at h2
   rw [hrhs i hi]
   exact h2
  rw [<- Ih z]
  refine GQ fun j hj=>?_
  by_cases hja:j<yL.length
  ·rw [aX hja];exact h1 j hja
  ·rw [a9 hja]
   have h3:=hz _ (inE2 j oa hj)
   rw [Cs _ j hj] at h3
   exact h3)
 have hcomp:∀ j,j<x.length->∃ w:Int,w.natAbs<=3/\(D:Rat)*rv (aM x j)=(w:Rat):=fun j hj=>by
  have hja:j<yL.length:=by omega
  have h1:=aZ (fun z=>od z j) hy
  unfold HR at ht
  simp only [bU,dN] at ht
  have h2:od (yl (D:Rat) (mk4 fun j=>if j<yL.length then rv (aM x j) else 0)) j=(D:Rat)*rv (aM x j):=by
   have h3:od (yl (D:Rat) (mk4 fun j=>if j<yL.length then rv (aM x j) else 0)) j=(D:Rat)*(if j<yL.length then rv (aM x j) else 0):=by
    match j,(show j<4 by omega) with
    | 0,_=>rfl
    | 1,_=>rfl
    | 2,_=>rfl
    | 3,_=>rfl
   rw [h3,aX hja]
  rw [h2] at h1
  match j,(show j<4 by omega),h1 with
  | 0,_,h1=>exact ⟨y.1,ht.1.1.1,h1⟩
  | 1,_,h1=>exact ⟨y.2.1,ht.1.1.2,h1⟩
  | 2,_,h1=>exact ⟨y.2.2.1,ht.1.2,h1⟩
  | 3,_,h1=>exact ⟨y.2.2.2,ht.2,h1⟩
 have hden:∀ j,j<x.length->(aM x j).2 ∣ D:=fun j hj=>by
  obtain ⟨w,_,hw⟩:=hcomp j hj
  obtain ⟨g1,_⟩:=F.ok j hj
  have hq:=nT hN g1
  have hg:=((iG hN).1 g1).2.2.2.2
  have h1:((D*(aM x j).1:Int):Rat)=((w*(aM x j).2:Int):Rat):=by
   rw [jN,jN,<- hw]
   unfold rv
   grind
  have h2:=Rat.intCast_inj.1 h1
  have h3:(aM x j).2 ∣ D*(aM x j).1:=by rw [h2];exact Int.dvd_mul_left _ _
  have h4:=Int.natAbs_dvd_natAbs.2 h3
  rw [Int.natAbs_mul] at h4
  have h5:Nat.Coprime (aM x j).2.natAbs (aM x j).1.natAbs:=by
   unfold Nat.Coprime
   rw [Nat.gcd_comm]
   exact hg
  exact Int.natAbs_dvd_natAbs.1 (h5.dvd_of_dvd_mul_right h4)
 refine ⟨(D.natAbs:Int),⟨oa,oa,F.ok,fun j hj=>?_⟩,fun j hj=>?_⟩
 ·have h1:=hden j hj
  have h2:(aM x j).2 ∣ (D.natAbs:Int):=Int.dvd_natAbs.2 h1
  have h3:=((iG hN).1 (F.ok j hj).1).1
  have h4:=ry oa h2
  generalize (aM x j).2=q at h2 h3 h4
  by_cases e1:q=1
  ·exact .inl e1
  ·by_cases e2:q=(D.natAbs:Int)
   ·exact .inr e2
   ·have e3:q=2:=by omega
    have e4:(D.natAbs:Int)=3:=by omega
    rw [e3,e4] at h2
    exact absurd h2 (by decide)
 ·obtain ⟨w,w3,hw⟩:=hcomp j hj
  have h0:0<=rv (aM x j):=by
   have h1:=(F.ok j hj).2
   have h3:=((iG hN).1 (F.ok j hj).1).1
   unfold rv
   rw [nO]
   exact mz (zl.2 h1) (rc (Rat.inv_pos.2 (xj.2 oa)))
  have e3:((3:Int):Rat)=3:=rfl
  rcases Int.natAbs_eq D with e | e
  ·rw [<- e,hw,<- e3]
   exact s8.2 oa
  ·have h5:((D.natAbs:Int):Rat)*rv (aM x j)=((-w:Int):Rat):=by
    have h6:(D.natAbs:Int)=-D:=by omega
    rw [h6,wO,wO,Rat.neg_mul,hw]
   rw [h5,<- e3]
   exact s8.2 oa
end
def wtL (k:Nat->Nat) (I:List Nat):List Nat:=I.flatMap fun i=>List.replicate (k i) i
theorem FO (c:Nat->Bool) (m i:Nat):((List.replicate m i).filter c).length=if c i=true then m else 0:=by
 rw [List.filter_replicate]
 split <;> simp
theorem ET (c:Nat->Bool) (k:Nat->Nat):∀ I:List Nat,((wtL k I).filter c).length=smN (I.map fun i=>if c i=true then k i else 0)
 | []=>rfl
 | i :: I=>by
  have ih:=ET c k I
  unfold wtL at ih ⊢
  rw [sO,uY,b8,FO,ih];rfl
theorem Bs:∀ a b:List Nat,prN (a++b)=prN a*prN b
 | [],b=>by rw [List.nil_append];exact (lw _).symm
 | x :: a,b=>by
  have:=Bs a b
  show x*prN (a++b)=x*prN a*prN b
  rw [this,Nat.mul_assoc]
theorem JO (m x:Nat):prN (List.replicate m x)=x ^ m:=by
 induction m with
 | zero=>rfl
 | succ m ih =>
  rw [Ab,pZ,uz]
  show x*prN (List.replicate m x)=_
  rw [ih]
theorem FR (k f:Nat->Nat):∀ I:List Nat,prN ((wtL k I).map f)=prN (I.map fun i=>f i ^ k i)
 | []=>rfl
 | i :: I=>by
  have ih:=FR k f I
  unfold wtL at ih ⊢
  rw [sO,fE,Bs,ih,List.map_replicate,JO];rfl
theorem Cy (k:Nat->Nat):∀ n:Nat,eF n (fun j=>((k j:Nat):Rat))=((smN ((List.range' 0 n).map k):Nat):Rat)
 | 0=>rfl
 | n+1=>by
  have ih:=Cy k n
  rw [oD,fE,vJ]
  unfold eF
  rw [ih,uG]
  simp only [e9,lw,fI,nS]
  congr 1
theorem CV {g:Nat->Rat} {c:Rat}:∀ n:Nat,c*eF n g=eF n (fun j=>c*g j)
 | 0=>by unfold eF;grind
 | n+1=>by
  have:=CV (g:=g) (c:=c) n
  unfold eF
  rw [<- this];grind
section
variable {N:Nat}
theorem ww (hN:1073741824<=N) {n:Nat} {yL:List bj} (n5:n<=5) (a1:1<=yL.length) (a4:yL.length<=4) {x:c5} (hp:iM N n yL x) :
  ∃ (d:Nat) (k:Nat->Nat),1<=d/\d<=3/\(∀ i,i<yL.length->k i<=3)/\dv N x=some ((List.range' 0 yL.length).map (fun i:Nat=>(k i:Int)),(d:Int))/\Cov yL n (wtL k (List.range' 0 yL.length)) d:=by
 obtain ⟨K,hD,hK⟩:=Bx hN n5 a1 a4 hp
 obtain ⟨F,_⟩:=hp
 have hxl:=F.len
 obtain ⟨d,hd,es,hv⟩:=JY hN hD
 have hKK:=hD.hK
 have hd3:1<=d/\d<=3/\d<=K:=by omega
 refine ⟨d.toNat,fun i=>((ku x d x.length).getD i 0).toNat,oa,oa,fun i hi=>?_,?_,?_⟩
 ·obtain ⟨v,e,v0,ev⟩:=hv i oa
  have h1:=hK i oa
  have h0:0<=rv (aM x i):=by
   have h1:=(F.ok i oa).2
   have h3:=((iG hN).1 (F.ok i oa).1).1
   unfold rv
   rw [nO]
   exact mz (zl.2 h1) (rc (Rat.inv_pos.2 (xj.2 oa)))
  have h2:(d:Rat)*rv (aM x i)<=(K:Rat)*rv (aM x i):=zi (s8.2 hd3.2.2) h0
  have h3:(v:Rat)<=((3:Int):Rat):=by
   rw [ev]
   exact uU h2 h1
  have h4:=s8.1 h3
  show ((ku x d x.length).getD i 0).toNat<=3
  rw [e];omega
 ·rw [es,uP oa]
  congr 2
  have hl:(ku x d x.length).length=yL.length:=by unfold ku;simp [hxl]
  refine sM (by rw [hl];simp) fun i h1 h2=>?_
  obtain ⟨v,e,v0,_⟩:=hv i oa
  rw [bP h1] at e
  simp only [ky,w9,e9,lw]
  rw [bP h1,e,uP v0]
 ·refine ⟨oa,fun i hi=>?_,fun v h0 h1=>?_⟩
  ·unfold wtL at hi
   obtain ⟨j,hj,h⟩:=uA.1 hi
   rw [List.eq_of_mem_replicate h]
   simpa using hj
  ·rw [ET]
   obtain ⟨u,rfl⟩:∃ u:Nat,v=(u:Int):=⟨v.toNat,oa⟩
   have hg:=F.ge u oa
   have h2:(d:Rat)*1<=(d:Rat)*eF yL.length (fun j=>cv (bY n yL) u j*rv (aM x j)):=wN hg (zl.2 oa)
   rw [CV,gX (h:=fun j=>(((if decide ((u:Int)∈(cx yL j).2)=true then ((ku x d x.length).getD j 0).toNat else 0:Nat):Nat):Rat)) fun j hj=>by
    obtain ⟨w,e,w0,ew⟩:=hv j oa
    have hb:cv (bY n yL) u j=if decide ((u:Int)∈(cx yL j).2)=true then 1 else 0:=by
     unfold cv
     rw [nQ oa hj]
     unfold n7
     cases decide ((u:Int)∈(cx yL j).2) with
     | true=>rw [ag,aX rfl,pu];rfl
     | false=>rw [am,a9 (by decide),pu];rfl
    have hw:((w.toNat:Nat):Rat)=(w:Rat):=by
     rw [<- Rat.intCast_natCast,uP w0]
    rw [hb]
    split
    ·rw [e,hw,ew];grind
    ·have e0:((0:Nat):Rat)=0:=rfl
     rw [e0];grind,Cy] at h2
   have h3:((d.toNat:Nat):Rat)=(d:Rat):=by rw [<- Rat.intCast_natCast,uP oa]
   rw [Rat.mul_one,<- h3] at h2
   exact Rat.natCast_le_natCast.1 h2
end
def y7 {α:Type}:List (List α)->List (List α)
 | []=>[[]]
 | l :: ls=>l.flatMap fun a=>(y7 ls).map fun s=>a :: s
theorem vz {ι α:Type} {f:ι->List α} {g:ι->α}:∀ {I:List ι},(∀ i∈I,g i∈f i)->I.map g∈y7 (I.map f)
 | [],_=>fD.2 rfl
 | i :: I,h=>uA.2 ⟨g i,h i dM,fK.2 ⟨_,vz fun j hj=>h j (fJ _ hj),rfl⟩⟩
def xt (na:Nat) (S:List Nat) (i:Nat):List c5:=y7 ((List.range' 0 na).map fun j=>bif S.contains j then [bif Nat.beq j i then (1,1) else (0,1)] else [(0,1),(1,1)])
def wx (na:Nat) (S:List Nat):List Nat:=(List.range' 0 na).filter fun j=>!S.contains j
def ptS (na:Nat) (S:List Nat):c5:=(List.range' 0 na).map fun j=>bif S.contains j then (1,1) else (0,1)
def Fu (na:Nat) (S:List Nat) (R:fh):fh:=R++(wx na S).map (lZ na)
def Fk (na:Nat) (S:List Nat):c5:=S.map (fun _=>(1,1))++(wx na S).map fun _=>(0,1)
def Mb (M na:Nat) (S:List Nat) (R:fh):Bool:=decide (dZ (M+100) (Fu na S R) (Fk na S)=some (ptS na S,true))
def Fp (na s:Nat):List (List Nat):=(y7 (List.replicate s (List.range' 0 na))).filter fun S=>decide S.Nodup
def tg (M na s:Nat):Bool:=(Fp na s).all fun S=>(y7 (S.map (xt na S))).all fun R=>Mb M na S R
theorem MB (M:Nat):tg M 1 1=true:=by kernel_rfl
theorem Ms (M:Nat):(tg M 2 1&&tg M 2 2)=true:=by kernel_rfl
theorem ME (M:Nat):(tg M 3 1&&(tg M 3 2&&tg M 3 3))=true:=by kernel_rfl
theorem Mn (M:Nat):tg M 4 1=true:=by kernel_rfl
theorem L7 (M:Nat):tg M 4 2=true:=by kernel_rfl
theorem LZ (M:Nat):tg M 4 3=true:=by kernel_rfl
theorem Mh (M:Nat):tg M 4 4=true:=by kernel_rfl
theorem MN (bit:Nat->Nat->Bool) (n:Nat):∀ (m:Nat) (S:List Nat),S.length<=m->S.Nodup->(∀ v,v<n->∃ j∈S,bit v j=true) ->
  ∃ S':List Nat,S'.Nodup/\(∀ j∈S',j∈S)/\(∀ v,v<n->∃ j∈S',bit v j=true)/\∀ i∈S',∃ v,v<n/\bit v i=true/\∀ j∈S',j≠i->bit v j=false:=by
 intro m
 induction m with
 | zero =>
  intro S hm hn hc
  have:S=[]:=ma.1 oa
  subst this
  exact ⟨[],hn,fun _ h=>h,hc,by simp⟩
 | succ m ih =>
  intro S hm hn hc
  by_cases h:∃ i∈S,∀ v,v<n->∃ j∈S.erase i,bit v j=true
  ·obtain ⟨i,hi,h⟩:=h
   have hl:=wZ hi
   obtain ⟨S',h1,h2,h3,h4⟩:=ih (S.erase i) oa (hn.erase i) h
   exact ⟨S',h1,fun j hj=>List.mem_of_mem_erase (h2 j hj),h3,h4⟩
  ·refine ⟨S,hn,fun _ h=>h,hc,fun i hi=>?_⟩
   have h1:¬ ∀ v,v<n->∃ j∈S.erase i,bit v j=true:=fun h2=>h ⟨i,hi,h2⟩
   obtain ⟨v,h2⟩:=Classical.not_forall.1 h1
   have hv:v<n:=s7 fun h3=>h2 fun h4=>absurd h4 h3
   have h5:∀ j∈S,j≠i->bit v j=false:=fun j hj hji=>by
    cases hb:bit v j with
    | false=>rfl
    | true=>exact absurd (fun _=>⟨j,(AJ hji).2 hj,hb⟩) h2
   obtain ⟨j,hj,hb⟩:=hc v hv
   by_cases e:j=i
   ·subst e;exact ⟨v,hv,hb,h5⟩
   ·rw [h5 j hj e] at hb;cases hb
theorem BU {S:List Nat} {na:Nat} (hn:S.Nodup) (hb:∀ j∈S,j<na):S.length+(wx na S).length=na:=by
 have h1:((List.range' 0 na).filter fun j=>S.contains j).length=S.length:=by
  refine Nat.le_antisymm (List.Nodup.length_le_of_subset (List.Nodup.sublist AP List.nodup_range') fun j hj=>?_) (List.Nodup.length_le_of_subset hn fun j hj=>?_)
  ·simpa using (lW.1 hj).2
  ·exact lW.2 ⟨by simpa using hb j hj,by simpa using hj⟩
 have h2:∀ I:List Nat,(I.filter fun j=>S.contains j).length+(I.filter fun j=>!S.contains j).length=I.length:=by
  intro I
  induction I with
  | nil=>rfl
  | cons i I ih =>
   rw [rr,rr]
   cases S.contains i
   ·simp only [tc,if_true,xl,nj,bW];omega
   ·simp only [uv,if_true,xl,nj,bW];omega
 have h3:=h2 (List.range' 0 na)
 rw [xe,h1] at h3
 exact h3
theorem IZ {M na:Nat} (h4:na<=4) {S:List Nat} (hn:S.Nodup) (hb:∀ j∈S,j<na) (hs:S≠[]) {R:fh} (hR:R∈y7 (S.map (xt na S))):dZ (M+100) (Fu na S R) (Fk na S)=some (ptS na S,true):=by
 have hl:=BU hn hb
 have hp:=wn.2 hs
 have key:tg M na S.length=true:=by
  have c2:=Ms M
  have c3:=ME M
  simp only [bU] at c2 c3
  match na,h4,S.length,(show S.length<=na by omega),hp with
  | 0,_,k,h1,h2=>omega
  | 1,_,1,_,_=>exact MB M
  | 2,_,1,_,_=>exact c2.1
  | 2,_,2,_,_=>exact c2.2
  | 3,_,1,_,_=>exact c3.1
  | 3,_,2,_,_=>exact c3.2.1
  | 3,_,3,_,_=>exact c3.2.2
  | 4,_,1,_,_=>exact Mn M
  | 4,_,2,_,_=>exact L7 M
  | 4,_,3,_,_=>exact LZ M
  | 4,_,4,_,_=>exact Mh M
 have hm:S∈Fp na S.length:=by
  unfold Fp
  rw [lW,dN]
  refine ⟨?_,hn⟩
  have h:=vz (f:=fun _:Nat=>List.range' 0 na) (g:=fun j=>j) (I:=S) fun j hj=>by simpa using hb j hj
  rw [List.map_id'] at h
  have e:S.map (fun _:Nat=>List.range' 0 na)=List.replicate S.length (List.range' 0 na):=List.map_const' ..
  rw [e] at h
  exact h
 have h1:=dL.1 (dL.1 key S hm) R hR
 exact ro h1
section
variable {N:Nat}
theorem CK (hN:1073741824<=N) {n:Nat} {yL:List bj} (n1:1<=n) (n5:n<=5) (a1:1<=yL.length) (a4:yL.length<=4) (hc:∀ v,v<n->∃ j,j<yL.length/\((v:Nat):Int)∈(cx yL j).2) :
  ∃ x,iM N n yL x/\jY N (bY n yL) (bt n) (bt yL.length) x 1=some true:=by
 obtain ⟨S,s1,s2,s3,s4⟩:=MN (fun v j=>decide ((v:Int)∈(cx yL j).2)) n yL.length (List.range' 0 yL.length) (by simp) List.nodup_range' fun v hv=>by
  obtain ⟨j,h1,h2⟩:=hc v hv
  exact ⟨j,by simpa using h1,aW h2⟩
 have hpx:∀ i,∃ v,i∈S->v<n/\decide (((v:Nat):Int)∈(cx yL i).2)=true/\∀ j∈S,j≠i->decide (((v:Nat):Int)∈(cx yL j).2)=false:=fun i=>by
  by_cases h:i∈S
  ·obtain ⟨v,h1⟩:=s4 i h
   exact ⟨v,fun _=>h1⟩
  ·exact ⟨0,fun h'=>absurd h' h⟩
 obtain ⟨p,hp⟩:=Classical.skolem.1 hpx
 have inj:∀ i∈S,∀ j∈S,p i=p j->i=j:=fun i hi j hj e=>by
  refine s7 fun hne=>?_
  have h1:=(hp i hi).2.2 j hj fun h=>hne h.symm
  have h2:=(hp j hj).2.1
  rw [<- e,h1] at h2;cases h2
 -- in the yM of the rows
 have hperm:=List.mergeSort_perm S (fun a b=>decide (p a<=p b))
 have hsort:(S.mergeSort fun a b=>decide (p a<=p b)).Pairwise fun a b=>decide (p a<=p b)=true :=
  List.pairwise_mergeSort (le:=fun a b=>decide (p a<=p b)) (fun a b c h1 h2=>aW (Nat.le_trans (ro h1) (ro h2))) (fun a b=>by
   rcases Nat.le_total (p a) (p b) with h | h
   ·rw [aW h];rfl
   ·rw [aW h,Bool.or_true]) S
 generalize S.mergeSort (fun a b=>decide (p a<=p b))=T at hperm hsort
 have hT:∀ j,j∈T↔j∈S:=fun j=>hperm.mem_iff
 have tn:T.Nodup:=hperm.nodup_iff.2 s1
 have tb:∀ j∈T,j<yL.length:=fun j hj=>by simpa using s2 j ((hT j).1 hj)
 have tne:T≠[]:=fun e=>by
  obtain ⟨j,hj,_⟩:=s3 0 oa
  rw [<- hT j,e] at hj;cases hj
 have hlen:=BU tn tb
 have hrowB:∀ i∈T,bI (bY n yL) (p i)=(List.range' 0 yL.length).map fun j=>n7 (cx yL j) (p i:Int):=fun i hi=>by
  have hpi:=(hp i ((hT i).1 hi)).1
  refine sM (by rw [qu.2 _ hpi];simp) fun j h1 h2=>?_
  have hj:j<yL.length:=by rw [qu.2 _ hpi] at h1;exact h1
  have h3:=nQ (yL:=yL) hpi hj
  unfold cell aM at h3
  rw [ky,w9,e9,lw,<- h3]
  simp [h1]
 have hR:T.map (fun i=>bI (bY n yL) (p i))∈y7 (T.map (xt yL.length T)):=vz fun i hi=>by
  rw [hrowB i hi]
  unfold xt
  refine vz fun j hj=>?_
  obtain ⟨_,g2,g3⟩:=hp i ((hT i).1 hi)
  by_cases hjT:j∈T
  ·rw [show T.contains j=true by simpa using hjT,ag,fD]
   unfold n7
   by_cases e:j=i
   ·subst e
    rw [g2,show Nat.beq j j=true from Nat.beq_refl j,ag]
   ·rw [g3 j ((hT j).1 hjT) e,show Nat.beq j i=false from by
     cases hb:Nat.beq j i with
     | false=>rfl
     | true=>exact absurd (sS hb) e,am]
  ·rw [show T.contains j=false by simpa using hjT,am]
   unfold n7
   cases decide ((p i:Int)∈(cx yL j).2)
   ·exact dM
   ·exact fJ _ dM
 obtain ⟨M,rfl⟩:∃ M,N=M+100:=⟨N-100,oa⟩
 have hsol:=IZ (M:=M) a4 tn tb tne hR
 -- the pick
 let l:List Nat:=T.map p++(wx yL.length T).map fun j=>n+j
 have hll:l.length=yL.length:=by
  show (T.map p++(wx yL.length T).map fun j=>n+j).length=_
  rw [b8,cD,cD];exact hlen
 have hasc:l.Pairwise (·<·):=by
  refine um.2 ⟨?_,?_,fun a ha b hb=>?_⟩
  ·rw [List.pairwise_map]
   refine (List.Pairwise.and hsort tn).imp_of_mem fun {a b} ha hb h=>?_
   have h1:p a<=p b:=ro h.1
   have h2:p a≠p b:=fun e=>h.2 (inj a ((hT a).1 ha) b ((hT b).1 hb) e)
   omega
  ·rw [List.pairwise_map]
   have:(wx yL.length T).Pairwise (·<·):=List.Pairwise.sublist AP List.pairwise_lt_range'
   exact this.imp fun h=>by omega
  ·obtain ⟨i,hi,rfl⟩:=fK.1 ha
   obtain ⟨j,_,rfl⟩:=fK.1 hb
   have:=(hp i ((hT i).1 hi)).1
   omega
 have hlb:∀ v∈l,0<=v/\v<n+yL.length:=fun v hv=>by
  refine ⟨cE v,?_⟩
  rcases dj.1 hv with h | h
  ·obtain ⟨i,hi,rfl⟩:=fK.1 h
   have:=(hp i ((hT i).1 hi)).1
   omega
  ·obtain ⟨j,hj,rfl⟩:=fK.1 h
   have:j<yL.length:=by simpa using (lW.1 hj).1
   omega
 have hpick:=BC hll hasc hlb
 have enat:pC (l.map fun v:Nat=>(v:Int))=l:=by
  unfold pC
  rw [ni]
  have:(Int.toNat ∘ fun v:Nat=>(v:Int))=id:=funext fun v=>iR v
  rw [this,List.map_id]
 have eA:kq (bY n yL) n yL.length (l.map fun v:Nat=>(v:Int))=Fu yL.length T (T.map fun i=>bI (bY n yL) (p i)):=by
  unfold kq Fu
  rw [enat]
  show (T.map p++(wx yL.length T).map fun j=>n+j).map _=_
  rw [fE,ni,ni]
  congr 1
  ·refine ua fun i hi=>?_
   show lH (bY n yL) n yL.length (p i)=_
   unfold lH
   rw [aX (hp i ((hT i).1 hi)).1]
  ·refine ua fun j _=>?_
   show lH (bY n yL) n yL.length (n+j)=_
   unfold lH
   rw [a9 oa,oz]
 have eB:jW n (l.map fun v:Nat=>(v:Int))=Fk yL.length T:=by
  unfold jW Fk
  rw [enat]
  show (T.map p++(wx yL.length T).map fun j=>n+j).map _=_
  rw [fE,ni,ni]
  congr 1
  ·refine ua fun i hi=>?_
   show nC n (p i)=_
   unfold nC
   rw [aX (hp i ((hT i).1 hi)).1]
  ·refine ua fun j _=>?_
   show nC n (n+j)=_
   unfold nC
   rw [a9 oa]
 have hpl:(ptS yL.length T).length=yL.length:=by unfold ptS;simp
 have hpc:∀ j,j<yL.length->aM (ptS yL.length T) j=bif T.contains j then (1,1) else (0,1):=fun j hj=>by
  unfold ptS aM;simp [hj]
 obtain ⟨b,eb,hb1,hb2⟩:=EZ hN n1 n5 a1 a4 hpl
 have hbt:b=true:=hb2 (fun j hj=>by
  rw [hpc j oa]
  cases T.contains j
  ·exact .inl rfl
  ·exact .inr rfl) fun v hv=>by
  obtain ⟨j,hj,hbit⟩:=s3 v hv
  have hjl:j<yL.length:=by simpa using s2 j hj
  refine ⟨j,oa,?_,?_⟩
  ·rw [nQ hv hjl]
   unfold n7
   rw [hbit];rfl
  ·rw [hpc j hjl,show T.contains j=true by simpa using (hT j).2 hj];rfl
 subst hbt
 exact ⟨ptS yL.length T,⟨hb1 rfl,_,hpick,by rw [eA,eB];exact hsol⟩,eb⟩
end
section
variable {N:Nat}
theorem LJ (hN:1073741824<=N) {ss:yQ} {d e:Int} (d0:0<=d) (d3:d<=3) (e0:0<=e) (e3:e<=3) {na:Nat} (hna:na<=4):∀ (c i yO:Nat) (xs ys:yQ),i+c=na->c<yO->xs.length=na->ys.length=na->(∀ j,i<=j->j<na->(0<=xs.getD j 0/\xs.getD j 0<=3)/\(0<=ys.getD j 0/\ys.getD j 0<=3)) ->
  ∃ xs' ys' z,fm N yO ss xs d ys e (i:Int)=some (xs',ys',z)/\xs'.length=na/\ys'.length=na:=by
 intro c
 induction c with
 | zero =>
  intro i yO xs ys hi hf hx hy hb
  obtain ⟨yO,rfl⟩:∃ k',yO=k'+1:=⟨yO-1,oa⟩
  rw [fm,ba oa,am]
  exact ⟨xs,ys,_,rfl,hx,hy⟩
 | succ c ih =>
  intro i yO xs ys hi hf hx hy hb
  obtain ⟨yO,rfl⟩:∃ k',yO=k'+1:=⟨yO-1,oa⟩
  obtain ⟨⟨x0,x3⟩,y0,y3⟩:=hb i (bN i) oa
  have m1:0<=xs.getD i 0*e/\xs.getD i 0*e<=3*3:=⟨nY x0 e0,lB x3 e3 e0 (by decide)⟩
  have m2:0<=ys.getD i 0*d/\ys.getD i 0*d<=3*3:=⟨nY y0 d0,lB y3 d3 d0 (by decide)⟩
  rw [fm,aW oa,ag,ixD oa,bs,eh oa oa,bs,bs,vf oa,bs,ixD oa,bs,eh oa oa,bs,bs,vf oa,bs,ce oa oa,bs]
  refine ih (i+1) yO _ _ oa oa (by rw [gP];exact hx) (by rw [gP];exact hy) fun j h1 h2=>?_
  have g:∀ (zs:yQ) (v:Int),(zs.set i v).getD j 0=zs.getD j 0:=fun zs v=>by
   simp [zj (show i≠j by omega)]
  rw [g,g]
  exact hb j oa h2
theorem Il (hN:1073741824<=N) {n:Nat} {yL:List bj} (n5:n<=5) (a1:1<=yL.length) (a4:yL.length<=4) {ss:yQ} (hs:ss.length=yL.length) (hv:∀ v∈ss,0<=v/\v<=16) {x y:c5} (hx:iM N n yL x) (hy:iM N n yL y) :
  ∃ c,iQ N ss x y=some c:=by
 obtain ⟨d,k,d1,d3,hk,ed,_⟩:=ww hN n5 a1 a4 hx
 obtain ⟨e,q,e1,e3,hq,ee,_⟩:=ww hN n5 a1 a4 hy
 have l1:∀ f:Nat->Nat,((List.range' 0 yL.length).map fun i:Nat=>(f i:Int)).length=yL.length:=fun f=>by simp
 have g1:∀ (f:Nat->Nat) (j:Nat),j<yL.length->((List.range' 0 yL.length).map fun i:Nat=>(f i:Int)).getD j 0=(f j:Int):=fun f j hj=>by
  rw [bP (by rw [l1];exact hj),ky,w9,e9,lw]
 unfold iQ
 rw [ed,bs,ee,bs]
 dsimp only
 rw [show ((d:Int) == 0)=false by rw [qU];omega,am,show ((e:Int) == 0)=false by rw [qU];omega,am,l1,l1,hs,show ((yL.length:Int) != (yL.length:Int))=false by rw [pW],am,am]
 obtain ⟨xs',ys',z,e4,h1,h2⟩:=LJ hN (ss:=ss) (d:=(d:Int)) (e:=(e:Int)) oa oa oa oa a4 yL.length 0 N _ _ oa oa (l1 k) (l1 q) fun j _ hj=>by
  rw [g1 k j hj,g1 q j hj]
  have:=hk j hj
  have:=hq j hj
  omega
 have e4':fm N N ss _ (d:Int) _ (e:Int) 0=some (xs',ys',z):=e4
 rw [e4',bs,lpB]
 dsimp only
 obtain ⟨r1,p1,_,q1⟩:=wM hN (xs:=ss) (ks:=xs') oa fun v hv'=>by have:=hv v hv';omega
 obtain ⟨r2,p2,_,q2⟩:=wM hN (xs:=ss) (ks:=ys') oa fun v hv'=>by have:=hv v hv';omega
 rw [p1,bs,p2,bs]
 obtain ⟨c,ec,_⟩:=ye hN q1.1 q2.1
 cases r1.2 with
 | false=>rw [am];exact ⟨_,rfl⟩
 | true =>
  rw [ag]
  cases r2.2 with
  | false=>rw [am];exact ⟨_,rfl⟩
  | true=>rw [ag,ec,bs];exact ⟨_,rfl⟩
theorem LV (hN:1073741824<=N) {ss:yQ} (hs:ss.length<=1000) (hv:∀ v∈ss,0<=v/\v<=16) {A:fh} {B C:c5}:∀ (c i yO:Nat),i+c=ss.length->c<yO ->
  ∃ z,ik N yO ss A B C (i:Int)=some (.inr z):=by
 intro c
 induction c with
 | zero =>
  intro i yO hi hf
  obtain ⟨yO,rfl⟩:∃ k',yO=k'+1:=⟨yO-1,oa⟩
  rw [ik,ba oa,am]
  exact ⟨_,rfl⟩
 | succ c ih =>
  intro i yO hi hf
  obtain ⟨yO,rfl⟩:∃ k',yO=k'+1:=⟨yO-1,oa⟩
  have hil:i<ss.length:=by omega
  have h1:=hv _ (bF hil)
  rw [ik,aW oa,ag,be hil,bs,fg,bs,show inR ss[i] 0 16=true from cg.2 h1,ag,ce oa oa,bs]
  exact ih (i+1) yO oa oa
theorem Me (hN:1073741824<=N) {n:Nat} {yL:List bj} (n5:n<=5) (a1:1<=yL.length) (a4:yL.length<=4) {ss:yQ} (hs:ss.length=yL.length) (hv:∀ v∈ss,0<=v/\v<=16) {P:fh} (hP:∀ x∈P,iM N n yL x) (hl:P.length<=100000):∀ (c i yO:Nat) (x:c5),i+c=P.length->c<yO->iM N n yL x ->
  ∃ x' z,gI N yO ss P x (i:Int)=some (x',z)/\iM N n yL x':=by
 intro c
 induction c with
 | zero =>
  intro i yO x hi hf hx
  obtain ⟨yO,rfl⟩:∃ k',yO=k'+1:=⟨yO-1,oa⟩
  rw [gI,ba oa,am]
  exact ⟨x,_,rfl,hx⟩
 | succ c ih =>
  intro i yO x hi hf hx
  obtain ⟨yO,rfl⟩:∃ k',yO=k'+1:=⟨yO-1,oa⟩
  have hil:i<P.length:=by omega
  have hm:bI P i∈P:=by unfold bI;simp [hil]
  obtain ⟨q,eq⟩:=Il hN n5 a1 a4 hs hv (hP _ hm) hx
  rw [gI,aW oa,ag,ixM hil,bs,eq,bs]
  cases decide (q.1<0) with
  | true =>
   rw [ag,bs,ce oa oa,bs]
   exact ih (i+1) yO _ oa oa (hP _ hm)
  | false =>
   rw [am,ce oa oa,bs]
   exact ih (i+1) yO x oa oa hx
theorem DH (hN:1073741824<=N) {n:Nat} {yL:List bj} {out:yQ} (ha:dz yL) (ho:okI out) (hq:et (n:Int) yL out=true) (hc:∀ v,v<n->∃ j,j<yL.length/\((v:Nat):Int)∈(cx yL j).2) {ss:yQ} (hs:ss.length=yL.length) (hv:∀ v∈ss,0<=v/\v<=16) :
  ∃ x,kY N (n:Int) yL out ss=some (x,true)/\iM N n yL x:=by
 obtain ⟨n1,n5,a1,a4⟩:=kU hq
 have n1:1<=n:=by omega
 have n5:n<=5:=by omega
 have a1:1<=yL.length:=by omega
 have a4:yL.length<=4:=by omega
 obtain ⟨P,eP,hl,hP,hne⟩:=GN hN n1 n5 a1 a4
 have hne:=hne (CK hN n1 n5 a1 a4 hc)
 have h0:0<P.length:=wn.2 hne
 have hm:bI P 0∈P:=by unfold bI;simp [h0]
 unfold kY
 rw [tJ hN ha ho hq,bs]
 dsimp only
 rw [ag,show ((ss.length:Int) != (yL.length:Int))=false by rw [pW];omega,am]
 obtain ⟨z,e1⟩:=LV hN (ss:=ss) oa hv (A:=bY n yL) (B:=bt n) (C:=bt yL.length) ss.length 0 N oa oa
 have e1':ik N N ss (bY n yL) (bt n) (bt yL.length) 0=some (.inr z):=e1
 have i0:ix P 0=some (bI P 0):=ixM (i:=0) h0
 obtain ⟨x,z2,e2,hx⟩:=Me hN n5 a1 a4 hs hv hP hl (P.length-1) 1 N (bI P 0) oa oa (hP _ hm)
 have e2':gI N N ss P (bI P 0) 1=some (x,z2):=e2
 rw [e1',bs,iW,eP,bs,i0,bs,e2',bs,lpB]
 exact ⟨x,rfl,hx⟩
end
section
variable {N:Nat}
theorem Is (hN:1073741824<=N) {a b:yQ} (ha:Cn a) (hb:Cn b) (la:a.length<=60) (lb:b.length<=60) (h:vB a*vB b<10 ^ 60):∃ r,iO N a b=some (r,true)/\vB r=vB a*vB b/\Cn r/\r.length<=60:=by
 obtain ⟨r,e1,e2,_⟩:=uZ hN (a:=a) (b:=b) oa oa
 obtain ⟨q,e3,h1,h2⟩:=EY hN ha hb la lb
 rw [e2] at e3
 obtain rfl:=c8 e3
 have ht:=h2.2 h
 obtain ⟨r1,r2⟩:=r
 obtain rfl:r2=true:=ht
 exact ⟨r1,e1,h1 rfl⟩
theorem Ci (hN:1073741824<=N) {n:Int} (h0:0<=n) (h1:n<=9223372036854775807) {d:Nat} (hd:d<=100) (h:∀ j,j<d->n ^ (j+1)<10 ^ 60):∃ r,ib N n (d:Int)=some (r,true)/\vB r=n ^ d/\Cn r/\r.length<=60:=by
 obtain ⟨r,e1,e2,_⟩:=vd hN (n:=n) (k:=(d:Int)) h1
 obtain ⟨q,e3,h2,h3⟩:=IP hN h0 h1 hd
 rw [e2] at e3
 obtain rfl:=c8 e3
 have ht:=h3.2 h
 obtain ⟨r1,r2⟩:=r
 obtain rfl:r2=true:=ht
 exact ⟨r1,e1,h2 rfl⟩
theorem L4 (hN:1073741824<=N) {a b:yQ} (ha:Cn a) (hb:Cn b) (la:a.length<=60) (lb:b.length<=60):∃ q,gN N a b=some q/\(q<=0↔vB a<=vB b):=by
 obtain ⟨c,e1,e2⟩:=ye hN (a:=a) (b:=b) oa oa
 obtain ⟨q,e3,h⟩:=Jf hN ha hb la lb
 rw [e2] at e3
 obtain rfl:=c8 e3
 exact ⟨c,e1,h⟩
theorem L0 (hN:1073741824<=N):∃ b,fT N 1=some b/\vB b=1/\Cn b/\b.length<=60:=by
 obtain ⟨r,e,h1,h2,h3⟩:=Ci hN (n:=1) (by decide) (by decide) (d:=0) (by decide) (fun j hj=>absurd hj (Nat.not_lt_zero j))
 refine ⟨r,?_,by rw [h1];rfl,h2,h3⟩
 unfold ib at e
 rw [show decide ((1:Int)<0)=false from rfl,am,fg,bs,show inR ((0:Nat):Int) 0 100=true from cg.2 oa,ag] at e
 cases hb:fT N 1 with
 | none=>rw [hb] at e;cases e
 | some b =>
  rw [hb,bs] at e
  obtain ⟨k,rfl⟩:∃ k,N=k+1:=⟨N-1,oa⟩
  rw [dR,ba oa,am,bs,iW] at e
  injection e with e
  exact aZ some (aZ Prod.fst e)
theorem Kl (hN:1073741824<=N) {na:Nat} (h4:na<=4) {s k:Nat->Nat} (hs:∀ i,i<na->s i<=16) (hk:∀ i,i<na->k i<=3) :
  ∃ r,eY N ((List.range' 0 na).map fun i:Nat=>(s i:Int)) ((List.range' 0 na).map fun i:Nat=>(k i:Int))=some (r,true)/\vB r=((prN ((List.range' 0 na).map fun i=>s i ^ k i):Nat):Int)/\Cn r/\r.length<=60/\prN ((List.range' 0 na).map fun i=>s i ^ k i)<=4096 ^ na:=by
 have l1:∀ f:Nat->Nat,((List.range' 0 na).map fun i:Nat=>(f i:Int)).length=na:=fun f=>by simp
 have g1:∀ (f:Nat->Nat) (j:Nat),j<na->((List.range' 0 na).map fun i:Nat=>(f i:Int)).getD j 0=(f j:Int):=fun f j hj=>by
  rw [bP (by rw [l1];exact hj),ky,w9,e9,lw]
 have pw:∀ i,i<na->s i ^ k i<=4096:=fun i hi=>by
  rcases tf (s i) with h0 | h0
  ·rw [h0]
   rcases tf (k i) with h1 | h1
   ·rw [h1];decide
   ·rw [rC h1];decide
  ·exact Nat.le_trans (nR h0 (hk i hi)) (sI (hs i hi) 3)
 have ps:∀ i,prN ((List.range' 0 (i+1)).map fun i=>s i ^ k i)=prN ((List.range' 0 i).map fun i=>s i ^ k i)*s i ^ k i:=fun i=>by
  rw [oD,fE,Bs]
  simp only [e9,lw,fI,nS,prN,oQ]
 have pb:∀ i,i<=na->prN ((List.range' 0 i).map fun i=>s i ^ k i)<=4096 ^ i:=by
  intro i
  induction i with
  | zero =>
   intro _
   exact bN 1
  | succ i ih =>
   intro hi
   rw [ps,pZ]
   exact l9 (ih oa) (pw i oa)
 have key:∀ (c i yO:Nat) (b:yQ),i+c=na->c<yO->Cn b->b.length<=60->vB b=((prN ((List.range' 0 i).map fun i=>s i ^ k i):Nat):Int) ->
   ∃ r z,bG N yO ((List.range' 0 na).map fun i:Nat=>(s i:Int)) ((List.range' 0 na).map fun i:Nat=>(k i:Int)) [] b (i:Int)=some (.inr (r,z))/\vB r=((prN ((List.range' 0 na).map fun i=>s i ^ k i):Nat):Int)/\Cn r/\r.length<=60:=by
  intro c
  induction c with
  | zero =>
   intro i yO b hi hf hb lb hv
   obtain ⟨yO,rfl⟩:∃ k',yO=k'+1:=⟨yO-1,oa⟩
   rw [bG,l1,ba oa,am]
   obtain rfl:i=na:=by omega
   exact ⟨b,_,rfl,hv,hb,lb⟩
  | succ c ih =>
   intro i yO b hi hf hb lb hv
   obtain ⟨yO,rfl⟩:∃ k',yO=k'+1:=⟨yO-1,oa⟩
   have hsi:=hs i oa
   have hki:=hk i oa
   have hp:=pw i oa
   obtain ⟨r,e,hr,cr,lr⟩:=Ci hN (n:=(s i:Int)) oa oa (d:=k i) oa fun j hj=>by
    have h1:s i ^ (j+1)<=16 ^ 3:=by
     rcases tf (s i) with h0 | h0
     ·rw [h0,rC oa];decide
     ·exact Nat.le_trans (nR h0 oa) (sI hsi 3)
    have h2:((s i:Int)) ^ (j+1)=((s i ^ (j+1):Nat):Int):=(wR ..).symm
    rw [h2]
    have:((s i ^ (j+1):Nat):Int)<=4096:=by omega
    exact AU this (by decide)
   have hr':vB r=((s i ^ k i:Nat):Int):=by rw [hr,wR]
   have hb':=pb i oa
   have hi4:(4096:Nat) ^ i<=4096 ^ 4:=nR (by decide) oa
   have hmul:=l9 (Nat.le_trans hb' hi4) hp
   have hm:vB b*vB r=((prN ((List.range' 0 (i+1)).map fun i=>s i ^ k i):Nat):Int):=by
    rw [hv,hr',ps,Int.natCast_mul]
   obtain ⟨y,e2,hy,cy,ly⟩:=Is hN hb cr lb lr (by
    rw [hm,ps]
    have:((prN ((List.range' 0 i).map fun i=>s i ^ k i)*s i ^ k i:Nat):Int)<=((4096 ^ 4*4096:Nat):Int):=sx.2 hmul
    exact AU this (by decide))
   rw [bG,l1,aW oa,ag,ixD (by rw [l1];omega),bs,g1 s i oa,ixD (by rw [l1];omega),bs,g1 k i oa,e,bs]
   dsimp only
   rw [e2,bs]
   dsimp only
   rw [ag,ag,ce oa oa,bs]
   exact ih (i+1) yO y oa oa cy ly (by rw [hy,hm])
 obtain ⟨b,eb,hb,cb,lb⟩:=L0 hN
 obtain ⟨r,z,e,h1,h2,h3⟩:=key na 0 N b oa oa cb lb (by rw [hb];rfl)
 refine ⟨r,?_,h1,h2,h3,pb na (bN _)⟩
 unfold eY
 have e':bG N N ((List.range' 0 na).map fun i:Nat=>(s i:Int)) ((List.range' 0 na).map fun i:Nat=>(k i:Int)) [] b 0=_:=e
 rw [l1,l1,show ((na:Int) != (na:Int))=false by rw [pW],am,eb,bs,e',bs,iW]
end
section
variable {N:Nat}
theorem Bw {c:Nat} (hc:c<=9007199254740992) {d:Nat} (hd:d<=3):∀ j,j<d->((c:Int)) ^ (j+1)<10 ^ 60:=fun j hj=>by
 have h1:c ^ (j+1)<=9007199254740992 ^ 3:=by
  rcases tf c with h0 | h0
  ·rw [h0,rC oa];exact cE _
  ·exact Nat.le_trans (nR h0 oa) (sI hc 3)
 rw [<- wR]
 exact AU (sx.2 h1) (by decide)
theorem IX {M P d:Nat} (hd:1<=d) (h:M ^ d<=P):M<=P:=by
 rcases tf M with h0 | h0
 ·omega
 ·have:=nR h0 hd
  rw [Nat.pow_one] at this
  omega
theorem Eb (hN:1073741824<=N) {n:Nat} {yL:List bj} {out:yQ} (ha:dz yL) (ho:okI out) (hqq:et (n:Int) yL out=true) {s k:Nat->Nat} (hs:∀ i,i<yL.length->s i<=16) (hk:∀ i,i<yL.length->k i<=3) {d:Nat} (d1:1<=d) (d3:d<=3) {x:c5} (ex:dv N x=some ((List.range' 0 yL.length).map (fun i:Nat=>(k i:Int)),(d:Int))) {c M:Nat} (hM:M ^ d<=prN ((List.range' 0 yL.length).map fun i=>s i ^ k i)) (hc:c<=n*yL.length*M) :
  dS N (n:Int) yL out ((List.range' 0 yL.length).map fun i:Nat=>(s i:Int)) x (c:Int)=some true:=by
 obtain ⟨n1,n5,a1,a4⟩:=kU hqq
 obtain ⟨r,er,hr,cr,lr,hb⟩:=Kl hN (na:=yL.length) oa hs hk
 have hb4:(4096:Nat) ^ yL.length<=4096 ^ 4:=nR (by decide) oa
 have hMP:=IX d1 hM
 have hMb:M<=281474976710656:=Nat.le_trans hMP (Nat.le_trans hb hb4)
 have hna:n*yL.length<=5*4:=l9 oa oa
 have hcb:c<=20*281474976710656:=Nat.le_trans hc (l9 hna hMb)
 obtain ⟨y,ey,hy,cy,ly⟩:=Ci hN (n:=(c:Int)) oa oa (d:=d) oa (Bw oa d3)
 have hf:2*(n*yL.length)<=40:=by omega
 obtain ⟨f,ef,hfv,cf,lf⟩:=Ci hN (n:=((2*(n*yL.length):Nat):Int)) oa oa (d:=d) oa (Bw oa d3)
 have hf3:(2*(n*yL.length)) ^ d<=40 ^ 3:=by
  rcases tf (2*(n*yL.length)) with h0 | h0
  ·rw [h0,rC oa];exact cE _
  ·exact Nat.le_trans (nR h0 d3) (sI hf 3)
 have hprod:=l9 (Nat.le_trans hb hb4) hf3
 have hrf:vB r*vB f=((prN ((List.range' 0 yL.length).map fun i=>s i ^ k i)*(2*(n*yL.length)) ^ d:Nat):Int):=by
  rw [hr,hfv,<- wR,Int.natCast_mul]
 obtain ⟨z,ez,hz,cz,lz⟩:=Is hN cr cf lr lf (by
  rw [hrf]
  exact AU (sx.2 hprod) (by decide))
 obtain ⟨q,eq,hq⟩:=L4 hN cy cz ly lz
 have hsb:jG N (n:Int) yL out 1=some ((2*(n*yL.length):Nat):Int):=by
  have hm1:(2:Int)*(n:Int)*(yL.length:Int)=((2*(n*yL.length):Nat):Int):=by
   rw [Int.natCast_mul,Int.natCast_mul,Int.mul_assoc];rfl
  unfold jG
  rw [fU hN ha ho,bs,hqq,ag,fg,bs,show inR 1 0 1000000=true from cg.2 oa,ag,eh oa oa,bs,eh (by rw [hm1];omega) (by rw [hm1];omega),bs,hm1,eh oa oa,bs,sw]
 unfold dS
 rw [ex,bs]
 dsimp only
 rw [er,bs,ey,bs,hsb,bs,ef,bs]
 dsimp only
 rw [ez,bs,aW oa,ag]
 dsimp only
 rw [ag,ag,ag,ag,fU hN ha ho,bs,hqq,ag,eq,bs]
 have hle:c ^ d<=prN ((List.range' 0 yL.length).map fun i=>s i ^ k i)*(2*(n*yL.length)) ^ d:=by
  have h1:c<=M*(2*(n*yL.length)):=by
   have h2:n*yL.length*M<=2*(n*yL.length)*M:=mc M oa
   rw [uz M]
   omega
  refine Nat.le_trans (sI h1 d) ?_
  rw [Nat.mul_pow]
  exact mc _ hM
 have:q<=0:=hq.2 (by rw [hy,hz,hrf,<- wR];exact sx.2 hle)
 rw [aW this]
end
section
variable {N:Nat}
theorem EJ (hN:1073741824<=N) {n d:Int} (h0:0<=n) (h1:n<=1000000000) (h2:1<=d) (h3:d<=1000000000):∃ p q,fo N n d=some ((p,q),true)/\0<=p/\p<=n/\1<=q/\q<=d:=by
 obtain ⟨a1,a2,a3⟩:=xn n
 obtain ⟨g,e,g1,g2,g3,g4⟩:=ut (N:=N) hN a1 (by omega:0<=d) oa
 have hg:=g3 (.inr oa)
 obtain ⟨p,ep,hp⟩:=Ay hg ((a3 _).1 g1) oa oa
 obtain ⟨q,eq,hq⟩:=Ay hg g2 oa oa
 have hq1:1<=q:=by
  refine Int.not_lt.1 fun h=>?_
  have:=AY (show q<=0 by omega) (show 0<=g by omega)
  omega
 have hp0:0<=p:=by
  refine Int.not_lt.1 fun h=>?_
  have:=AY (show p<=-1 by omega) (show 0<=g by omega)
  omega
 have hpn:p<=n:=by
  have:=A3 (show 1<=g by omega) hp0
  omega
 have hqd:q<=d:=by
  have:=A3 (show 1<=g by omega) (show 0<=q by omega)
  omega
 have hcop:Int.gcd p q=1:=by
  have h4:(Int.gcd p q:Int)*g ∣ g:=g4 _ ((a3 _).2 (by rw [<- hp];exact Int.mul_dvd_mul_right g (Int.gcd_dvd_left ..))) (by rw [<- hq];exact Int.mul_dvd_mul_right g (Int.gcd_dvd_right ..))
  have h5:=ry hg h4
  have h6:0<Int.gcd p q:=Int.gcd_pos_of_ne_zero_right p oa
  refine s7 fun hne=>?_
  have:=AY (show (2:Int)<=(Int.gcd p q:Int) by omega) (show 0<=g by omega)
  omega
 have hv:VR N (p,q):=(iG hN).2 ⟨hq1,by show q<=_;omega,by show _<=p;omega,by show p<=_;omega,hcop⟩
 unfold VR at hv
 refine ⟨p,q,?_,hp0,hpn,hq1,hqd⟩
 unfold fo
 rw [show (d == 0)=false by rw [qU];omega,am,eu oa oa,bs,fg,bs,show inR n (0-4000000000000000000) 4000000000000000000=true from cg.2 oa,ag,bs,fg,bs,show inR d (0-4000000000000000000) 4000000000000000000=true from cg.2 oa,ag,ba oa,am,eu oa oa,bs,e,bs,ep,bs,eq,bs,hv,bs,ag]
theorem IL (hN:1073741824<=N) {a:eD} (ha:VR N a) (h0:0<=a.1):∃ p q,eC N 1 1 a.1 a.2=some ((p,q),true)/\0<=p/\p<=a.1/\1<=q/\q<=a.2:=by
 obtain ⟨a1,a2,a3,a4,_⟩:=(iG hN).1 ha
 have hv:=nh hN (v:=1) (by decide) (by decide)
 unfold VR at hv ha
 obtain ⟨p,q,e,h⟩:=EJ hN h0 a4 a1 a2
 unfold eC
 rw [hv,bs,ag,ha,bs,ag,eh oa oa,bs,eh oa oa,bs,uO,uO,e,bs]
 exact ⟨p,q,rfl,h⟩
theorem Jt (hN:1073741824<=N) {a b:eD} (ha:VR N a) (hb:VR N b) (a0:0<=a.1) (b0:0<=b.1) (h1:a.1<=10000) (h2:a.2<=10000) (h3:b.1<=10000) (h4:b.2<=10000):∃ p q,fj N a.1 a.2 b.1 b.2=some ((p,q),true)/\0<=p/\p<=a.1*b.2+b.1*a.2/\1<=q/\q<=a.2*b.2:=by
 obtain ⟨a1,_⟩:=(iG hN).1 ha
 obtain ⟨b1,_⟩:=(iG hN).1 hb
 unfold VR at ha hb
 have m1:0<=a.1*b.2/\a.1*b.2<=10000*10000:=⟨nY a0 oa,lB h1 h4 oa (by decide)⟩
 have m2:0<=b.1*a.2/\b.1*a.2<=10000*10000:=⟨nY b0 oa,lB h3 h2 oa (by decide)⟩
 have m3:1*1<=a.2*b.2/\a.2*b.2<=10000*10000:=⟨lB a1 b1 (by decide) oa,lB h2 h4 oa (by decide)⟩
 obtain ⟨p,q,e,h⟩:=EJ hN (n:=a.1*b.2+b.1*a.2) (d:=a.2*b.2) oa oa oa oa
 unfold fj
 rw [ha,bs,ag,hb,bs,ag,eh oa oa,bs,eh oa oa,bs,ce oa oa,bs,eh oa oa,bs,e,bs]
 exact ⟨p,q,rfl,h⟩
end
section
variable {N:Nat}
theorem JV (hN:1073741824<=N) {na:Nat} (h4:na<=4) {x:c5} (hl:x.length=na) {K:Int} (hD:DenOk N K x) (h3:∀ j,j<na->(aM x j).1<=3):∀ (c k yO:Nat) (r:eD) (u1 u2:Int),k+c=na->c<yO->VR N r->0<=r.1->r.1<=12 ^ k->r.2<=12 ^ k ->
  ∃ (p:eD) (z:Int),cA N yO (bt na) x u1 u2 r.1 r.2 (k:Int)=some (.inr (p.1,p.2,z)):=by
 have ol:(bt na).length=na:=by unfold bt;simp
 intro c
 induction c with
 | zero =>
  intro k yO r u1 u2 hk hf hv h0 h1 h2
  obtain ⟨yO,rfl⟩:∃ k',yO=k'+1:=⟨yO-1,oa⟩
  rw [cA,ol,ba oa,am]
  exact ⟨r,_,rfl⟩
 | succ c ih =>
  intro k yO r u1 u2 hk hf hv h0 h1 h2
  obtain ⟨yO,rfl⟩:∃ k',yO=k'+1:=⟨yO-1,oa⟩
  have hkn:k<na:=by omega
  obtain ⟨g1,g2⟩:=hD.ok k oa
  have g3:=h3 k hkn
  have g4:1<=(aM x k).2/\(aM x k).2<=3:=by
   have hKK:=hD.hK
   have:=hD.den k oa
   omega
  have r1:=((iG hN).1 hv).1
  have b12:(12:Int) ^ k<=1728:=by
   match k,(show k<=3 by omega) with
   | 0,_=>decide
   | 1,_=>decide
   | 2,_=>decide
   | 3,_=>decide
  obtain ⟨p,q,e,p0,p1,q0,q1⟩:=IL hN g1 g2
  have hpv:VR N (p,q):=by
   obtain ⟨r',ok,e',h'⟩:=Id hN (1,1) (aM x k)
   have e2:eC N 1 1 (aM x k).1 (aM x k).2=some (r',ok):=e'
   rw [e] at e2
   have e3:=c8 e2
   obtain rfl:r'=(p,q):=(aZ Prod.fst e3).symm
   exact (h' (aZ Prod.snd e3).symm).2.2.1
  obtain ⟨s,t,e2,s0,s1,t0,t1⟩:=Jt hN hv hpv h0 p0 oa oa (by show p<=_;omega) (by show q<=_;omega)
  have hsv:VR N (s,t):=by
   obtain ⟨r',ok,e',h'⟩:=Ic hN r (p,q)
   rw [e2] at e'
   have e3:=c8 e'
   obtain rfl:r'=(s,t):=(aZ Prod.fst e3).symm
   exact (h' (aZ Prod.snd e3).symm).2.2.1
  rw [cA,ol,aW oa,ag,jX oa,bs,pB hkn,jX oa,bs,e,bs]
  dsimp only
  have e2':fj N r.1 r.2 p q=some ((s,t),true):=e2
  rw [ag,e2',bs]
  dsimp only
  rw [ag,ce oa oa,bs]
  have hpw:(12:Int) ^ (k+1)=12 ^ k*12:=rk 12 k
  have m1:r.1*q<=12 ^ k*3:=lB h1 oa oa oa
  have m2:p*r.2<=3*12 ^ k:=lB oa h2 oa (by decide)
  have m3:r.2*q<=12 ^ k*3:=lB h2 oa oa oa
  have s1':s<=r.1*q+p*r.2:=s1
  have t1':t<=r.2*q:=t1
  exact ih (k+1) yO (s,t) u1 u2 oa oa hsv s0 (by rw [hpw];show s<=_;omega) (by rw [hpw];show t<=_;omega)
theorem Js (hN:1073741824<=N) {n:Nat} {yL:List bj} (n5:n<=5) (a1:1<=yL.length) (a4:yL.length<=4) {x:c5} (hp:iM N n yL x):∃ r:eD,gi N (bt yL.length) x=some (r,true):=by
 obtain ⟨K,hD,hK⟩:=Bx hN n5 a1 a4 hp
 have hxl:=hp.1.len
 have ol:(bt yL.length).length=yL.length:=by unfold bt;simp
 have h3:∀ j,j<yL.length->(aM x j).1<=3:=fun j hj=>by
  obtain ⟨g1,g2⟩:=hD.ok j oa
  have hq:=((iG hN).1 g1).1
  have hd:=hD.den j oa
  have hKK:=hD.hK
  have hqK:(aM x j).2<=K:=by omega
  have hqn:=nT hN g1
  have h0:0<=rv (aM x j):=by
   unfold rv
   rw [nO]
   exact mz (zl.2 g2) (rc (Rat.inv_pos.2 (xj.2 oa)))
  have h1:((aM x j).2:Rat)*rv (aM x j)<=(K:Rat)*rv (aM x j):=zi (s8.2 hqK) h0
  have h2:((aM x j).2:Rat)*rv (aM x j)=((aM x j).1:Rat):=by
   unfold rv;grind
  have h4:=hK j oa
  have h5:((aM x j).1:Rat)<=((3:Int):Rat):=by
   have e3:((3:Int):Rat)=3:=rfl
   rw [e3,<- h2]
   exact uU h1 h4
  exact s8.1 h5
 obtain ⟨p,z,e⟩:=JV hN a4 hxl hD h3 yL.length 0 N (0,1) 0 0 oa oa (nh hN (by decide) (by decide)) (kL 0) (by show (0:Int)<=12 ^ 0;decide) (by show (1:Int)<=12 ^ 0;decide)
 have e':cA N N (bt yL.length) x 0 0 0 1 0=some (.inr (p.1,p.2,z)):=e
 unfold gi
 rw [ol,hxl,show ((yL.length:Int) != (yL.length:Int))=false by rw [pW],am,e',bs,iW]
 exact ⟨p,rfl⟩
theorem Ju (hN:1073741824<=N) {n:Nat} {yL:List bj} (n5:n<=5) (a1:1<=yL.length) (a4:yL.length<=4) {P:fh} (hP:∀ x∈P,iM N n yL x) (hl:P.length<=100000) {A:fh} {B:c5} {u1 u2:Int}:∀ (c i yO:Nat) (b v:eD × c5) (f:Bool),i+c=P.length->c<yO->(f=true->iM N n yL b.2) ->
  ∃ (b':c5) (w1 w2:Int) (f':Bool) (z:Int),gh N yO 1 A B (bt yL.length) u1 u2 b.2 v.1.1 v.1.2 P f (i:Int)=some (b',w1,w2,f',z)/\(f'=true->iM N n yL b')/\(f=true\/0<c->f'=true):=by
 intro c
 induction c with
 | zero =>
  intro i yO b v f hi hf hb
  obtain ⟨yO,rfl⟩:∃ k',yO=k'+1:=⟨yO-1,oa⟩
  rw [gh,ba oa,am]
  exact ⟨_,_,_,_,_,rfl,hb,fun h=>h.elim id fun h=>absurd h (Nat.lt_irrefl 0)⟩
 | succ c ih =>
  intro i yO b v f hi hf hb
  obtain ⟨yO,rfl⟩:∃ k',yO=k'+1:=⟨yO-1,oa⟩
  have hil:i<P.length:=by omega
  have hm:bI P i∈P:=by unfold bI;simp [hil]
  obtain ⟨r,er⟩:=Js hN n5 a1 a4 (hP _ hm)
  rw [gh,aW oa,ag,ixM hil,bs,er,bs]
  dsimp only
  rw [ag]
  cases f with
  | true =>
   obtain ⟨q,eq,q1,q2,_⟩:=Kj hN r v.1
   rw [ag,eq,bs,eh oa oa,bs]
   cases decide (q*1<0) with
   | true =>
    rw [ag,bs,ce oa oa,bs]
    obtain ⟨b',w1,w2,f',z,h1,h2,h3⟩:=ih (i+1) yO ((0,0),bI P i) (r,[]) true oa oa fun _=>hP _ hm
    exact ⟨b',w1,w2,f',z,h1,h2,fun _=>h3 (.inl rfl)⟩
   | false =>
    rw [am,ce oa oa,bs]
    obtain ⟨b',w1,w2,f',z,h1,h2,h3⟩:=ih (i+1) yO b v true oa oa hb
    exact ⟨b',w1,w2,f',z,h1,h2,fun _=>h3 (.inl rfl)⟩
  | false =>
   rw [am,bs,ce oa oa,bs]
   obtain ⟨b',w1,w2,f',z,h1,h2,h3⟩:=ih (i+1) yO ((0,0),bI P i) (r,[]) true oa oa fun _=>hP _ hm
   exact ⟨b',w1,w2,f',z,h1,h2,fun _=>h3 (.inl rfl)⟩
theorem FS (hN:1073741824<=N) {na:Nat} (h4:na<=1000):nJ N (bt na)=some true:=by
 have ol:(bt na).length=na:=by unfold bt;simp
 have key:∀ (c k yO:Nat),k+c=na->c<yO->∃ z,ja N yO (bt na) (k:Int)=some (.inr z):=by
  intro c
  induction c with
  | zero =>
   intro k yO hk hf
   obtain ⟨yO,rfl⟩:∃ k',yO=k'+1:=⟨yO-1,oa⟩
   rw [ja,ol,ba oa,am]
   exact ⟨_,rfl⟩
  | succ c ih =>
   intro k yO hk hf
   obtain ⟨yO,rfl⟩:∃ k',yO=k'+1:=⟨yO-1,oa⟩
   rw [ja,ol,aW oa,ag,jX oa,bs,pB oa,ba (by decide),am,ce oa oa,bs]
   exact ih (k+1) yO oa oa
 obtain ⟨z,e⟩:=key na 0 N oa oa
 have e':ja N N (bt na) 0=some (.inr z):=e
 unfold nJ
 rw [e',bs,iW]
theorem DZ (hN:1073741824<=N) {n:Nat} {yL:List bj} {out:yQ} (ha:dz yL) (ho:okI out) (hq:et (n:Int) yL out=true) (hc:∀ v,v<n->∃ j,j<yL.length/\((v:Nat):Int)∈(cx yL j).2) :
  ∃ x v,kD N (n:Int) yL out=some (x,v,true)/\iM N n yL x:=by
 obtain ⟨n1,n5,a1,a4⟩:=kU hq
 have n1:1<=n:=by omega
 have n5:n<=5:=by omega
 have a1:1<=yL.length:=by omega
 have a4:yL.length<=4:=by omega
 obtain ⟨P,eP,hl,hP,hne⟩:=GN hN n1 n5 a1 a4
 have h0:0<P.length:=wn.2 (hne (CK hN n1 n5 a1 a4 hc))
 have ePP:jE N (bY n yL) (bt n) (bt yL.length) 1=some P:=by
  unfold g7 at eP
  rw [Cl hN n1 n5 a1 a4,bs,ag] at eP
  cases h:jE N (bY n yL) (bt n) (bt yL.length) 1 with
  | none=>rw [h] at eP;cases eP
  | some Q=>rw [h,bs] at eP;exact eP
 obtain ⟨b,w1,w2,f,z,e,h1,h2⟩:=Ju hN n5 a1 a4 hP hl (A:=bY n yL) (B:=bt n) (u1:=0) (u2:=0) P.length 0 N ((0,0),[]) ((0,0),[]) false oa oa fun h=>by cases h
 have hf:=h2 (.inr h0)
 subst hf
 have e':gh N N 1 (bY n yL) (bt n) (bt yL.length) 0 0 [] 0 0 P false 0=some (b,w1,w2,true,z):=e
 unfold kD
 rw [tJ hN ha ho hq,bs]
 dsimp only
 rw [ag]
 unfold oW
 rw [Cl hN n1 n5 a1 a4,bs,ag,FS hN oa,bs,ag]
 unfold pz
 rw [ePP,bs,e',bs,lpB,bs,bs]
 exact ⟨b,(w1,w2),rfl,h1 rfl⟩
end
def m9 (ts:List xx):Bool:=ts.any fun t=>decide (t.2.length=0)
def okQ (ts:List bE) (n:Int) (yL:List bj) (out yM:yQ):Bool:=i5 ts n yL out&&oq n yL out yM
abbrev Fv:=(Int × bh) × Int × Bool
def GW:Fv:=((0,[]),0,false)
def sF (k:Int) (w:bh × Int):Fv:=bif decide ((w.1.length:Int)<=4000) then ((k,w.1),w.2,true) else GW
def ki (ts:List bE) (n:Int) (yL:List bj) (out yM:yQ):Fv :=
 bif okQ ts n yL out yM then (bif m9 (c4 ts yM yL) then ((n,[]),0,true) else sF n (c9 (bR ts yM yL) n.toNat [])) else GW
def Ir (ts:List bE) (n:Int) (yL:List bj) (out yM:yQ) (k:Int):(Int × bh) × Bool :=
 bif okQ ts n yL out yM&&inR k 0 n then ((sF k (c9 (bR ts yM yL) k.toNat [])).1,(sF k (c9 (bR ts yM yL) k.toNat [])).2.2) else rU
theorem IB {ts:List bE} {n:Int} {yL:List bj} {out yM:yQ} (h:okQ ts n yL out yM=true):∃ m:Nat,n=(m:Int)/\QFor ts m yL yM/\et n yL out=true:=by
 unfold okQ at h
 rw [bU] at h
 obtain ⟨m,e,q⟩:=Hf h.1 h.2
 refine ⟨m,e,q,?_⟩
 have:=h.1
 unfold i5 at this
 rw [bU] at this
 exact this.1
theorem ya {α:Type} (p:α->Bool):∀ xs:List α,(xs.all fun x=>!p x)=!xs.any p
 | []=>rfl
 | x :: xs=>by rw [uj,List.any_cons,ya p xs,Bool.not_or]
section
variable {N:Nat}
theorem C1 (hN:1073741824<=N) {ts:List xx} (hl:ts.length<=1048576):k9 N ts=some (m9 ts):=by
 have h:=mw (L:=fun k i=>f6 N k ts (ts.length:Int) i) ts.length oa true (fun i=>if h:i<ts.length then !decide (ts[i].2.length=0) else true) (ts.length:Int)
  (fun k i h=>by
   show f6 N (k+1) ts (ts.length:Int) (i:Int)=_
   rw [f6,dlt h,ag,be h,bs,show ((ts[i].2.length:Int) == 0)=decide (ts[i].2.length=0) from Bt _ 0,ad1 oa,bs]
   simp only [jg h]
   cases decide (ts[i].2.length=0) <;> rfl)
  (fun k=>by
   show f6 N (k+1) ts (ts.length:Int) (ts.length:Int)=_
   rw [f6,dge oa,am]) N 0 oa oa
 rw [iP,mb ts (fun t=>!decide (t.2.length=0)) _ (fun i hi=>by rw [jg hi]),ya] at h
 have h':f6 N N ts (ts.length:Int) 0=some (bif !m9 ts then .inr (ts.length:Int) else .inl true):=h
 unfold k9
 rw [h',bs]
 cases m9 ts <;> rfl
theorem Di (ts:List bE) (n:Int) (yL:List bj) (out yM:yQ):Hr ts n yL out yM=bif okQ ts n yL out yM then (c4 ts yM yL,true) else ([],false):=rfl
theorem vv (hM:1073742848<=N) {ts:List bE} {n:Int} {yL:List bj} {out yM:yQ} (ht:oZ ts) (ha:dz yL) (ho:okI out) (hr:okI yM):kx N ts n yL out yM=some (ki ts n yL out yM):=by
 unfold kx ki
 rw [rh hM ht ha ho hr,bs,Di]
 cases h:okQ ts n yL out yM with
 | false=>rfl
 | true =>
  obtain ⟨m,rfl,q,_⟩:=IB h
  have h4:=q.a4
  rw [ag,ag]
  show ((k9 N (c4 ts yM yL)).bind _)=_
  rw [C1 oa (by rw [sf];omega),bs]
  cases m9 (c4 ts yM yL) with
  | true=>rfl
  | false =>
   rw [am,am]
   show ((dB N (m:Int) yL out (c4 ts yM yL) yM (m:Int)).bind _)=_
   rw [CN oa q ha (bN _),bs]
   unfold sF
   rw [show ((m:Nat):Int).toNat=m from rfl]
   show (bif decide (((c9 (bR ts yM yL) m []).1.length:Int)<=4000) then _ else _)=_
   cases decide (((c9 (bR ts yM yL) m []).1.length:Int)<=4000) <;> rfl
end
def ny (ts:List bE) (yL:List bj) (i:Nat):Nat:=(qb ts (cx yL i).1 (cx yL i).2).2.length
section
variable {N:Nat}
theorem CO {ts:List bE} {n:Nat} {yL:List bj} {yM:yQ} (q:QFor ts n yL yM) {i:Nat} (hi:i<yL.length):ny ts yL i<=16:=by
 have hm:=mU hi
 obtain ⟨h1,_⟩:=qG q hm
 unfold ny
 rw [h1]
 exact Nat.le_trans (iS _ _) (Nat.le_trans (ll _ _) (yk (q.af _ hm).1))
theorem H1 {ts:List bE} {n:Nat} {yL:List bj} {yM:yQ} (q:QFor ts n yL yM) {i:Nat} (hi:i<yL.length):iV ts yM yL i []<=ny ts yL i:=by
 have hm:=mU hi
 obtain ⟨h1,_⟩:=qG q hm
 unfold iV ny
 rw [h1]
 refine Nat.le_trans (qS _ _) ?_
 unfold jl
 dsimp only
 refine Nat.le_trans (iS _ _) ?_
 rw [cD]
 exact bN _
theorem CR (hM:1073742848<=N) {ts:List bE} {n:Nat} {yL:List bj} {out yM:yQ} (q:QFor ts n yL yM) (ht:oZ ts) (ha:dz yL) (ho:okI out) (hf:i5 ts (n:Int) yL out=true) :
  mB N ts (n:Int) yL out=some ((List.range' 0 yL.length).map (fun i:Nat=>(ny ts yL i:Int)),true):=by
 have h4:=q.a4
 have n5:=q.n5
 have h:=gC (fun k (o:yQ) i=>fB N k ts (n:Int) yL out o i) yL.length (fun i=>(List.range' 0 i).map (fun i:Nat=>(ny ts yL i:Int))) ((List.range' 0 yL.length).map (fun i:Nat=>(ny ts yL i:Int)),(yL.length:Int))
  (fun k i h=>by
   show fB N (k+1) ts (n:Int) yL out ((List.range' 0 i).map (fun i:Nat=>(ny ts yL i:Int))) (i:Int)=fB N k ts (n:Int) yL out ((List.range' 0 (i+1)).map (fun i:Nat=>(ny ts yL i:Int))) ((i+1:Nat):Int)
   have hm:=bF h
   obtain ⟨l5,l1,hv⟩:=q.al _ hm
   rw [fB,dlt h,ag,be h,bs,vW hM ht (sN ha h) l5 (fun v hv'=>by have:=hv v hv';omega),bs,bA (by decide) (by rw [cD,xe,bT];omega),bs,ad1 oa,bs,oD,fE]
   simp only [e9,lw,fI,nS]
   unfold ny
   rw [lU h])
  (fun k=>by
   show fB N (k+1) ts (n:Int) yL out ((List.range' 0 yL.length).map (fun i:Nat=>(ny ts yL i:Int))) (yL.length:Int)=_
   rw [fB,dge oa,am]) N 0 oa oa
 have h':fB N N ts (n:Int) yL out [] 0=_:=h
 unfold mB
 rw [rg oa ht ha ho,bs,hf,ag,h',bs,lpB]
end
theorem EI {f:Nxt}:∀ {m:Nat} {p r:yQ},r∈(c9 f m p).1->∀ j,j<m->r.getD (p.length+j) 0∈(f (r.take (p.length+j))).1
 | 0,_,_,_,j,hj=>absurd hj (Nat.not_lt_zero j)
 | m+1,p,r,h,j,hj=>by
  obtain ⟨v,hv0,hv⟩:=uA.1 h
  cases j with
  | zero =>
   obtain ⟨s,rfl,_⟩:=tz hv
   rw [lh,gT,wJ rfl]
   simpa using hv0
  | succ j =>
   have:=EI hv j oa
   rw [b8,bT] at this
   rw [show p.length+(j+1)=p.length+1+j by omega]
   exact this
section
variable {ts:List bE} {n:Nat} {yL:List bj} {yM:yQ}
theorem CY {s:ByteArray} (h:(cd ts s).2=true):∃ t∈ts,(cd ts s).1.2=t.2.2:=by
 unfold cd at h ⊢
 cases hd:o0 ts with
 | false=>rw [hd] at h;cases h
 | true =>
  rw [hd,ag] at h
  rw [ag]
  cases hf:ts.find? (fun t=>decide (t.1=s)) with
  | none=>rw [hf] at h;cases h
  | some t=>exact ⟨t,AK hf,rfl⟩
theorem y8 {xs:yQ} (h:∀ v∈xs,0<=v/\v<6) (i:Nat):0<=xs.getD i 0/\xs.getD i 0<6:=by
 by_cases hi:i<xs.length
 ·rw [bP hi];exact h _ (bF _)
 ·rw [show xs.getD i 0=0 by simp [pL,List.getElem?_eq_none (Nat.le_of_not_lt hi)]];decide
theorem GM {a:bj} {r:yQ} (h:r∈(jl ts yM a).2):∃ x∈(cd ts a.1).1.2,r=gr (fP a.2 x) (mr a.2 yM):=by
 unfold jl at h
 obtain ⟨s,hs,rfl⟩:=fK.1 (lT _ _ _ h)
 obtain ⟨x,hx,rfl⟩:=pS (lT _ _ _ hs)
 exact ⟨x,hx,rfl⟩
theorem Ds (a:bj):(jl ts yM a).2.length<=(cd ts a.1).1.2.length:=by
 have g1:=iS 20 ((eQ 20 (cI a.2 (cd ts a.1).1.2)).map fun r=>gr r (mr a.2 yM))
 have g2:=iS 20 (cI a.2 (cd ts a.1).1.2)
 have hbl:=ll a.2 (cd ts a.1).1.2
 rw [cD] at g1
 exact Nat.le_trans g1 oa
theorem L9 (hv:DSv ts) {a:bj} (hl:(cd ts a.1).2=true) {m:Int} {p xs:yQ} (hn:xs.Nodup) (hx:∀ x∈xs,x∈mT m (jl ts yM a).2 p):xs.length<=7:=by
 obtain ⟨t,ht,e⟩:=CY hl
 rcases hv t ht with h | h
 ·have h1:=sc xs _ hn hx
  have h2:=B2 m (jl ts yM a).2 p
  have h3:=Ds (ts:=ts) (yM:=yM) a
  rw [e] at h3
  omega
 ·have h6:=sc xs [0,1,2,3,4,5] hn fun x hxm=>by
   have hk:=hx x hxm
   unfold mT at hk
   split at hk
   ·obtain ⟨r,hr,_,rfl⟩:=tE.1 hk
    obtain ⟨y,hy,rfl⟩:=GM hr
    rw [e] at hy
    have h0:=h y hy
    have h2:∀ v∈fP a.2 y,0<=v/\v<6:=fun v hv'=>by
     unfold fP at hv'
     obtain ⟨c,_,rfl⟩:=fK.1 hv'
     exact y8 h0 _
    have h3:∀ v∈gr (fP a.2 y) (mr a.2 yM),0<=v/\v<6:=fun v hv'=>by
     unfold gr at hv'
     obtain ⟨c,_,rfl⟩:=fK.1 hv'
     exact y8 h2 _
    have h4:=y8 h3 p.length
    simp only [cZ,oK,ra]
    omega
   ·cases hk
  exact Nat.le_trans h6 (by decide)
theorem Ml (q:QFor ts n yL yM) (hv:DSv ts) {p:yQ} (hp:p.length<n):(bR ts yM yL p).1.length<=7:=by
 have hol:=q.ol
 have hb:=(nl q.os).2 (yM.getD p.length 0) (by rw [bP oa];exact bF _)
 obtain ⟨a,ha,hva⟩:=q.cov (yM.getD p.length 0) hb.1 oa
 obtain ⟨i,hi,rfl⟩:=gR ha
 have hs:qx yM yL p.length i=true:=by unfold qx;rw [lU hi];exact aW hva
 have hk:∀ x∈(bR ts yM yL p).1,x∈mT (jl ts yM (cx yL i)).1 (jl ts yM (cx yL i)).2 (qz (cx yL i).2 yM p):=fun x hx=>yV q hp hi hs hx
 exact L9 hv (q.af _ (mU hi)).1 (vq ((o5 q).asc p)) hk
theorem It (q:QFor ts n yL yM) (hv:DSv ts):∀ (m:Nat) (p:yQ),p.length+m<=n->(c9 (bR ts yM yL) m p).1.length<=7 ^ m
 | 0,p,_=>by simp [c9]
 | m+1,p,h=>by
  have h1:=oN (g:=fun v=>(c9 (bR ts yM yL) m (p++[v])).1) (fun v=>It q hv m _ (by rw [b8,bT];omega)) (bR ts yM yL p).1
  have h2:=mc (7 ^ m) (Ml q hv (p:=p) oa)
  show ((bR ts yM yL p).1.flatMap fun v=>(c9 (bR ts yM yL) m (p++[v])).1).length<=_
  rw [pZ];omega
theorem xC (i:Nat):iV ts yM yL i []=(jl ts yM (cx yL i)).2.length:=by
 unfold iV fi qz pF
 simp
theorem Ah (q:QFor ts n yL yM) {i:Nat} (hi:i<yL.length) (h0:iV ts yM yL i []=0):(c9 (bR ts yM yL) n []).1=[]:=by
 refine List.eq_nil_iff_forall_not_mem.2 fun r hr=>?_
 obtain ⟨_,h1,h2⟩:=q.al _ (mU hi)
 have hvm:(cx yL i).2[0]∈(cx yL i).2:=bF h1
 obtain ⟨b0,b1⟩:=h2 _ hvm
 have hs:=nl q.os
 have hvo:=vX hs.1 q.ol (fun x hx=>by have:=hs.2 x hx;omega) _ b0 b1
 obtain ⟨k,hk,e⟩:=gR hvo
 have hol:=q.ol
 have hin:=EI hr k oa
 have hrl:r.length=0+n:=HS hr
 rw [fH,e9] at hin
 have htl:(r.take k).length=k:=by rw [dh];omega
 have hh:qx yM yL (r.take k).length i=true:=by
  unfold qx
  rw [htl,bP hk,e]
  exact aW hvm
 have h:=yV q oa hi hh hin
 rw [xC,ma] at h0
 unfold atV mT at h
 rw [h0] at h
 split at h
 ·obtain ⟨_,h3,_⟩:=tE.1 h
  cases h3
 ·cases h
theorem CB (q:QFor ts n yL yM) (hd:DSm ts) {i:Nat} (hi:i<yL.length):iV ts yM yL i []<=10:=by
 rw [xC]
 obtain ⟨t,ht,e⟩:=CY (q.af _ (mU hi)).1
 have h1:=Ds (ts:=ts) (yM:=yM) (cx yL i)
 have h2:=(hd.2 t ht).2.1
 rw [e] at h1
 omega
theorem Gr (q:QFor ts n yL yM) (hd:DSm ts) (hv:DSv ts) {out:yQ} (hq:QB ((n:Int),yL,out)):(c9 (bR ts yM yL) n []).1.length<=4000:=by
 have h5:=q.n5
 have g:Ix (n:Int) yL:=⟨q.a4,fun a ha=>⟨(q.al a ha).2.1,(q.al a ha).2.2⟩,q.cov⟩
 rcases hq g (by show (n:Int)<=5;omega) with h | ⟨h5,hp⟩
 ·dsimp only at h
  have h1:=It q hv n [] (by simp)
  have h2:7 ^ n<=7 ^ 4:=nR (by decide) oa
  omega
 ·dsimp only at h5 hp
  have hn:n=5:=by omega
  by_cases he:∃ i,i<yL.length/\iV ts yM yL i []=0
  ·obtain ⟨i,hi,h0⟩:=he
   rw [Ah q hi h0]
   exact cE _
  ·have hlt:∀ i∈[0,1,3],i<yL.length:=by rw [hp];decide
   have C:Cov yL n [0,1,3] 1:=⟨by decide,hlt,fun v v0 v1=>by
    have:v=0\/v=1\/v=2\/v=3\/v=4:=by omega
    rw [hp]
    rcases this with rfl | rfl | rfl | rfl | rfl <;> decide⟩
   have h:=JQ q C (fun i hi=>by
    have:iV ts yM yL i []≠0:=fun h0=>he ⟨i,hlt i hi,h0⟩
    omega) (bN n)
   have b0:=CB q hd (hlt 0 (by simp))
   have b1:=CB q hd (hlt 1 (by simp))
   have b3:=CB q hd (hlt 3 (by simp))
   rw [Nat.pow_one] at h
   have hm:=l9 b0 (l9 b1 b3)
   have e:prN ([0,1,3].map fun i=>iV ts yM yL i [])=iV ts yM yL 0 []*(iV ts yM yL 1 []*(iV ts yM yL 3 []*1)):=rfl
   rw [e,oQ] at h
   exact Nat.le_trans h (Nat.le_trans hm (by decide))
theorem JJ (he:m9 (c4 ts yM yL)=false) {L:List Nat} (hL:∀ i∈L,i<yL.length):rW ts yM yL L []:=by
 intro i hi
 have hil:=hL i hi
 rw [xC]
 unfold m9 at he
 rw [List.any_eq_false] at he
 have:=he (jl ts yM (cx yL i)) (fK.2 ⟨_,mU hil,rfl⟩)
 rw [dN] at this
 omega
theorem GY (q:QFor ts n yL yM):∀ v:Nat,v<n->∃ j,j<yL.length/\((v:Nat):Int)∈(cx yL j).2:=fun v hv=>by
 obtain ⟨a,ha,h⟩:=q.cov v oa oa
 obtain ⟨j,hj,rfl⟩:=gR ha
 exact ⟨j,hj,by rw [lU hj];exact h⟩
end
def pY (ts:List bE) (yL:List bj):yQ:=(List.range' 0 yL.length).map fun i:Nat=>(ny ts yL i:Int)
theorem Fn (ts:List bE) (yL:List bj):(pY ts yL).length=yL.length:=by unfold pY;simp
section
variable {N n:Nat} {ts:List bE} {yL:List bj} {out yM:yQ}
theorem Bz (q:QFor ts n yL yM):∀ v∈pY ts yL,0<=v/\v<=16:=fun v hv=>by
 unfold pY at hv
 obtain ⟨i,hi,rfl⟩:=fK.1 hv
 have:=CO q (i:=i) (by simp at hi;omega)
 omega
theorem Ma (q:QFor ts n yL yM) (k:Nat->Nat):prN ((wtL k (List.range' 0 yL.length)).map fun i=>iV ts yM yL i [])<=prN ((List.range' 0 yL.length).map fun i=>ny ts yL i ^ k i):=by
 rw [FR]
 exact AI fun i hi=>sI (H1 q (by simp at hi;omega)) _
theorem Gn:(ki ts (n:Int) yL out yM).2.1=0\/m9 (c4 ts yM yL)=false/\(ki ts (n:Int) yL out yM).2.1=(c9 (bR ts yM yL) n []).2:=by
 unfold ki
 cases okQ ts (n:Int) yL out yM with
 | false=>exact Or.inl rfl
 | true =>
  cases m9 (c4 ts yM yL) with
  | true=>exact Or.inl rfl
  | false =>
   rw [ag,am]
   unfold sF
   rw [show ((n:Nat):Int).toNat=n from rfl]
   cases decide (((c9 (bR ts yM yL) n []).1.length:Int)<=4000)
   ·exact Or.inl rfl
   ·exact Or.inr ⟨rfl,rfl⟩
theorem Mc (q:QFor ts n yL yM):CJ (ki ts (n:Int) yL out yM).2.1:=by
 have h0:=sB (o5 q) n []
 have h1:=C0 q.n5
 unfold CJ
 rcases Gn (ts:=ts) (n:=n) (yL:=yL) (out:=out) (yM:=yM) with h | ⟨_,h⟩
 ·rw [h];omega
 ·rw [h];omega
theorem Ef (hN:1073741824<=N) (q:QFor ts n yL yM) (ha:dz yL) (ho:okI out) (hqq:et (n:Int) yL out=true) {x:c5} (hx:iM N n yL x) :
  dS N (n:Int) yL out (pY ts yL) x (ki ts (n:Int) yL out yM).2.1=some true:=by
 obtain ⟨d,k,d1,d3,hk,ex,C⟩:=ww hN q.n5 q.a1 q.a4 hx
 have hs:∀ i,i<yL.length->ny ts yL i<=16:=fun i hi=>CO q hi
 rcases Gn (ts:=ts) (n:=n) (yL:=yL) (out:=out) (yM:=yM) with h | ⟨he,h⟩
 ·rw [h]
  exact Eb hN ha ho hqq hs hk d1 d3 ex (c:=0) (M:=0) (by rw [rC oa];exact cE _) (cE _)
 ·obtain ⟨M,hM,hst⟩:=Ga q C (JJ he C.lt) (bN n)
  have h0:=(sB (o5 q) n []).1
  obtain ⟨c,hc⟩:=nV h0
  rw [h,hc]
  rw [hc] at hst
  exact Eb hN ha ho hqq hs hk d1 d3 ex (c:=c) (M:=M) (Nat.le_trans hM (Ma q k)) (sx.1 hst)
theorem Jc (q:QFor ts n yL yM) (h:okQ ts (n:Int) yL out yM=true) (hl:(c9 (bR ts yM yL) n []).1.length<=4000) :
  Ir ts (n:Int) yL out yM (n:Int)=(((n:Int),(c9 (bR ts yM yL) n []).1),true)/\(ki ts (n:Int) yL out yM).1=((n:Int),(c9 (bR ts yM yL) n []).1)/\(ki ts (n:Int) yL out yM).2.2=true:=by
 have hf:sF (n:Int) (c9 (bR ts yM yL) n [])=(((n:Int),(c9 (bR ts yM yL) n []).1),(c9 (bR ts yM yL) n []).2,true):=by
  unfold sF
  rw [aW oa,ag]
 refine ⟨?_,?_,?_⟩
 ·unfold Ir
  rw [h,show inR (n:Int) 0 (n:Int)=true from cg.2 oa,show ((n:Nat):Int).toNat=n from rfl,hf];rfl
 ·unfold ki
  rw [h,ag]
  cases he:m9 (c4 ts yM yL) with
  | true =>
   unfold m9 at he
   rw [List.any_eq_true] at he
   obtain ⟨t,ht,h0⟩:=he
   obtain ⟨a,ha,rfl⟩:=fK.1 ht
   obtain ⟨i,hi,rfl⟩:=gR ha
   rw [dN] at h0
   rw [Ah q hi (by rw [xC,lU hi];exact h0)];rfl
  | false =>
   rw [am,show ((n:Nat):Int).toNat=n from rfl,hf]
 ·unfold ki
  rw [h,ag]
  cases he:m9 (c4 ts yM yL) with
  | true=>rfl
  | false =>
   rw [am,show ((n:Nat):Int).toNat=n from rfl,hf]
end
theorem As {N:Nat} (hM:1073742848<=N) {x0:yQ} (_:(td (fun _=>True) 9223372036854775807) x0) (g0:∀ v∈x0,0<=v/\v<=255):mY N x0=some true:=by
 have hN:1073741824<=N:=by omega
 unfold mY vn
 rw [bs]
 by_cases hb:(1048576:Int)<(x0.length:Int)
 ·rw [aW hb];rfl
 ·rw [ba hb,am]
  have hc:hZ x0:=⟨oa,fun v hv=>g0 v hv⟩
  obtain ⟨ts,⟨n,ats,out⟩,o,e1,hj,hv⟩:=vK hM hc
  have d1:=hj.1.ok;have d2:=hj.2.1.atoms;have d3:=hj.2.1.out;have d4:=hj.o
  rw [e1,bs]
  dsimp only at d2 d3 ⊢
  have hsm:px N ts n ats out o=some (okQ ts n ats out o):=by
   unfold px okQ
   rw [rg hN d1 d2 d3,bs,vg hN d2 d3 d4]
   cases i5 ts n ats out <;> rfl
  rw [rh hM d1 d2 d3 d4,bs,Di,hsm,bs]
  cases h:okQ ts n ats out o with
  | false=>rfl
  | true =>
   obtain ⟨m,rfl,q,hqq⟩:=IB h
   have hf:i5 ts (m:Int) ats out=true:=by
    unfold okQ at h
    rw [bU] at h
    exact h.1
   have e2:=CR hM q d1 d2 d3 hf
   have hlen:=Fn ts ats
   have h4:=q.a4
   obtain ⟨w,ew,hw⟩:=DH hN d2 d3 hqq (GY q) hlen (Bz q)
   obtain ⟨x,v,ex,hx⟩:=DZ hN d2 d3 hqq (GY q)
   have hl:=Gr q hj.1 hv.1 hv.2
   obtain ⟨_,_,h2⟩:=Jc q h hl
   have hwl:=hw.1.len
   have s3:=Ef (out:=out) hN q d2 d3 hqq hw
   have s4:=Ef (out:=out) hN q d2 d3 hqq hx
   obtain ⟨b,s1,s2⟩:=tU (n:=(m:Int)) (out:=out) (xs:=pY ts ats) (rs:=w) (c:=(ki ts (m:Int) ats out o).2.1) hN d2 d3 oa (fun v hv=>by have:=Bz q v hv;unfold CJ;omega) oa (Mc q)
   rw [s3] at s1
   have hb:b=true:=(c8 s1).symm
   rw [hb] at s2
   rw [ag,ag,vv hM d1 d2 d3 d4,bs,e2,bs]
   dsimp only
   show ((kY N (m:Int) ats out (pY ts ats)).bind _)=_
   rw [ew,bs,ex,bs]
   dsimp only
   rw [ag,sf,beq_self_eq_true,ag,h2,ag]
   show ((gF N (m:Int) ats out (pY ts ats) w (ki ts (m:Int) ats out o).2.1).bind _)=_
   rw [s2,bs,ag]
   show ((dS N (m:Int) ats out (pY ts ats) x (ki ts (m:Int) ats out o).2.1).bind _)=_
   rw [s4,bs]
section
variable {P:Program} {n:Nat} {Q Q':Exit->Env->World->Prop} {K:Env->World->Prop} {KQ:Env->Prop} {e:Env} {w w0:World} {c y:Code} {x:Exit} {ops:Array Oper} {rest:List Oper}
variable {d:Nat} {op:Op} {ty:TypeId} {pos:String} {af:Array Edge} {o z1 z2 z3:Operand} {v:Value} {q1:Oper}
theorem GR {x:Operand} {t ft:TypeId} {k off:Nat} {fs:Array Field} {f:Field} (h1:P.underlying t=some (.struct fs)) (h2:fs[k]? = some f) (h3:f.offset=off) (h4:f.type=ft) [hT:PlainT P ft] {cs:List Value} (hx:ev e x=.agg cs.toArray) {c:Value} (hc:cs[off]? = some c):PV P ⟨d,.field t x k,ty,pos,af,none⟩ e w c:=fun w' _=>by
 obtain ⟨dd,hd,hk⟩:=hT.h
 subst h3;subst h4
 have hagg:(isAgg f.type).run P w'=.ok false w':=by
  unfold isAgg
  rw [dE,gb hd w']
  cases dd <;> simp_all
 unfold execOp
 simp [hx,Instr.field,gb h1,h2,asAgg,part,dE,hagg,hc]
def RdF {α:Type} (w0 W:World) (F:List Nat) (R:Rep α) (cs:List Value) (x:α):Prop:=R.rd w0 cs x\/∃ f,R.own W cs x f/\∀ b∈f,b∈F
theorem RdF.up {α:Type} {R:Rep α} {W W':World} {F F':List Nat} {cs:List Value} {x:α} (h:RdF w0 W F R cs x) (he:∀ b∈F,W'.heap[b]? = W.heap[b]?) (hs:∀ b∈F,b∈F'):RdF w0 W' F' R cs x:=by
 rcases h with h | ⟨f,h1,h2⟩
 ·exact .inl h
 ·exact .inr ⟨f,R.own_ext h1 (fun b hb=>he b (h2 b hb)),fun b hb=>hs b (h2 b hb)⟩
theorem dt {p:Prop} [Decidable p] (h:decide p=true:=by rfl):p:=ro h
theorem oB {α β:Type} {C:Prop} {o:Option α} {f:α->Option β} {r:β} (h:o.bind f=some r) (k:∀ x,o=some x->f x=some r->C):C:=by
 obtain ⟨x,h1,h2⟩:=ob h
 exact k x h1 h2
theorem oF {α:Type} {C:Prop} {c:Bool} {x y:Option α} {r:α} (h:(bif c then x else y)=some r) (k1:c=true->x=some r->C) (k2:c=false->y=some r->C):C:=by
 rcases oif h with ⟨h1,h2⟩ | ⟨h1,h2⟩
 ·exact k1 h1 h2
 ·exact k2 h1 h2
theorem oI {α:Type} {a b:α} (h:some a=some b):a=b:=c8 h
theorem nn {α:Type} {x:α} (h:none=some x):False:=nomatch h
theorem cR {α:Type} {a b:α} (h:a=b) (f:α->Value):Ending.returned (f a)=Ending.returned (f b):=by rw [h]
theorem sP {α:Type} {a b:α} (h:a=b) (f:α->List Asn) (S:Sat w0 w (f a)):Sat w0 w (f b):=by rw [<- h];exact S
abbrev pt (b o:Nat):Value:=.pointer (some ⟨b,o,none⟩)
theorem sg (h:∀ Q':Exit->Env->World->Prop,(∀ x e w,thn (fun e w=>CW P n y Q e w) Q x e w->Q' x e w)->CW P n c Q' e w):CW P n (.seq c y) Q e w:=F6 (ze h)
theorem sR {id:Nat} {l:List Oper} (h:∀ Q':Exit->Env->World->Prop,(∀ x e w,thn (fun e w=>CW P n y Q e w) Q x e w->Q' x e w)->EL P n l.toArray (fun e w=>Q' .normal e w) l e w):CW P n (.seq (.region id l.toArray false) y) Q e w:=F6 (ze fun Q' q=>ae (h Q' q))
theorem gn (h:∀ Q':Exit->Env->World->Prop,(∀ x e w,Q x e w->Q' x e w)->CW P n c Q' e w):CW P n c Q e w:=ze h
theorem bg {i:Nat} (h:∀ Q':Exit->Env->World->Prop,(∀ x e w,inb i Q x e w->Q' x e w)->CW P n c Q' e w):CW P n (.block i c) Q e w:=HT (ze h)
theorem hq {f:Exit->Env->World->Prop} (h:∀ x e w,f x e w->Q' x e w) (k:f x e w):Q' x e w:=h _ _ _ k
theorem tn (h:∀ x e w,thn K Q x e w->Q' x e w) (k:K e w):Q' .normal e w:=h _ _ _ k
theorem tr (h:∀ x e w,thn K Q x e w->Q' x e w) (k:Q .ret e w):Q' .ret e w:=h _ _ _ k
theorem tx {i:Nat} (h:∀ x e w,thn K Q x e w->Q' x e w) (k:Q (.exit i) e w):Q' (.exit i) e w:=h _ _ _ k
theorem bn {i:Nat} (h:∀ x e w,inb i Q x e w->Q' x e w) (k:Q .normal e w):Q' .normal e w:=h _ _ _ k
theorem br {i:Nat} (h:∀ x e w,inb i Q x e w->Q' x e w) (k:Q .ret e w):Q' .ret e w:=h _ _ _ k
theorem bS {i:Nat} (h:∀ x e w,inb i Q x e w->Q' x e w) (k:Q .normal e w):Q' (.exit i) e w:=h _ _ _ (Mm k)
theorem en (h:∀ x e w,thn K Q x e w->Q' x e w) (k:K e w):EL P n ops (fun e w=>Q' .normal e w) [] e w:=aj (h _ _ _ k)
theorem sn (h:∀ x e w,thn K Q x e w->Q' x e w) (k:K e w):CW P n .skip Q' e w:=bi (h _ _ _ k)
theorem pa (v:Value) (hK:EL P n ops K rest (upd e d v) w) (hx:ev e o=v:=by exact rfl) (hd:d<n:=by decide):EL P n ops K (⟨some d,.assign o,ty,pos,af,none⟩ :: rest) e w:=qJ (eE hx) hd hK
theorem pm (v:Value) (hK:EL P n ops K rest (upd e d v) w) (hx:ev e o=v:=by exact rfl) (hd:d<n:=by decide):EL P n ops K (⟨some d,.move o,ty,pos,af,none⟩ :: rest) e w:=qJ (bm hx) hd hK
theorem pM (v:Value) (hx:ev e o=v) (hK:EL P n ops K rest (upd e d v) w) (hd:d<n:=by decide):EL P n ops K (⟨some d,.move o,ty,pos,af,none⟩ :: rest) e w:=qJ (bm hx) hd hK
theorem pe (v:Value) (hp:PV P ⟨some d,op,ty,pos,af,none⟩ e w v) (hK:EL P n ops K rest (upd e d v) w) (hd:d<n:=by decide):EL P n ops K (⟨some d,op,ty,pos,af,none⟩ :: rest) e w:=qJ hp hd hK
theorem qe (v:Value) (hp:PV P ⟨some d,op,ty,pos,af,none⟩ e w v) (hK:QL P n ops w KQ rest (upd e d v)) (hd:d<n:=by decide):QL P n ops w KQ (⟨some d,op,ty,pos,af,none⟩ :: rest) e:=xF hp hd hK
theorem qm (v:Value) (hK:QL P n ops w KQ rest (upd e d v)) (hx:ev e o=v:=by exact rfl) (hd:d<n:=by decide):QL P n ops w KQ (⟨some d,.move o,ty,pos,af,none⟩ :: rest) e:=xF (bm hx) hd hK
theorem qM (v:Value) (hx:ev e o=v) (hK:QL P n ops w KQ rest (upd e d v)) (hd:d<n:=by decide):QL P n ops w KQ (⟨some d,.move o,ty,pos,af,none⟩ :: rest) e:=xF (bm hx) hd hK
theorem eo {j:Nat} {b b' c:Bool} (hc:c=b) (hK:EL P n ops K rest (upd e d undef) w) (h:yld ops e j=some c:=by exact rfl) (hb:(b == b')=false:=by exact rfl) (hd:d<n:=by decide):EL P n ops K (⟨some d,op,ty,pos,af,some (j,b')⟩ :: rest) e w:=KO h hc hb hd hK
theorem qo {j:Nat} {b b' c:Bool} (hc:c=b) (hK:QL P n ops w KQ rest (upd e d undef)) (h:yld ops e j=some c:=by exact rfl) (hb:(b == b')=false:=by exact rfl) (hd:d<n:=by decide):QL P n ops w KQ (⟨some d,op,ty,pos,af,some (j,b')⟩ :: rest) e:=Le h hc hb hd hK
theorem ei {j:Nat} {b c:Bool} {dst:Option Nat} (hc:c=b) (hK:EL P n ops K (⟨dst,op,ty,pos,af,none⟩ :: rest) e w) (h:yld ops e j=some c:=by exact rfl):EL P n ops K (⟨dst,op,ty,pos,af,some (j,b)⟩ :: rest) e w:=Md h hc hK
theorem qi {j:Nat} {b c:Bool} {dst:Option Nat} (hc:c=b) (hK:QL P n ops w KQ (⟨dst,op,ty,pos,af,none⟩ :: rest) e) (h:yld ops e j=some c:=by exact rfl):QL P n ops w KQ (⟨dst,op,ty,pos,af,some (j,b)⟩ :: rest) e:=Mj h hc hK
theorem ct {b:Bool} (hb:b=true) (h:CW P n c Q e w) (hc:ev e o=.bool b:=by exact rfl):CW P n (.cond o c y) Q e w:=Hn hc hb h
theorem cf {b:Bool} (hb:b=false) (h:CW P n y Q e w) (hc:ev e o=.bool b:=by exact rfl):CW P n (.cond o c y) Q e w:=Hb hc hb h
theorem rB {a b:Bool} {Γ:List Asn} (h:some a=some b) (hS:Sat w0 w Γ):Ending.returned (.bool a)=.returned (.bool b)/\Ext w0 w:=⟨by rw [c8 h],hS.below⟩
theorem rI {a b:Int} {Γ:List Asn} (h:some a=some b) (hS:Sat w0 w Γ):Ending.returned (.int .i64 a)=.returned (.int .i64 b)/\Ext w0 w:=⟨by rw [c8 h],hS.below⟩
abbrev i_ (x:Int):Value:=.int .i64 x
abbrev n_:Value:=.slice none 0 0
theorem ec0 {f:FuncId} {args:Array Operand} {tys:Array TypeId} {vals:Array Value} {Γ:List Asn} (hg:Goes P f) (hc:Calls P f vals w fun x w'=>x=.returned v/\Ext w w') (hv:(args.toList.map (ev e)).toArray=vals) (S:Sat w0 w Γ)
  (hK:∀ w',Ext w w'->Sat w0 w' Γ->EL P n ops K rest (upd e d v) w') (hd:d<n:=by decide):EL P n ops K (⟨some d,.call ⟨.value (.func f),args,tys⟩,ty,pos,af,none⟩ :: rest) e w :=
 bu hg hc hv hd (by rintro _ w' ⟨rfl,hx⟩;exact ⟨_,rfl,hK w' hx (S.ext hx)⟩)
theorem ec1 {f:FuncId} {args:Array Operand} {tys:Array TypeId} {vals:Array Value} {Γ:List Asn} {G:Value->Value} {A:Value->Asn} (hg:Goes P f) (hc:Calls P f vals w fun x w'=>∃ v,x=.returned (G v)/\Sat w w' [A v]) (hv:(args.toList.map (ev e)).toArray=vals) (S:Sat w0 w Γ)
  (hK:∀ w' v,Ext w w'->Sat w0 w' (A v :: Γ)->EL P n ops K rest (upd e d (G v)) w') (hd:d<n:=by decide):EL P n ops K (⟨some d,.call ⟨.value (.func f),args,tys⟩,ty,pos,af,none⟩ :: rest) e w :=
 bu hg hc hv hd (by rintro _ w' ⟨v,rfl,S'⟩;exact ⟨_,rfl,hK w' v S'.below (S.zO S')⟩)
theorem aO {X:List Nat} {C:World->Prop} (i:Nat) {f:Nat} {L:Array Bool} (ho:ops[i]? = some q1)
  (h:EL P n ops (fun e' w'=>(X.contains i=true->C w')/\AL P n ops X C K f (L.setIfInBounds i true) e' w') [q1] e w) (hr:Region.ready .any ops L=[i]:=by kernel_rfl):AL P n ops X C K (f+1) L e w:=KR i hr ho h
theorem aP {X:List Nat} {C:World->Prop} (v:Value) (i:Nat) {f:Nat} {L:Array Bool} (hi:ops[i]? = some q1) (hdst:q1.dst=some d) (hC:C w)
  (hy:SV P n ops C q1 e v) (hK:AL P n ops X C K f (L.setIfInBounds i true) (upd e d v) w) (hsel:pU ops=true:=by kernel_rfl) (hdn:d<n:=by decide) (hf:sW ops X L i q1=true:=by kernel_rfl) (hr:(Region.ready .any ops L).contains i=true:=by kernel_rfl):AL P n ops X C K (f+1) L e w:=Fb hsel i hi hdst hdn hC hf hr hy hK
theorem ca {α β:Type} {f:α->β} {l:List α} {m:List β} (h:l.map f=m):(l.map f).toArray=m.toArray:=aZ List.toArray h
theorem Sat.t1 {a0 a1:Asn} {Γ:List Asn} (h:Sat w0 w (a0 :: a1 :: Γ)):Sat w0 w (a1 :: a0 :: Γ):=h.top 1 rfl
theorem Sat.t2 {a0 a1 a2:Asn} {Γ:List Asn} (h:Sat w0 w (a0 :: a1 :: a2 :: Γ)):Sat w0 w (a2 :: a0 :: a1 :: Γ):=h.top 2 rfl
theorem Sat.t3 {a0 a1 a2 a3:Asn} {Γ:List Asn} (h:Sat w0 w (a0 :: a1 :: a2 :: a3 :: Γ)):Sat w0 w (a3 :: a0 :: a1 :: a2 :: Γ):=h.top 3 rfl
theorem Sat.t4 {a0 a1 a2 a3 a4:Asn} {Γ:List Asn} (h:Sat w0 w (a0 :: a1 :: a2 :: a3 :: a4 :: Γ)):Sat w0 w (a4 :: a0 :: a1 :: a2 :: a3 :: Γ):=h.top 4 rfl
theorem Sat.t5 {a0 a1 a2 a3 a4 a5:Asn} {Γ:List Asn} (h:Sat w0 w (a0 :: a1 :: a2 :: a3 :: a4 :: a5 :: Γ)):Sat w0 w (a5 :: a0 :: a1 :: a2 :: a3 :: a4 :: Γ):=h.top 5 rfl
theorem Sat.t6 {a0 a1 a2 a3 a4 a5 a6:Asn} {Γ:List Asn} (h:Sat w0 w (a0 :: a1 :: a2 :: a3 :: a4 :: a5 :: a6 :: Γ)):Sat w0 w (a6 :: a0 :: a1 :: a2 :: a3 :: a4 :: a5 :: Γ):=h.top 6 rfl
theorem Sat.t7 {a0 a1 a2 a3 a4 a5 a6 a7:Asn} {Γ:List Asn} (h:Sat w0 w (a0 :: a1 :: a2 :: a3 :: a4 :: a5 :: a6 :: a7 :: Γ)):Sat w0 w (a7 :: a0 :: a1 :: a2 :: a3 :: a4 :: a5 :: a6 :: Γ):=h.top 7 rfl
theorem Sat.t8 {a0 a1 a2 a3 a4 a5 a6 a7 a8:Asn} {Γ:List Asn} (h:Sat w0 w (a0 :: a1 :: a2 :: a3 :: a4 :: a5 :: a6 :: a7 :: a8 :: Γ)):Sat w0 w (a8 :: a0 :: a1 :: a2 :: a3 :: a4 :: a5 :: a6 :: a7 :: Γ):=h.top 8 rfl
theorem Sat.r0 {a0:Asn} {Γ:List Asn} (h:Sat w0 w (a0 :: Γ)):Sat w0 w (Γ):=h.rem 0 rfl
theorem Sat.r1 {a0 a1:Asn} {Γ:List Asn} (h:Sat w0 w (a0 :: a1 :: Γ)):Sat w0 w (a0 :: Γ):=h.rem 1 rfl
theorem Sat.r2 {a0 a1 a2:Asn} {Γ:List Asn} (h:Sat w0 w (a0 :: a1 :: a2 :: Γ)):Sat w0 w (a0 :: a1 :: Γ):=h.rem 2 rfl
theorem Sat.r3 {a0 a1 a2 a3:Asn} {Γ:List Asn} (h:Sat w0 w (a0 :: a1 :: a2 :: a3 :: Γ)):Sat w0 w (a0 :: a1 :: a2 :: Γ):=h.rem 3 rfl
theorem Sat.r4 {a0 a1 a2 a3 a4:Asn} {Γ:List Asn} (h:Sat w0 w (a0 :: a1 :: a2 :: a3 :: a4 :: Γ)):Sat w0 w (a0 :: a1 :: a2 :: a3 :: Γ):=h.rem 4 rfl
theorem Sat.r5 {a0 a1 a2 a3 a4 a5:Asn} {Γ:List Asn} (h:Sat w0 w (a0 :: a1 :: a2 :: a3 :: a4 :: a5 :: Γ)):Sat w0 w (a0 :: a1 :: a2 :: a3 :: a4 :: Γ):=h.rem 5 rfl
theorem Sat.r6 {a0 a1 a2 a3 a4 a5 a6:Asn} {Γ:List Asn} (h:Sat w0 w (a0 :: a1 :: a2 :: a3 :: a4 :: a5 :: a6 :: Γ)):Sat w0 w (a0 :: a1 :: a2 :: a3 :: a4 :: a5 :: Γ):=h.rem 6 rfl
theorem Sat.r7 {a0 a1 a2 a3 a4 a5 a6 a7:Asn} {Γ:List Asn} (h:Sat w0 w (a0 :: a1 :: a2 :: a3 :: a4 :: a5 :: a6 :: a7 :: Γ)):Sat w0 w (a0 :: a1 :: a2 :: a3 :: a4 :: a5 :: a6 :: Γ):=h.rem 7 rfl
theorem Sat.r8 {a0 a1 a2 a3 a4 a5 a6 a7 a8:Asn} {Γ:List Asn} (h:Sat w0 w (a0 :: a1 :: a2 :: a3 :: a4 :: a5 :: a6 :: a7 :: a8 :: Γ)):Sat w0 w (a0 :: a1 :: a2 :: a3 :: a4 :: a5 :: a6 :: a7 :: Γ):=h.rem 8 rfl
end
theorem Ew {α:Type} {R:Rep α} {w:World} (hsz:R.sz=1):∀ {xs:List α} {ccs:List Value} {f:List Nat},fW R w ccs xs f->∃ ts:List (Value × α × List Nat),ccs=ts.map (·.1)/\xs=ts.map (·.2.1)/\f=(ts.map (·.2.2)).flatten/\∀ t∈ts,R.own w [t.1] t.2.1 t.2.2
 | [],_,_,h=>by
  obtain ⟨rfl,rfl⟩:=h
  exact ⟨[],rfl,rfl,rfl,by simp⟩
 | x :: xs,_,_,h=>by
  obtain ⟨ec,rest,f1,f2,rfl,rfl,h1,h2⟩:=h
  obtain ⟨ts,rfl,rfl,rfl,h3⟩:=Ew hsz h2
  have hl:=R.rd_len (R.own_rd h1)
  rw [hsz] at hl
  obtain ⟨c,rfl⟩:=List.length_eq_one_iff.1 hl
  refine ⟨(c,x,f1) :: ts,rfl,rfl,rfl,fun t ht=>?_⟩
  rcases cZ.1 ht with rfl | ht
  ·exact h1
  ·exact h3 t ht
theorem ER {α:Type} {R:Rep α} {w:World}:∀ {ts:List (Value × α × List Nat)},(∀ t∈ts,R.own w [t.1] t.2.1 t.2.2)->fW R w (ts.map (·.1)) (ts.map (·.2.1)) (ts.map (·.2.2)).flatten
 | [],_=>⟨rfl,rfl⟩
 | t :: _,h=>⟨[t.1],_,t.2.2,_,rfl,rfl,h t dM,ER fun u hu=>h u (fJ _ hu)⟩
theorem F3 {α:Type} {R:Rep α} {w:World} (hsz:R.sz=1) {xs:List α} {ccs:List Value} {f:List Nat} (h:fW R w ccs xs f) {k p:Nat} (hk:k<xs.length) (hp:p<xs.length) {a b:Value} (ha:ccs[k]? = some a) (hb:ccs[p]? = some b) :
  ∃ f',f'.Perm f/\fW R w ((ccs.set k b).set p a) ((xs.set k xs[p]).set p xs[k]) f':=by
 obtain ⟨ts,rfl,rfl,rfl,h3⟩:=Ew hsz h
 rw [cD] at hk hp
 rw [List.getElem?_map,qY hk] at ha
 rw [List.getElem?_map,qY hp] at hb
 have ha:ts[k].1=a:=c8 ha
 have hb:ts[p].1=b:=c8 hb
 have hpm:=List.set_set_perm hk hp
 refine ⟨(((ts.set k ts[p]).set p ts[k]).map (·.2.2)).flatten,(hpm.map _).flatten,?_⟩
 have:=ER (R:=R) (w:=w) (ts:=(ts.set k ts[p]).set p ts[k]) fun t ht=>h3 t (hpm.mem_iff.1 ht)
 rw [xh,xh,xh,xh,ha,hb] at this
 rw [ky,ky]
 exact this
def Cq {α:Type} (R:Rep α) (E:TypeId) (v:Value) (ys:List α) (p:Nat) (c:Value):Asn where
 holds w fp:=∃ g cap cur f2,v=.slice (some ⟨g,0,none⟩) ys.length cap/\w.heap[g]? = some (.cells cur E (0,0))/\ys.length<=cap/\cap<=maxLen/\cur.size=cap*R.sz/\R.sz=1/\p<ys.length/\fW R w ((cur.toList.take ys.length).set p c) ys f2/\fp=g :: f2
 ext h he:=by
  obtain ⟨g,cap,cur,f2,h1,h2,h3,h4,h5,h6,h7,h8,rfl⟩:=h
  exact ⟨g,cap,cur,f2,h1,by rw [he g dM];exact h2,h3,h4,h5,h6,h7,hQ h8 (fun b hb=>he b (fJ _ hb)),rfl⟩
 lt h:=by
  obtain ⟨g,cap,cur,f2,h1,h2,h3,h4,h5,h6,h7,h8,rfl⟩:=h
  intro b hb
  rcases cZ.1 hb with rfl | hb
  ·exact (j0.1 h2).1
  ·exact iE h8 b hb
section
variable {P:Program} {n:Nat} {K:Env->World->Prop} {e:Env} {w w0:World} {ops:Array Oper} {rest:List Oper} {ty:TypeId} {pos:String} {af:Array Edge}
variable {α:Type} {R:Rep α} {Γ:List Asn} {E:TypeId} {v:Value}
theorem Bu {e:Env} {K:Env->World->Prop} {x y:Operand} {t:TypeId} {z:List Value} {yP:Nat} [hz:ElemT P t z 1 yP] {A B:Asn} {g o:Nat} {c:Value} {cur:Array Value}
  (hS:Sat w0 w (A :: Γ)) (hg:w.heap[g]? = some (.cells cur E (0,0))) (ho:o<cur.size) (hx:ev e x=.pointer (some ⟨g,o,none⟩)) (hy:(ev e y).cells=[c].toArray) (h1:c.oneCell'=true)
  (hAB:∀ w' fp,A.holds w fp->fp.Nodup->w'.heap[g]? = some (.cells (cur.toList.set o c).toArray E (0,0))->(∀ x,x≠g->x<w.heap.size->w'.heap[x]? = w.heap[x]?)->∃ fp',fp'.Perm fp/\g∈fp/\B.holds w' fp')
  (hK:∀ w',Sat w0 w' (B :: Γ)->EL P n ops K rest e w'):EL P n ops K (⟨none,.store t x y,ty,pos,af,none⟩ :: rest) e w:=by
 intro a ha
 refine lA rfl fun K' hK'=>?_
 have hz:=hz.h
 cases hi:P.info? t with
 | none=>simp [hi] at hz
 | some inf =>
  simp [hi] at hz
  have hh':w.heap[g]? = some (.cells cur.toList.toArray E (0,0)):=by simpa using hg
  obtain ⟨w',hr,hnew,hc⟩:=iN (P:=P) [c] o 0 cur.toList w hh' (by simp;omega) (by simpa using h1)
  have hsz:¬ ([c].toArray.size≠inf.size):=by simp;omega
  unfold Oper.wp execOp
  simp only [ha.eval,hx,Instr.storeAt,Instr.sureAddr,storeVar,sizeOf,typeInfo,hi,hy,dE,fG,mF,d8,hsz,nj,q8,ri,hr,w6]
  refine hK' _ _ (hK w' ?_ _ ha)
  refine hS.yK ?_
  intro fp hA hnd
  have hoth:∀ x,x≠g->x<w.heap.size->w'.heap[x]? = w.heap[x]?:=fun x hx hlt=>hc.block x hlt (by simpa using hx)
  have hnew':w'.heap[g]? = some (.cells (cur.toList.set o c).toArray E (0,0)):=by
   rw [hnew]
   have e:cur.toList.take (o+0)++[c]++cur.toList.drop (o+0+[c].length)=cur.toList.set o c:=by
    rw [List.set_eq_take_append_cons_drop,aX (by simpa using ho)]
    simp
   rw [<- e]
  obtain ⟨fp',hp,hgm,hB⟩:=hAB w' fp hA hnd hnew' hoth
  exact ⟨fp',hB,hp.nodup_iff.2 hnd,hc.mono (by simpa using hgm),fun b hb=>.inl (hp.mem_iff.1 hb)⟩
theorem DJ {e:Env} {K:Env->World->Prop} {x y:Operand} {t:TypeId} {z:List Value} {yP:Nat} [hz:ElemT P t z 1 yP] {xs ys:List α} {g cap g1 cap1 g2 cap2:Nat} {k p:Int} {a b:α} {ca cb:Value}
  (hS:Sat w0 w (Own (aH R E) [v] xs :: Γ)) (hv:v=.slice (some ⟨g,0,none⟩) xs.length cap) (hv1:v=.slice (some ⟨g1,0,none⟩) xs.length cap1) (hv2:v=.slice (some ⟨g2,0,none⟩) xs.length cap2) (hsz:R.sz=1) (ha:ix xs k=some a) (hb:ix xs p=some b) (hca:∀ j c,[ca][j]? = some c->w.cell? ⟨g1,k.toNat*1+j,none⟩=some c) (hcb:∀ j c,[cb][j]? = some c->w.cell? ⟨g2,p.toNat*1+j,none⟩=some c)
  (hy1:sto xs k b=some ys) (hx:ev e x=.pointer (some ⟨g,k.toNat*1,none⟩)) (hy:(ev e y).cells=[cb].toArray) (h1:cb.oneCell'=true)
  (hK:∀ w',Sat w0 w' (Cq R E v (ys.set p.toNat a) p.toNat ca :: Γ)->EL P n ops K rest e w'):EL P n ops K (⟨none,.store t x y,ty,pos,af,none⟩ :: rest) e w:=by
 obtain ⟨rfl,rfl⟩:g=g1/\cap=cap1:=by rw [hv] at hv1;simpa using hv1
 obtain ⟨rfl,rfl⟩:g=g2/\cap=cap2:=by rw [hv] at hv2;simpa using hv2
 clear hv1 hv2
 obtain ⟨k,rfl,hk,rfl⟩:=jD ha
 obtain ⟨p,rfl,hp,rfl⟩:=jD hb
 have ey:ys=xs.set k xs[p]:=by
  unfold sto at hy1;split at hy1
  ·exact (c8 hy1).symm
  ·cases hy1
 subst ey hv
 simp only [iR,oQ] at hx hca hcb hK
 obtain ⟨fp,hv,_⟩:=hS.head
 rcases hv with ⟨_,h2,_⟩ | ⟨g',cap',cur,ccs,f2,hv,hg,k1,k2,k3,k4,k5,rfl⟩
 ·subst h2;simp at hk
 obtain ⟨rfl,rfl⟩:g=g'/\cap=cap':=by simpa using hv
 rw [hsz,oQ] at k4
 have hcur:xs.length<=cur.size:=by rw [k3,hsz];omega
 have at1:∀ {i:Nat} {c:Value},i<xs.length->w.cell? ⟨g,i+0,none⟩=some c->(cur.toList.take xs.length)[i]? = some c:=by
  intro i c hi h
  rw [nf w g _ cur E (0,0) hg,<- pG,lh] at h
  rw [lm,aX hi];exact h
 have hA:=at1 hk (hca 0 ca rfl)
 have hB:=at1 hp (hcb 0 cb rfl)
 refine Bu (B:=Cq R E (.slice (some ⟨g,0,none⟩) xs.length cap) ((xs.set k xs[p]).set p xs[k]) p ca) hS hg oa hx hy h1 ?_ hK
 intro w' fp2 hA2 hnd hnew hoth
 rcases hA2 with ⟨_,h2,_⟩ | ⟨g',cap',cur',ccs',f3,hv',hg',m1,m2,m3,m4,m5,rfl⟩
 ·subst h2;simp at hk
 obtain ⟨rfl,rfl⟩:g=g'/\cap=cap':=by simpa using hv'
 obtain ⟨rfl⟩:cur'=cur:=by rw [hg] at hg';simpa using hg'.symm
 rw [hsz,oQ] at m4
 subst m4
 obtain ⟨f',hpm,hsw⟩:=F3 hsz m5 hk hp hA hB
 refine ⟨g :: f',hpm.cons g,dM,g,cap,_,f',by simp,hnew,by simpa using m1,m2,by simpa using m3,hsz,by simpa using hp,?_,rfl⟩
 have hgn:g∉f3:=(lV.1 hnd).1
 have e:((cur.toList.set k cb).toArray.toList.take ((xs.set k xs[p]).set p xs[k]).length).set p ca=((cur.toList.take xs.length).set k cb).set p ca:=by
  rw [gP,gP,wm]
 rw [e]
 exact hQ hsw fun b hb=>hoth b (fun eb=>hgn (hpm.mem_iff.1 (eb ▸ hb))) (iE m5 b (hpm.mem_iff.1 hb))
theorem Dm {e:Env} {K:Env->World->Prop} {x y:Operand} {t:TypeId} {z:List Value} {yP:Nat} [hz:ElemT P t z 1 yP] {xs ys:List α} {g cap ln:Nat} {p:Int} {a:α} {ca:Value}
  (hS:Sat w0 w (Cq R E v (xs.set p.toNat a) p.toNat ca :: Γ)) (hv:v=.slice (some ⟨g,0,none⟩) ln cap) (hy1:sto xs p a=some ys) (hx:ev e x=.pointer (some ⟨g,p.toNat*1,none⟩)) (hy:(ev e y).cells=[ca].toArray) (h1:ca.oneCell'=true)
  (hK:∀ w',Sat w0 w' (Own (aH R E) [v] ys :: Γ)->EL P n ops K rest e w'):EL P n ops K (⟨none,.store t x y,ty,pos,af,none⟩ :: rest) e w:=by
 have ey:ys=xs.set p.toNat a:=by
  unfold sto at hy1;split at hy1
  ·exact (c8 hy1).symm
  ·cases hy1
 rw [<- ey] at hS
 clear ey hy1
 rw [oQ] at hx
 obtain ⟨fp,⟨g',cap',cur,f2,k1,k2,k3,k4,k5,k6,k7,k8,rfl⟩,_⟩:=hS.head
 subst k1
 obtain ⟨rfl,rfl,rfl⟩:g'=g/\ys.length=ln/\cap'=cap:=by simpa using hv
 rw [k6,oQ] at k5
 refine Bu (B:=Own (aH R E) [.slice (some ⟨g',0,none⟩) ys.length cap'] ys) hS k2 oa hx hy h1 ?_ hK
 intro w' fp2 hA2 hnd hnew hoth
 obtain ⟨g2,cap2,cur2,f3,m1,m2,m3,m4,m5,m6,m7,m8,rfl⟩:=hA2
 obtain ⟨rfl,rfl⟩:g'=g2/\cap'=cap2:=by simpa using m1
 obtain ⟨rfl⟩:cur2=cur:=by rw [k2] at m2;simpa using m2.symm
 have hgn:g'∉f3:=(lV.1 hnd).1
 refine ⟨g' :: f3,.refl _,dM,.inr ⟨g',cap',_,_,f3,rfl,hnew,m3,m4,by simpa using m5,rfl,?_,rfl⟩⟩
 have e:(cur.toList.set p.toNat ca).toArray.toList.take (ys.length*R.sz)=(cur.toList.take ys.length).set p.toNat ca:=by
  rw [m6,oQ,wm]
 rw [e]
 exact hQ m8 fun b hb=>hoth b (fun eb=>hgn (eb ▸ hb)) (iE m8 b hb)
end
def wD {α:Type} (w0:World) (R:Rep α):Rep α where
 sz:=R.sz
 rd w cs x:=R.rd w0 cs x\/R.rd w cs x
 own w cs x fp:=R.rd w0 cs x/\fp=[]\/R.own w cs x fp
 rd_len h:=by rcases h with h | h <;> exact R.rd_len h
 rd_one h:=by rcases h with h | h <;> exact R.rd_one h
 rd_ext h he:=h.imp id fun h=>R.rd_ext h he
 own_rd h:=h.imp (·.1) R.own_rd
 own_ext h he:=h.imp id fun h=>R.own_ext h he
 own_lt h:=by
  rcases h with h | h
  ·rw [h.2];simp
  ·exact R.own_lt h
theorem By {α:Type} {R:Rep α} {w w0:World} (hx:Ext w0 w):∀ {xs:List α} {ccs:List Value},rdL (wD w0 R) w ccs xs->rdL R w ccs xs
 | [],_,h=>h
 | x :: xs,_,h=>by
  obtain ⟨ec,rest,rfl,h1,h2⟩:=h
  refine ⟨ec,rest,rfl,?_,By hx h2⟩
  rcases h1 with h1 | h1
  ·exact R.rd_ext h1 hx
  ·exact h1
theorem Sat.unmix {α:Type} {R:Rep α} {w w0:World} {Γ:List Asn} {E:TypeId} {cs:List Value} {xs:List α} (hS:Sat w0 w Γ) (h:(aH (wD w0 R) E).rd w cs xs):(aH R E).rd w cs xs:=by
 obtain ⟨ao,cap,ccs,h1,h2,h3,h4,h5,h6⟩:=h
 exact ⟨ao,cap,ccs,h1,h2,h3,h4,By hS.below h5,h6⟩
theorem Sat.mixRo {α:Type} {R:Rep α} {w w0:World} {Γ:List Asn} {cs:List Value} {x:α} (hS:Sat w0 w Γ) (h:R.rd w0 cs x):Sat w0 w (Own (wD w0 R) cs x :: Γ):=hS.add (.inl ⟨h,rfl⟩)
theorem Sat.yH {α:Type} {R:Rep α} {w w0:World} {Γ:List Asn} {cs:List Value} {x:α} (hS:Sat w0 w (Own R cs x :: Γ)):Sat w0 w (Own (wD w0 R) cs x :: Γ):=hS.conv fun _ h=>.inr h
theorem tq {P:Program} {t:TypeId} {k:IntKind} (ht:P.underlying t=some (.int k)) {cs:Array Value} {off:Nat} {c:Value} (hc:cs[off]? = some c) (w:World):(part t cs off).run P w=.ok c w:=by
 have hagg:(isAgg t).run P w=.ok false w:=by
  unfold isAgg
  rw [dE,gb ht w]
  simp
 simp [part,dE,hagg,hc]
theorem JC {P:Program} {t:TypeId} {fs:Array Field} {f g:Field} {k1 k2:IntKind} (h1:P.underlying t=some (.struct fs)) (hfs:fs.toList=[f,g]) (n1:f.name≠ "_") (n2:g.name≠ "_") (o1:f.offset=0) (o2:g.offset=1) (t1:P.underlying f.type=some (.int k1)) (t2:P.underlying g.type=some (.int k2)) (hp:P.stoodInHeld t=false) (a b c d:Int) (w:World) :
  (Op.equalIn 10000 t (.agg #[.int .i64 a,.int .i64 b]) (.agg #[.int .i64 c,.int .i64 d])).run P w=.ok (a == c&&b == d) w:=by
 have hF:P.fieldsOf t=fs:=by unfold Program.fieldsOf;rw [h1]
 rw [run_equalIn_struct w 9999 t _ _ (by rw [hF];exact h1) hp,hF,hfs]
 unfold Op.eqFields
 rw [aX n1]
 simp only [dE,o1]
 rw [tq t1 (c:=.int .i64 a) rfl,d8,tq t1 (c:=.int .i64 c) rfl,d8,run_equalIn_int w 9998 f.type .i64 k1 a c t1,d8,q8]
 cases hac:(a == c) with
 | false=>rw [aX (by rfl),fG,jv]
 | true =>
  rw [a9 (by decide),cW]
  unfold Op.eqFields
  rw [aX n2]
  simp only [dE,o2]
  rw [tq t2 (c:=.int .i64 b) rfl,d8,tq t2 (c:=.int .i64 d) rfl,d8,run_equalIn_int w 9998 g.type .i64 k2 b d t2,d8,q8]
  unfold Op.eqFields
  cases hbd:(b == d) with
  | false=>rw [aX (by rfl),fG]
  | true=>rw [a9 (by decide),fG]
theorem ID {P:Program} {e:Env} {w:World} {ty:TypeId} {pos:String} {af:Array Edge} {o:Option Nat} {x y:Operand} {t u:TypeId} {fs:Array Field} {f g:Field} {k1 k2:IntKind} (h1:P.underlying t=some (.struct fs)) (hfs:fs.toList=[f,g]) (n1:f.name≠ "_") (n2:g.name≠ "_") (o1:f.offset=0) (o2:g.offset=1) (t1:P.underlying f.type=some (.int k1)) (t2:P.underlying g.type=some (.int k2)) (hp:P.stoodInHeld t=false) (hm:P.eqGuardType P.depth t=false) {a b c d:Int} (hx:ev e x=.agg #[.int .i64 a,.int .i64 b]) (hy:ev e y=.agg #[.int .i64 c,.int .i64 d]) :
  PV P ⟨o,.binOp .neq t x y u,ty,pos,af,none⟩ e w (.bool (!(a == c&&b == d))):=fun w' _=>by
 have g1:=run_eqGuard_agg (P:=P) w' .neq t x y #[.int .i64 a,.int .i64 b] #[.int .i64 c,.int .i64 d] hm
 have g2:=run_neq_struct (P:=P) w' t #[.int .i64 a,.int .i64 b] #[.int .i64 c,.int .i64 d]
 rw [JC h1 hfs n1 n2 o1 o2 t1 t2 hp] at g2
 unfold execOp
 simp only [hx,hy,dE,g1,g2,d8,fG]
theorem Sat.zW {α:Type} {R:Rep α} {w w0 W:World} {Γ:List Asn} {F:List Nat} {cs:List Value} {x:α} (hS:Sat w0 w (Frz W F :: Γ)) (ho:R.own W cs x F):Sat w0 w (Own R cs x :: Γ) :=
 hS.conv fun f h=>by
  obtain ⟨rfl,h2,_⟩:=h
  exact R.own_ext ho h2
class FreeR {α:Type} (R:Rep α):Prop where
 h:∀ {w w2:World} {cs:List Value} {x:α},R.rd w cs x->R.own w2 cs x []
instance:FreeR bX:=⟨fun h=>⟨h,rfl⟩⟩
instance {α β:Type} {R:Rep α} {S:Rep β} [hR:FreeR R] [hS:FreeR S]:FreeR (rN R S):=⟨fun h=>by
 obtain ⟨c1,c2,rfl,h1,h2⟩:=h
 exact ⟨c1,c2,[],[],rfl,rfl,hR.h h1,hS.h h2⟩⟩
theorem BA {α:Type} {R:Rep α} [hR:FreeR R] {w w2:World}:∀ {xs:List α} {ccs:List Value},rdL R w ccs xs->fW R w2 ccs xs []
 | [],_,h=>⟨h,rfl⟩
 | x :: xs,_,h=>by
  obtain ⟨ec,rest,rfl,h1,h2⟩:=h
  exact ⟨ec,rest,[],[],rfl,rfl,hR.h h1,BA h2⟩
theorem Be {α:Type} {R:Rep α} {w:World} {E:TypeId} {v:Value} {xs:List α} (h:(aH R E).rd w [v] xs):∃ ao c ccs,v=.slice ao xs.length c/\(ao=none->c=0)/\rT w ao ccs/\rdL R w ccs xs:=by
 obtain ⟨ao,cap,ccs,hv,h1,h2,h3,h4,h5⟩:=h
 exact ⟨ao,cap,ccs,by simpa using hv,h3,h5,h4⟩
theorem Sat.zZ {α:Type} {R:Rep α} [FreeR R] {w w0 w2:World} {Γ:List Asn} {ccs:List Value} {xs:List α} (hS:Sat w0 w Γ) (h:rdL R w2 ccs xs):Sat w0 w (tW R ccs xs :: Γ):=hS.add (BA h)
theorem Sat.yD {β:Type} {S:Rep β} {w w0 W:World} {F:List Nat} {Γ:List Asn} {cs:List Value} {y:β} (hS:Sat w0 w (Own S cs y :: Frz W F :: Γ)) :
  ∃ F' Fy,S.own w cs y Fy/\(∀ b∈Fy,b∈F')/\(∀ b∈F,b∈F')/\(∀ b∈F,w.heap[b]? = W.heap[b]?)/\Sat w0 w (Frz w F' :: Γ):=by
 have he:=hS.zX 1 rfl
 obtain ⟨Fy,ho,hS⟩:=hS.zU
 refine ⟨Fy++F,Fy,ho,fun b hb=>gV _ hb,fun b hb=>i7 _ hb,he,hS.yF ?_⟩
 rintro f g ⟨rfl,h1,h2⟩ ⟨rfl,h3,h4⟩
 refine ⟨f++g,.refl _,rfl,fun _ _=>rfl,fun b hb=>?_⟩
 rcases dj.1 hb with hb | hb
 ·exact h2 b hb
 ·have:=h3 b hb
  rw [nK (h4 b hb)] at this
  exact (j0.1 this).1
abbrev CP_:=Calls Tryz.prog
theorem kr {p:Prop} (h:p:=by kernel_rfl):p:=h
section
variable {P:Program} {n:Nat} {Q Q':Exit->Env->World->Prop} {K:Env->World->Prop} {e:Env} {w w0:World} {c y:Code} {ops:Array Oper} {rest:List Oper} {d:Nat} {v:Value} {q1:Oper} {C:World->Prop} {l:List Asn}
theorem aQ {X:List Nat} (v:Value) (i:Nat) {f:Nat} {L:Array Bool} (hi:ops[i]? = some q1) (hdst:q1.dst=some d) (yN:∀ w,C w↔∃ G,Sat w0 w (l++G)) (hC:C w) (hy:∀ {w':World} {G:List Asn},Sat w0 w' (l++G)->PV P q1 e w' v)
  (hK:AL P n ops X C K f (L.setIfInBounds i true) (upd e d v) w) (hg:q1.guard=none:=by exact rfl) (hsel:pU ops=true:=by kernel_rfl) (hdn:d<n:=by decide) (hf:sW ops X L i q1=true:=by kernel_rfl) (hr:(Region.ready .any ops L).contains i=true:=by kernel_rfl):AL P n ops X C K (f+1) L e w :=
 aP v i hi hdst hC (tB hg fun w' hw'=>by obtain ⟨_,S⟩:=(yN w').1 hw';exact hy S) hK hsel hdn hf hr
theorem oh {p B:Prop} {G:List Asn} (yN:∀ w,C w↔∃ G,Sat w0 w (l++G)) (S:Sat w0 w (l++G)) (k:C w->B):(p->C w)/\B:=⟨fun _=>(yN w).2 ⟨_,S⟩,k ((yN w).2 ⟨_,S⟩)⟩
theorem oc' {p B:Prop} (h:C w) (k:B):(p->C w)/\B:=⟨fun _=>h,k⟩
theorem zg (h:∀ {Q':Exit->Env->World->Prop},(∀ x e w,thn (fun e w=>CW P n y Q e w) Q x e w->Q' x e w)->CW P n c Q' e w):CW P n (.seq c y) Q e w:=sg fun _=>h
theorem zR {id:Nat} {l:List Oper} (h:∀ {Q':Exit->Env->World->Prop},(∀ x e w,thn (fun e w=>CW P n y Q e w) Q x e w->Q' x e w)->EL P n l.toArray (fun e w=>Q' .normal e w) l e w):CW P n (.seq (.region id l.toArray false) y) Q e w:=sR fun _=>h
theorem zn (h:∀ {Q':Exit->Env->World->Prop},(∀ x e w,Q x e w->Q' x e w)->CW P n c Q' e w):CW P n c Q e w:=gn fun _=>h
theorem zb {i:Nat} (h:∀ {Q':Exit->Env->World->Prop},(∀ x e w,inb i Q x e w->Q' x e w)->CW P n c Q' e w):CW P n (.block i c) Q e w:=bg fun _=>h
theorem zS (I:Nat->Env->World->Prop) (k0:Nat) (h0:I k0 e w) (hr:∀ k e w,I (k+1) e w->CW P n c (thn (fun e w=>I k e w) Q) e w) (hz:∀ e w,¬ I 0 e w:=by intro e w h;repeat (first | exact nn h | obtain ⟨_,h⟩:=h)):CW P n (.loop c) Q e w:=H3 I k0 h0 hz hr
theorem rgb {id:Nat} {O:List Oper} (w0:World) (l:List Asn) (k:Nat) (h:∀ C:World->Prop,(∀ w,C w↔∃ G,Sat w0 w (l++G))->∀ w',Ext w w'->AL P n O.toArray (List.range k) C (fun e w=>Q .normal e w) O.length (Array.replicate O.length false) e w') (hm:P.follows .mixedOrders=true:=by kernel_rfl):CW P n (.region id O.toArray true) Q e w:=JA (List.range k) _ hm fun w' hx=>h _ (fun _=>Iff.rfl) w' hx
end
abbrev R0_:=aH bX 3
abbrev R1_:=aH nv 9
abbrev R2_:=rN bX bX
abbrev R3_:=vL R0_ 28
abbrev R4_:=aH R0_ 28
abbrev R5_:=rN nv R0_
abbrev R6_:=aH R2_ 48
abbrev R7_:=rN bX R4_
abbrev R8_:=aH R5_ 64
abbrev R9_:=aH R6_ 44
abbrev n8:=aH R7_ 65
abbrev sC:=rN nv R7_
abbrev ck:=aH sC 145
end Go.Proofs.YteemghjjopdljaaGreat
