/- Plain laws: drawing queries out of a code. -/
import Derived.Test.YteemghjjopdljaaGreatV1
namespace Go.Proofs.YteemghjjopdljaaGreat
open Go.RowKit
abbrev oD:=Int × List bl × yP
def QGd (q:oD):Prop:=(1<=q.1/\q.1<=5)/\(1<=q.2.1.length/\q.2.1.length<=4)/\(∀ a∈q.2.1,a.1.size<=4/\1<=a.2.length/\a.2.length<=5)/\q.2.2.length<=5
def QSm (q:oD):Prop:=(0<=q.1/\q.1<=6)/\q.2.1.length<=5/\(∀ a∈q.2.1,a.1.size<=4/\a.2.length<=5)/\q.2.2.length<=6
theorem QGd.sm {q:oD} (h:QGd q):QSm q:=⟨⟨by have:=h.1;omega,by have:=h.1;omega⟩,by have:=h.2.1;omega,fun a ha=>⟨(h.2.2.1 a ha).1,(h.2.2.1 a ha).2.2⟩,by have:=h.2.2.2;omega⟩
theorem QSm.atoms {q:oD} (h:QSm q):c6 q.2.1:=⟨by have:=h.2.1;omega,fun a ha=>⟨by have:=(h.2.2.1 a ha).1;omega,by have:=(h.2.2.1 a ha).2;omega,fun _ _=>trivial⟩⟩
theorem QSm.out {q:oD} (h:QSm q):okI q.2.2:=⟨by have:=h.2.2.2;omega,fun _ _=>trivial⟩
abbrev IP:List bl:=[((⟨#[114]⟩:ByteArray),[0,1]),((⟨#[115]⟩:ByteArray),[1,2]),((⟨#[116]⟩:ByteArray),[2,3]),((⟨#[117]⟩:ByteArray),[3,4])]
def I0 (n:Int) (ats:List bl):Prop:=ats.length<=4/\(∀ a∈ats,1<=a.2.length/\∀ v∈a.2,0<=v/\v<n)/\∀ v:Int,0<=v->v<n->∃ a∈ats,v∈a.2
def QV (q:oD):Prop:=(∀ a∈q.2.1,∀ v∈a.2,v<q.1)/\(q.1<=4\/q.1=5/\q.2.1=IP)
def QB (q:oD):Prop:=I0 q.1 q.2.1->q.1<=5->q.1<=4\/q.1=5/\q.2.1=IP
theorem QV.b {q:oD} (h:QV q):QB q:=fun _ _=>h.2
theorem D1 {n:Int} {yK:List bl} {out:yP} (h:fD n yK out=true):∀ a∈yK,∀ v∈a.2,v<n:=by
 unfold fD at h
 simp only [b9,dQ] at h
 intro a ha v hv
 have:=h.1.2 a ha
 unfold nC at this
 rw [b9,b9,cA,dQ] at this
 have:=cA.1 (this.2 v hv)
 omega
section
variable {N:Nat}
abbrev Ht:List ByteArray:=[(⟨#[40,88,89,90,41,61,114,40,88,89,41,44,115,40,89,90,41,44,116,40,90,88,41]⟩:ByteArray),(⟨#[40,88,89,90,85,41,61,114,40,88,89,41,44,115,40,89,90,41,44,116,40,90,85,41,44,117,40,85,88,41]⟩:ByteArray),(⟨#[40,88,89,90,41,61,114,40,88,89,41,44,115,40,89,90,41]⟩:ByteArray),(⟨#[40,88,41,61,114,40,88,89,41,44,115,40,89,90,41,44,116,40,90,85,41]⟩:ByteArray),(⟨#[40,88,89,90,41,61,118,40,88,89,90,41,44,114,40,88,89,41]⟩:ByteArray),(⟨#[40,88,89,41,61,114,40,88,89,41,44,114,40,89,88,41]⟩:ByteArray),(⟨#[40,88,89,90,85,41,61,118,40,88,89,90,41,44,115,40,90,85,41,44,116,40,85,88,41]⟩:ByteArray),(⟨#[40,88,41,61,114,40,88,88,41]⟩:ByteArray),(⟨#[40,88,89,41,61,114,40,88,90,41,44,115,40,90,89,41,44,114,40,88,85,41,44,115,40,85,89,41]⟩:ByteArray),(⟨#[40,41,61,114,40,88,89,41,44,115,40,89,88,41]⟩:ByteArray),(⟨#[40,88,89,90,85,86,41,61,114,40,88,89,41,44,115,40,89,90,41,44,116,40,90,85,41,44,117,40,85,86,41]⟩:ByteArray)]
theorem Kj (M:Nat):dA (M+100) (⟨#[40,88,89,90,41,61,114,40,88,89,41,44,115,40,89,90,41,44,116,40,90,88,41]⟩:ByteArray)=some ((3,[((⟨#[114]⟩:ByteArray),[0,1]),((⟨#[115]⟩:ByteArray),[1,2]),((⟨#[116]⟩:ByteArray),[2,0])],[0,1,2]),true):=by kernel_rfl
theorem I3 (M:Nat):dA (M+100) (⟨#[40,88,89,90,85,41,61,114,40,88,89,41,44,115,40,89,90,41,44,116,40,90,85,41,44,117,40,85,88,41]⟩:ByteArray)=some ((4,[((⟨#[114]⟩:ByteArray),[0,1]),((⟨#[115]⟩:ByteArray),[1,2]),((⟨#[116]⟩:ByteArray),[2,3]),((⟨#[117]⟩:ByteArray),[3,0])],[0,1,2,3]),true):=by kernel_rfl
theorem Ks (M:Nat):dA (M+100) (⟨#[40,88,89,90,41,61,114,40,88,89,41,44,115,40,89,90,41]⟩:ByteArray)=some ((3,[((⟨#[114]⟩:ByteArray),[0,1]),((⟨#[115]⟩:ByteArray),[1,2])],[0,1,2]),true):=by kernel_rfl
theorem Jv (M:Nat):dA (M+100) (⟨#[40,88,41,61,114,40,88,89,41,44,115,40,89,90,41,44,116,40,90,85,41]⟩:ByteArray)=some ((4,[((⟨#[114]⟩:ByteArray),[0,1]),((⟨#[115]⟩:ByteArray),[1,2]),((⟨#[116]⟩:ByteArray),[2,3])],[0]),true):=by kernel_rfl
theorem Kq (M:Nat):dA (M+100) (⟨#[40,88,89,90,41,61,118,40,88,89,90,41,44,114,40,88,89,41]⟩:ByteArray)=some ((3,[((⟨#[118]⟩:ByteArray),[0,1,2]),((⟨#[114]⟩:ByteArray),[0,1])],[0,1,2]),true):=by kernel_rfl
theorem JI (M:Nat):dA (M+100) (⟨#[40,88,89,41,61,114,40,88,89,41,44,114,40,89,88,41]⟩:ByteArray)=some ((2,[((⟨#[114]⟩:ByteArray),[0,1]),((⟨#[114]⟩:ByteArray),[1,0])],[0,1]),true):=by kernel_rfl
theorem J6 (M:Nat):dA (M+100) (⟨#[40,88,89,90,85,41,61,118,40,88,89,90,41,44,115,40,90,85,41,44,116,40,85,88,41]⟩:ByteArray)=some ((4,[((⟨#[118]⟩:ByteArray),[0,1,2]),((⟨#[115]⟩:ByteArray),[2,3]),((⟨#[116]⟩:ByteArray),[3,0])],[0,1,2,3]),true):=by kernel_rfl
theorem Ka (M:Nat):dA (M+100) (⟨#[40,88,41,61,114,40,88,88,41]⟩:ByteArray)=some ((1,[((⟨#[114]⟩:ByteArray),[0,0])],[0]),true):=by kernel_rfl
theorem J1 (M:Nat):dA (M+100) (⟨#[40,88,89,41,61,114,40,88,90,41,44,115,40,90,89,41,44,114,40,88,85,41,44,115,40,85,89,41]⟩:ByteArray)=some ((4,[((⟨#[114]⟩:ByteArray),[0,2]),((⟨#[115]⟩:ByteArray),[2,1]),((⟨#[114]⟩:ByteArray),[0,3]),((⟨#[115]⟩:ByteArray),[3,1])],[0,1]),true):=by kernel_rfl
theorem Kr (M:Nat):dA (M+100) (⟨#[40,41,61,114,40,88,89,41,44,115,40,89,88,41]⟩:ByteArray)=some ((2,[((⟨#[114]⟩:ByteArray),[0,1]),((⟨#[115]⟩:ByteArray),[1,0])],[]),true):=by kernel_rfl
theorem Im (M:Nat):dA (M+100) (⟨#[40,88,89,90,85,86,41,61,114,40,88,89,41,44,115,40,89,90,41,44,116,40,90,85,41,44,117,40,85,86,41]⟩:ByteArray)=some ((5,[((⟨#[114]⟩:ByteArray),[0,1]),((⟨#[115]⟩:ByteArray),[1,2]),((⟨#[116]⟩:ByteArray),[2,3]),((⟨#[117]⟩:ByteArray),[3,4])],[0,1,2,3,4]),true):=by kernel_rfl
theorem Ew (hN:1073741824<=N):∀ s∈Ht,∃ q,dA N s=some (q,true)/\QGd q/\QV q:=by
 obtain ⟨M,rfl⟩:∃ M,N=M+100:=⟨N-100,oa⟩
 intro s hs
 simp only [cp,pq,sA] at hs
 rcases hs with rfl | rfl | rfl | rfl | rfl | rfl | rfl | rfl | rfl | rfl | rfl
 ·exact ⟨_,Kj M,by unfold QGd;decide,⟨by decide,Or.inl (by decide)⟩⟩
 ·exact ⟨_,I3 M,by unfold QGd;decide,⟨by decide,Or.inl (by decide)⟩⟩
 ·exact ⟨_,Ks M,by unfold QGd;decide,⟨by decide,Or.inl (by decide)⟩⟩
 ·exact ⟨_,Jv M,by unfold QGd;decide,⟨by decide,Or.inl (by decide)⟩⟩
 ·exact ⟨_,Kq M,by unfold QGd;decide,⟨by decide,Or.inl (by decide)⟩⟩
 ·exact ⟨_,JI M,by unfold QGd;decide,⟨by decide,Or.inl (by decide)⟩⟩
 ·exact ⟨_,J6 M,by unfold QGd;decide,⟨by decide,Or.inl (by decide)⟩⟩
 ·exact ⟨_,Ka M,by unfold QGd;decide,⟨by decide,Or.inl (by decide)⟩⟩
 ·exact ⟨_,J1 M,by unfold QGd;decide,⟨by decide,Or.inl (by decide)⟩⟩
 ·exact ⟨_,Kr M,by unfold QGd;decide,⟨by decide,Or.inl (by decide)⟩⟩
 ·exact ⟨_,Im M,by unfold QGd;decide,⟨by decide,Or.inr ⟨rfl,rfl⟩⟩⟩
theorem uD {a:yP} {l:List ByteArray} (ha:iy a) {p h:Int} (hc:dD a p) (hl:0<l.length):∃ x q g,mO N a p h l=some (x,q,g)/\x∈l/\dD a q:=by
 obtain ⟨x,q,g,e,b0,b1,_,hc'⟩:=dp (N:=N) ha (h:=h) (n:=(l.length:Int)) hc
 have b2:=b1 oa
 unfold mO
 rw [e,bs]
 dsimp only
 rw [nE b0 b2,bs]
 exact ⟨_,_,_,rfl,bC _,hc'⟩
theorem rK {a:yP} (ha:iy a) {p h n:Int} (hc:dD a p):∃ b q g,lz N a p h n=some (b,q,g)/\dD a q:=by
 obtain ⟨x,q,g,e,_,_,_,hc'⟩:=dp (N:=N) ha (h:=h) (n:=n) hc
 unfold lz
 rw [e,bs]
 exact ⟨_,_,_,rfl,hc'⟩
theorem FL {a:yP} (ha:iy a) {z1 z7 z9 n:Int} {z2 z5 z8:List bl} {z3 z6 z10:yP} {s:ByteArray}:∀ (d k:Nat) (acc:yP) (p h m:Int),dD a p->m.toNat=d->m<=10->d<k->acc.length+d<=100 ->
  ∃ q g vs m',kF N k a p h z1 z2 z3 z7 z5 z6 n z8 z10 z9 s acc m=some (q,g,vs,m')/\dD a q/\vs.length=acc.length+d:=by
 intro d
 induction d with
 | zero =>
  intro k acc p h m hc hd _ hk _
  obtain ⟨k,rfl⟩:∃ g,k=g+1:=⟨k-1,oa⟩
  rw [kF,bf (show ¬ 0<m by omega),ak]
  exact ⟨_,_,_,_,rfl,hc,oa⟩
 | succ d ih =>
  intro k acc p h m hc hd hm hk hl
  obtain ⟨k,rfl⟩:∃ g,k=g+1:=⟨k-1,oa⟩
  obtain ⟨x,q,g,e,_,_,_,hc'⟩:=dp (N:=N) ha (h:=h) (n:=n) hc
  rw [kF,ba (show 0<m by omega),ah,e,bs]
  dsimp only
  rw [bt (by decide) (by simp;omega),bs,dO oa oa,bs]
  obtain ⟨q',g',vs,m',e',k1,k2⟩:=ih k (acc++[x]) q g (m-1) hc' oa oa oa (by simp;omega)
  exact ⟨q',g',vs,m',e',k1,by simp at k2;omega⟩
theorem Gd (hN:1073741824<=N) {a:yP} (ha:iy a) {z1 z4 n:Int} {z2 z5:List bl} {z3 z6 z7:yP}:∀ (d k:Nat) (acc:List bl) (p h m:Int),dD a p->m.toNat=d->m<=10->d<k->acc.length+d<=100->(∀ x∈acc,x.1.size<=4/\1<=x.2.length/\x.2.length<=5) ->
  ∃ q g ats m',kH N k a p h z1 z2 z3 z4 z5 z6 n acc z7 m=some (q,g,ats,m')/\dD a q/\ats.length=acc.length+d/\∀ x∈ats,x.1.size<=4/\1<=x.2.length/\x.2.length<=5:=by
 intro d
 induction d with
 | zero =>
  intro k acc p h m hc hd _ hk _ hx
  obtain ⟨k,rfl⟩:∃ g,k=g+1:=⟨k-1,oa⟩
  rw [kH,bf (show ¬ 0<m by omega),ak]
  exact ⟨_,_,_,_,rfl,hc,oa,hx⟩
 | succ d ih =>
  intro k acc p h m hc hd hm hk hl hx
  obtain ⟨k,rfl⟩:∃ g,k=g+1:=⟨k-1,oa⟩
  obtain ⟨x,q,g,e,b0,b1,_,hc'⟩:=dp (N:=N) ha (h:=h) (n:=5) hc
  have b1:=b1 (by decide)
  rw [kH,ba (show 0<m by omega),ah,e,bs]
  dsimp only
  have hi:x<(([(⟨#[114]⟩:ByteArray),(⟨#[115]⟩:ByteArray),(⟨#[116]⟩:ByteArray),(⟨#[117]⟩:ByteArray),(⟨#[118]⟩:ByteArray)]:List ByteArray).length:Int):=b1
  rw [nE b0 hi,bs,IZ b0 (by decide) oa,bs]
  have ht:0<=x.tdiv 4/\x.tdiv 4<=1:=by
   rw [Int.tdiv_eq_ediv_of_nonneg b0];omega
  rw [cO oa oa,bs]
  have hs:∀ s∈([(⟨#[114]⟩:ByteArray),(⟨#[115]⟩:ByteArray),(⟨#[116]⟩:ByteArray),(⟨#[117]⟩:ByteArray),(⟨#[118]⟩:ByteArray)]:List ByteArray),s.size<=4:=by decide
  have hs':=hs _ (bC (l:=([(⟨#[114]⟩:ByteArray),(⟨#[115]⟩:ByteArray),(⟨#[116]⟩:ByteArray),(⟨#[117]⟩:ByteArray),(⟨#[118]⟩:ByteArray)]:List ByteArray)) (n:=x.toNat) oa)
  obtain ⟨q',g',vs,m',e',k1,k2⟩:=FL (N:=N) ha (z1:=z1) (z2:=z2) (z3:=z3) (z7:=z4) (z5:=z5) (z6:=z6) (n:=n) (z8:=acc) (z10:=z7) (z9:=m) (s:=([(⟨#[114]⟩:ByteArray),(⟨#[115]⟩:ByteArray),(⟨#[116]⟩:ByteArray),(⟨#[117]⟩:ByteArray),(⟨#[118]⟩:ByteArray)]:List ByteArray)[x.toNat]) (2+x.tdiv 4).toNat N [] q g (2+x.tdiv 4) hc' rfl oa oa (by simp;omega)
  rw [e',bs]
  unfold lpB
  dsimp only
  rw [bt (by decide) (by simp;omega),bs,dO oa oa,bs]
  simp only [fN,fh] at k2
  obtain ⟨q2,g2,ats,m2,e2,j1,j2,j3⟩:=ih k (acc++[(_,vs)]) q' g' (m-1) k1 oa oa oa (by simp;omega) (fun y hy=>by
   rcases dl.1 hy with h | h
   ·exact hx y h
   ·rw [fu] at h;rw [h]
    exact ⟨hs',by show 1<=vs.length;omega,by show vs.length<=5;omega⟩)
  exact ⟨q2,g2,ats,m2,e2,j1,by simp at j2;omega,j3⟩
theorem FN {a:yP} (ha:iy a) {z1 z4:Int} {n:Nat} {z2 z5 z8:List bl} {z3 z6:yP} (hn:n<=10):∀ (d k:Nat) (acc:yP) (p h:Int) (i:Nat),dD a p->i+d=n->d<k->acc.length<=i ->
  ∃ q g out v,iR N k a p h z1 z2 z3 z4 z5 z6 (n:Int) z8 acc (i:Int)=some (q,g,out,v)/\dD a q/\out.length<=n:=by
 intro d
 induction d with
 | zero =>
  intro k acc p h i hc hd hk hl
  obtain ⟨k,rfl⟩:∃ g,k=g+1:=⟨k-1,oa⟩
  rw [iR,bf (show ¬ (i:Int)<(n:Int) by omega),ak]
  exact ⟨_,_,_,_,rfl,hc,oa⟩
 | succ d ih =>
  intro k acc p h i hc hd hk hl
  obtain ⟨k,rfl⟩:∃ g,k=g+1:=⟨k-1,oa⟩
  obtain ⟨b,q,g,e,hc'⟩:=rK (N:=N) ha (h:=h) (n:=2) hc
  rw [iR,ba (show (i:Int)<(n:Int) by omega),ah,e,bs]
  dsimp only
  cases b with
  | true =>
   rw [ah,bt (by decide) (by simp;omega),bs,ad1 oa,bs]
   exact ih k _ q g (i+1) hc' oa oa (by simp;omega)
  | false =>
   rw [ak,ad1 oa,bs]
   exact ih k _ q g (i+1) hc' oa oa oa
theorem wV (hN:1073741824<=N) {a:yP} (ha:iy a) {p h:Int} (hc:dD a p):∃ r q g,ni N a p h=some (r,q,g)/\dD a q/\QGd r/\QV r:=by
 unfold ni
 obtain ⟨s,q,g,e,hs,hc1⟩:=uD (N:=N) ha (h:=h) (l:=Ht) hc (by decide)
 obtain ⟨r,er,hr⟩:=Ew hN s hs
 rw [e,bs]
 dsimp only
 rw [er,bs]
 obtain ⟨b,q2,g2,e2,hc2⟩:=rK (N:=N) ha (h:=g) (n:=3) hc1
 rw [e2,bs]
 dsimp only
 cases b with
 | false=>rw [ak];exact ⟨_,_,_,rfl,hc2,hr⟩
 | true =>
  obtain ⟨x,q3,g3,e3,b0,b1,_,hc3⟩:=dp (N:=N) ha (h:=g2) (n:=4) hc2
  have b1:=b1 (by decide)
  rw [ah,e3,bs]
  dsimp only
  obtain ⟨y,q4,g4,e4,c0,c1,_,hc4⟩:=dp (N:=N) ha (h:=g3) (n:=4) hc3
  have c1:=c1 (by decide)
  rw [cO oa oa,bs,e4,bs]
  dsimp only
  rw [cO oa oa,bs]
  obtain ⟨q5,g5,ats,m5,e5,hc5,l5,a5⟩:=Gd hN ha (z1:=0) (z2:=[]) (z3:=[]) (z4:=r.1) (z5:=r.2.1) (z6:=r.2.2) (n:=1+x) (z7:=[]) (1+y).toNat N [] q4 g4 (1+y) hc4 rfl oa oa (by simp;omega) (by simp)
  rw [e5,bs]
  unfold lpB
  dsimp only
  have hx:((x.toNat+1:Nat):Int)=1+x:=by omega
  obtain ⟨q6,g6,out,v6,e6,hc6,l6⟩:=FN (N:=N) ha (z1:=0) (z2:=[]) (z3:=[]) (z4:=r.1) (z5:=r.2.1) (z6:=r.2.2) (n:=x.toNat+1) (z8:=ats) oa (x.toNat+1) N [] q5 g5 0 hc5 oa oa (by simp)
  rw [hx] at e6
  have e6':iR N N a q5 g5 0 [] [] r.1 r.2.1 r.2.2 (1+x) ats [] 0=some (q6,g6,out,v6):=e6
  simp only [fN,fh] at l5
  have hq:QGd (1+x,ats,out):=⟨⟨by show 1<=1+x;omega,by show 1+x<=5;omega⟩,⟨by show 1<=ats.length;omega,by show ats.length<=4;omega⟩,a5,by show out.length<=5;omega⟩
  rw [e6',bs]
  dsimp only
  rw [jH hN (QSm.atoms hq.sm) (QSm.out hq.sm),bs]
  cases hqo:fD (1+x) ats out with
  | true=>rw [ah];exact ⟨_,_,_,rfl,hc6,hq,D1 hqo,Or.inl (by show 1+x<=4;omega)⟩
  | false=>rw [ak];exact ⟨_,_,_,rfl,hc6,hr⟩
theorem EE (hN:1073741824<=N) {a:yP} (ha:iy a) {p h:Int} (hc:dD a p):∃ r q g,qV N a p h=some (r,q,g)/\dD a q/\QSm r/\QB r:=by
 obtain ⟨⟨n,ats,out⟩,q,g,e,hc1,hr,hv⟩:=wV hN ha (h:=h) hc
 obtain ⟨hv1,hv2⟩:=hv
 dsimp only at hv1 hv2
 obtain ⟨x,q2,g2,e2,_,_,_,hc2⟩:=dp (N:=N) ha (h:=g) (n:=14) hc1
 unfold qV
 rw [e,bs]
 dsimp only
 rw [e2,bs]
 dsimp only
 have hn:=hr.1;have ha1:=hr.2.1;have ha2:=hr.2.2.1;have ho:=hr.2.2.2
 dsimp only at hn ha1 ha2 ho
 have hsm:=hr.sm
 cases h0:(x == 0) with
 | true =>
  rw [ah,cO oa oa,bs]
  obtain ⟨y,q3,g3,e3,hy,hc3⟩:=lG (N:=N) ha (h:=g2) (l:=[0,6,n+1]) hc2 (Nat.zero_lt_succ _)
  rw [e3,bs]
  simp only [cp,pq,sA] at hy
  refine ⟨_,_,_,rfl,hc3,⟨?_,hsm.2⟩,fun hg hy5=>?_⟩
  ·show 0<=y/\y<=6
   omega
  ·dsimp only at hg hy5 ⊢
   by_cases h4:y<=4
   ·exact Or.inl h4
   ·obtain ⟨b,hb1,hb2⟩:=hg.2.2 (y-1) oa oa
    have:=hv1 b hb1 _ hb2
    omega
 | false =>
 rw [ak]
 cases h1:(x == 1) with
 | true =>
  rw [ah]
  obtain ⟨y,q3,g3,e3,hy,hc3⟩:=uD (N:=N) ha (h:=g2) (l:=[ByteArray.empty,(⟨#[119]⟩:ByteArray),(⟨#[114]⟩:ByteArray)]) hc2 (by decide)
  have hys:∀ s∈[ByteArray.empty,(⟨#[119]⟩:ByteArray),(⟨#[114]⟩:ByteArray)],s.size<=4:=by decide
  rw [e3,bs,bt (by decide) (by simp;omega),bs]
  refine ⟨_,_,_,rfl,hc3,⟨hsm.1,by show (ats++[_]).length<=5;simp;omega,fun b hb=>?_,hsm.2.2.2⟩,fun hg hy5=>by
   dsimp only at hg hy5 ⊢
   rcases hv2 with h4 | ⟨h5,h6⟩
   ·exact Or.inl h4
   ·have:=hg.1
    rw [h6] at this
    simp at this⟩
  rcases dl.1 hb with h | h
  ·exact hsm.2.2.1 b h
  ·rw [fu] at h;rw [h];exact ⟨hys y hy,by show ([0]:yP).length<=5;decide⟩
 | false =>
 rw [ak]
 cases h2:(x == 2) with
 | true =>
  rw [ah]
  obtain ⟨y,q3,g3,e3,b0,b1,_,hc3⟩:=dp (N:=N) ha (h:=g2) (n:=6) hc2
  have b1:=b1 (by decide)
  rw [e3,bs]
  dsimp only
  rw [dO oa oa,bs,bt (by decide) (by simp;omega),bs]
  exact ⟨_,_,_,rfl,hc3,⟨hsm.1,hsm.2.1,hsm.2.2.1,by show (out++[_]).length<=6;simp;omega⟩,fun _ _=>hv2⟩
 | false =>
 rw [ak]
 have hl:0<ats.length:=by omega
 have i0:ix ats 0=some ats[0]:=bc hl
 have hm0:=ha2 _ (bC hl)
 cases h3:(x == 3) with
 | true =>
  have s0:sto ats 0 (ats[0].1,[])=some (ats.set 0 (ats[0].1,[])):=mu hl
  rw [ah,i0,bs,s0,bs]
  refine ⟨_,_,_,rfl,hc2,⟨hsm.1,by show (ats.set 0 _).length<=5;rw [gF];omega,fun b hb=>?_,hsm.2.2.2⟩,fun hg _=>by
   have:=(hg.2.1 _ (List.mem_set hl (ats[0].1,([]:yP)))).1
   exact absurd (show 1<=([]:yP).length from this) (by decide)⟩
  rcases tR hb with h | h
  ·exact hsm.2.2.1 b h
  ·rw [h];exact ⟨hm0.1,dB _⟩
 | false =>
 rw [ak]
 cases h4:(x == 4) with
 | true =>
  obtain ⟨y,q3,g3,e3,hy,hc3⟩:=lG (N:=N) ha (h:=g2) (l:=[(-1),5]) hc2 (by decide)
  have hl1:0<ats[0].2.length:=by omega
  have i1:ix ats[0].2 0=some ats[0].2[0]:=bc hl1
  have s1:sto ats[0].2 0 y=some (ats[0].2.set 0 y):=mu hl1
  have s0:sto ats 0 (ats[0].1,ats[0].2.set 0 y)=some (ats.set 0 (ats[0].1,ats[0].2.set 0 y)):=mu hl
  rw [ah,i0,bs,e3,bs,i1,bs,s1,bs,s0,bs]
  refine ⟨_,_,_,rfl,hc3,⟨hsm.1,by show (ats.set 0 _).length<=5;rw [gF];omega,fun b hb=>?_,hsm.2.2.2⟩,fun hg hy5=>by
   dsimp only at hg hy5 ⊢
   have:=(hg.2.1 _ (List.mem_set hl (ats[0].1,ats[0].2.set 0 y))).2 y (List.mem_set hl1 y)
   simp only [cp,pq,sA] at hy
   omega⟩
  rcases tR hb with h | h
  ·exact hsm.2.2.1 b h
  ·rw [h];exact ⟨hm0.1,by show (ats[0].2.set 0 y).length<=5;rw [gF];exact hm0.2.2⟩
 | false =>
 rw [ak]
 exact ⟨_,_,_,rfl,hc2,hsm,fun _ _=>hv2⟩
end
def TSm (t:bA):Prop:=t.1.size<=5/\t.2.2.length<=10/\∀ r∈t.2.2,r.length<=6
def DSm (ts:List bA):Prop:=ts.length<=6/\∀ t∈ts,TSm t
def TSv (t:bA):Prop:=t.2.2.length<=7\/∀ r∈t.2.2,∀ v∈r,0<=v/\v<6
def TSb (t:bA):Prop:=TSm t/\TSv t
def DSv (ts:List bA):Prop:=∀ t∈ts,TSv t
theorem DSm.ok {ts:List bA} (h:DSm ts):nO ts:=⟨by have:=h.1;omega,fun t ht=>by
 obtain ⟨h1,h2,h3⟩:=h.2 t ht
 exact ⟨oa,oa,fun r hr=>⟨by have:=h3 r hr;omega,fun _ _=>trivial⟩⟩⟩
theorem In:∀ (n:Nat) (l:yP),l.length<n->∃ v:Nat,v<n/\(v:Int)∉l:=by
 intro n
 induction n with
 | zero=>intro l h;omega
 | succ n ih =>
  intro l h
  by_cases hm:(n:Int)∈l
  ·have hl:=xl hm
   have hp:=xu hm
   obtain ⟨v,h1,h2⟩:=ih (l.erase (n:Int)) oa
   exact ⟨v,oa,fun hv=>h2 ((AY oa).2 hv)⟩
  ·exact ⟨n,oa,hm⟩
section
variable {N:Nat}
abbrev qX:List ByteArray:=[(⟨#[114]⟩:ByteArray),(⟨#[115]⟩:ByteArray),(⟨#[116]⟩:ByteArray),(⟨#[117]⟩:ByteArray),(⟨#[118]⟩:ByteArray)]
theorem Gn {n m y:Int} {rows:be} {s:ByteArray} (hm:m<=6) (hs:s.size<=5) (hn:n<=5) (hy:y<=10) (hl:(rows.length:Int)<=y) (hr:∀ r∈rows,(r.length:Int)=n/\∀ v∈r,0<=v/\v<m):TSb (s,(n,rows)) :=
 ⟨⟨hs,by show rows.length<=10;omega,fun r h=>by have:=(hr r h).1;omega⟩,Or.inr fun r h v hv=>by have:=(hr r h).2 v hv;omega⟩
theorem K8 (hM:1073742848<=N) {a:yP} (ha:iy a) {z:List bA} {m:Int} (hm:0<m/\m<=6):∀ (d k:Nat) (acc:List bA) (p h:Int) (i:Nat),dD a p->i+d=5->d<k->acc.length=i->(∀ t∈acc,TSb t) ->
  ∃ q g ts v,kA N k a p h z m acc qX (qX.length:Int) (i:Int)=some (q,g,ts,v)/\dD a q/\ts.length=5/\∀ t∈ts,TSb t:=by
 intro d
 induction d with
 | zero =>
  intro k acc p h i hc hd hk hl ht
  obtain ⟨k,rfl⟩:∃ g,k=g+1:=⟨k-1,oa⟩
  rw [kA,bf (show ¬ (i:Int)<(qX.length:Int) by show ¬ (i:Int)<5;omega),ak]
  exact ⟨_,_,_,_,rfl,hc,oa,ht⟩
 | succ d ih =>
  intro k acc p h i hc hd hk hl ht
  obtain ⟨k,rfl⟩:∃ g,k=g+1:=⟨k-1,oa⟩
  have hi:i<qX.length:=by show i<5;omega
  have hs:∀ s∈qX,s.size<=5:=by decide
  have hs':=hs _ (bC hi)
  rw [kA,ba (show (i:Int)<(qX.length:Int) by omega),ah,bc hi,bs]
  obtain ⟨y,q,g,e,hy,hc1⟩:=lG (N:=N) ha (h:=h) (l:=[3,6,9]) hc (by decide)
  have hyb:0<=y/\y<=10:=by
   simp only [cp,pq,sA] at hy
   omega
  cases eqS qX[i] (⟨#[118]⟩:ByteArray) with
  | true =>
   obtain ⟨rows,q2,g2,e2,hc2,r1,r2⟩:=wK hM ha (h:=g) (n:=3) (m:=m) (y:=y) hc1 ⟨hm.1,oa⟩ (by decide) oa
   rw [ah,e,bs]
   dsimp only
   rw [e2,bs]
   dsimp only
   rw [bt (by decide) (by simp;omega),bs,ad1 oa,bs]
   refine ih k _ q2 g2 (i+1) hc2 oa oa (by simp;omega) fun t h=>?_
   rcases dl.1 h with h | h
   ·exact ht t h
   ·rw [fu] at h;rw [h];exact Gn hm.2 hs' (by decide) hyb.2 r1 r2
  | false =>
   obtain ⟨rows,q2,g2,e2,hc2,r1,r2⟩:=wK hM ha (h:=g) (n:=2) (m:=m) (y:=y) hc1 ⟨hm.1,oa⟩ (by decide) oa
   rw [ak,e,bs]
   dsimp only
   rw [e2,bs]
   dsimp only
   rw [bt (by decide) (by simp;omega),bs,ad1 oa,bs]
   refine ih k _ q2 g2 (i+1) hc2 oa oa (by simp;omega) fun t h=>?_
   rcases dl.1 h with h | h
   ·exact ht t h
   ·rw [fu] at h;rw [h];exact Gn hm.2 hs' (by decide) hyb.2 r1 r2
theorem B1 {ts:List bA} {i:Nat} {t:bA} (h:∀ t∈ts,TSb t) (ht:TSb t):∀ u∈ts.set i t,TSb u:=fun u hu=>by
 rcases tR hu with h' | h'
 ·exact h u h'
 ·rw [h'];exact ht
theorem uR {α:Type} {xs:List α} {i:Int} {y:α} (h0:0<=i) (h:i<xs.length):sto xs i y=some (xs.set i.toNat y):=by
 obtain ⟨k,rfl⟩:=pD h0
 exact mu oa
theorem Cj (hM:1073742848<=N) {a:yP} (ha:iy a) {p h:Int} (hc:dD a p):∃ ts q g,qd N a p h=some (ts,q,g)/\dD a q/\ts.length=5/\∀ t∈ts,TSb t:=by
 unfold qd
 obtain ⟨m,q,g,e,hm,hc1⟩:=lG (N:=N) ha (h:=h) (l:=[2,3,4,6]) hc (by decide)
 have hmb:0<m/\m<=6:=by
  simp only [cp,pq,sA] at hm
  omega
 rw [e,bs]
 dsimp only
 obtain ⟨q2,g2,ts,v,e2,hc2,hl,ht⟩:=K8 hM ha (z:=[]) hmb 5 N [] q g 0 hc1 rfl oa rfl (by simp)
 have e2':kA N N a q g [] m [] qX (qX.length:Int) 0=some (q2,g2,ts,v):=e2
 rw [e2',bs]
 unfold lpB
 dsimp only
 obtain ⟨b,q3,g3,e3,hc3⟩:=rK (N:=N) ha (h:=g2) (n:=8) hc2
 rw [e3,bs]
 dsimp only
 cases b with
 | false=>rw [ak];exact ⟨_,_,_,rfl,hc3,hl,ht⟩
 | true =>
  obtain ⟨x,q4,g4,e4,b0,b1,_,hc4⟩:=dp (N:=N) ha (h:=g3) (n:=5) hc3
  have b1:=b1 (by decide)
  have hx:x<(ts.length:Int):=by omega
  have hm:=ht _ (bC (show x.toNat<ts.length by omega))
  rw [ah,e4,bs]
  dsimp only
  rw [nE b0 hx,bs,uR b0 hx,bs]
  exact ⟨_,_,_,rfl,hc4,by rw [gF];exact hl,B1 ht ⟨⟨hm.1.1,dB _,fun r hr=>by cases hr⟩,Or.inl (dB _)⟩⟩
theorem CV.t {r:Int × be} {s:ByteArray} (hs:s.size<=5) (k:CV r):TSb (s,r):=⟨⟨hs,by show r.2.length<=10;have:=k.2.1;omega,fun w hw=>(k.2.2 w hw).1⟩,Or.inl k.2.1⟩
theorem DSb {ts:List bA} (h:ts.length<=6/\∀ t∈ts,TSb t):DSm ts/\DSv ts:=⟨⟨h.1,fun t ht=>(h.2 t ht).1⟩,fun t ht=>(h.2 t ht).2⟩
theorem Ep (hM:1073742848<=N) {a:yP} (ha:iy a) {p h:Int} (hc:dD a p):∃ ts q g,qI N a p h=some (ts,q,g)/\dD a q/\ts.length<=6/\∀ t∈ts,TSb t:=by
 have hN:1073741824<=N:=by omega
 obtain ⟨ts,q,g,e,hc1,hl,ht⟩:=Cj hM ha (h:=h) hc
 obtain ⟨x,q2,g2,e2,b0,b1,_,hc2⟩:=dp (N:=N) ha (h:=g) (n:=5) hc1
 have b1:=b1 (by decide)
 obtain ⟨y,q3,g3,e3,_,_,_,hc3⟩:=dp (N:=N) ha (h:=g2) (n:=14) hc2
 have hx:x<(ts.length:Int):=by omega
 have hm:=ht _ (bC (show x.toNat<ts.length by omega))
 unfold qI
 rw [e,bs]
 dsimp only
 rw [e2,bs]
 dsimp only
 rw [e3,bs]
 dsimp only
 cases h0:(y == 0) with
 | true =>
  obtain ⟨s,q4,g4,e4,hs,hc4⟩:=uD (N:=N) ha (h:=g3) (l:=[ByteArray.empty,(⟨#[82]⟩:ByteArray),(⟨#[97,98,99,100,101]⟩:ByteArray),(⟨#[97]⟩:ByteArray),(⟨#[122]⟩:ByteArray)]) hc3 (by decide)
  have hss:∀ s∈[ByteArray.empty,(⟨#[82]⟩:ByteArray),(⟨#[97,98,99,100,101]⟩:ByteArray),(⟨#[97]⟩:ByteArray),(⟨#[122]⟩:ByteArray)],s.size<=5:=by decide
  rw [ah,e4,bs,nE b0 hx,bs,uR b0 hx,bs]
  exact ⟨_,_,_,rfl,hc4,by rw [gF];omega,B1 ht ⟨⟨hss s hs,hm.1.2⟩,hm.2⟩⟩
 | false =>
 rw [ak]
 cases h1:(y == 1) with
 | true =>
  obtain ⟨r,q4,g4,e4,hc4,hr⟩:=FO hM ha (h:=g3) hc3
  rw [ah,e4,bs,nE b0 hx,bs,uR b0 hx,bs]
  exact ⟨_,_,_,rfl,hc4,by rw [gF];omega,B1 ht (hr.t hm.1.1)⟩
 | false =>
 rw [ak]
 cases h2:(y == 2) with
 | true =>
  rw [ah,nE b0 hx,bs,bt (by decide) (by simp;omega),bs]
  refine ⟨_,_,_,rfl,hc3,by simp;omega,fun t h=>?_⟩
  rcases dl.1 h with h | h
  ·exact ht t h
  ·rw [fu] at h;rw [h];exact hm
 | false =>
 rw [ak]
 cases h3:(y == 3) with
 | true =>
  have es:slc ts 0 x=some ((ts.take x.toNat).drop 0):=by
   have:=lm (xs:=ts) (lo:=0) (hi:=x.toNat) oa oa
   rwa [show ((x.toNat:Nat):Int)=x by omega] at this
  rw [ah,es,bs]
  refine ⟨_,_,_,rfl,hc3,by rw [gD,cq];omega,fun t h=>ht t (sx (by simpa using h))⟩
 | false =>
 rw [ak]
 exact ⟨_,_,_,rfl,hc3,oa,ht⟩
theorem C3 (hM:1073742848<=N) {a:yP} (ha:iy a) {p h:Int} (hc:dD a p):∃ ts r q g,pK N a p h=some (ts,r,q,g)/\dD a q/\(DSm ts/\DSv ts)/\QSm r/\QB r:=by
 have hN:1073741824<=N:=by omega
 obtain ⟨ts,q,g,e,hc1,hl,ht⟩:=Cj hM ha (h:=h) hc
 obtain ⟨r,q2,g2,e2,hc2,hr,hv⟩:=wV hN ha (h:=g) hc1
 obtain ⟨y,q3,g3,e3,_,_,_,hc3⟩:=dp (N:=N) ha (h:=g2) (n:=24) hc2
 unfold pK
 rw [e,bs]
 dsimp only
 rw [e2,bs]
 dsimp only
 rw [e3,bs]
 dsimp only
 cases h0:(y == 0) with
 | true =>
  obtain ⟨ts2,q4,g4,e4,hc4,ht4⟩:=Ep hM ha (h:=g3) hc3
  rw [ah,e4,bs]
  exact ⟨_,_,_,_,rfl,hc4,DSb ht4,hr.sm,hv.b⟩
 | false =>
 rw [ak]
 cases h1:(y == 1) with
 | true =>
  obtain ⟨r2,q4,g4,e4,hc4,hr4⟩:=EE hN ha (h:=g3) hc3
  rw [ah,e4,bs]
  exact ⟨_,_,_,_,rfl,hc4,DSb ⟨oa,ht⟩,hr4⟩
 | false =>
 rw [ak]
 exact ⟨_,_,_,_,rfl,hc3,DSb ⟨oa,ht⟩,hr.sm,hv.b⟩
theorem FS (hN:1073741824<=N) {a acc:yP} {p h:Int} {n v:Nat} (hn:n<=5) (hacc:acc.length<=5) (hv:v<n) (hf:(v:Int)∉acc):∀ (d k r:Nat),r<n->(r+d=v\/r+d=v+n)->d<=n->d<k->∃ x:Int,jy N k a p h (n:Int) acc (r:Int)=some x/\0<=x/\x<n:=by
 intro d
 induction d with
 | zero =>
  intro k r hr hd _ hk
  obtain ⟨k,rfl⟩:∃ g,k=g+1:=⟨k-1,oa⟩
  have:r=v:=by omega
  subst this
  have hneg:¬ 0<=e8 acc (r:Int):=fun h=>hf (vS.1 h)
  rw [jy,nI hN oa,bs,bf hneg,ak]
  exact ⟨_,rfl,oa,oa⟩
 | succ d ih =>
  intro k r hr hd hdn hk
  obtain ⟨k,rfl⟩:∃ g,k=g+1:=⟨k-1,oa⟩
  rw [jy,nI hN oa,bs]
  by_cases hq:0<=e8 acc (r:Int)
  ·rw [ba hq,ah,ad1 oa,bs,rC oa,bs]
   by_cases hw:r+1=n
   ·have e:(((r+1:Nat):Int)).tmod (n:Int)=((0:Nat):Int):=by rw [hw,Int.tmod_self];rfl
    rw [e]
    exact ih k 0 oa oa oa oa
   ·have e:(((r+1:Nat):Int)).tmod (n:Int)=((r+1:Nat):Int):=Int.tmod_eq_of_lt oa oa
    rw [e]
    exact ih k (r+1) oa oa oa oa
  ·rw [bf hq,ak]
   exact ⟨_,rfl,oa,oa⟩
theorem F7 (hN:1073741824<=N) {a:yP} (ha:iy a) {n:Nat} (hn:n<=5):∀ (d k:Nat) (acc:yP) (p h:Int),dD a p->acc.length+d=n->d<k->(∀ v∈acc,0<=v/\v<n) ->
  ∃ q g out,kD N k a p h (n:Int) acc=some (q,g,out)/\dD a q/\out.length=n/\∀ v∈out,0<=v/\v<n:=by
 intro d
 induction d with
 | zero =>
  intro k acc p h hc hd hk hv
  obtain ⟨k,rfl⟩:∃ g,k=g+1:=⟨k-1,oa⟩
  rw [kD,bf oa,ak]
  exact ⟨_,_,_,rfl,hc,oa,hv⟩
 | succ d ih =>
  intro k acc p h hc hd hk hv
  obtain ⟨k,rfl⟩:∃ g,k=g+1:=⟨k-1,oa⟩
  obtain ⟨x,q,g,e,b0,b1,_,hc1⟩:=dp (N:=N) ha (h:=h) (n:=(n:Int)) hc
  have b1:=b1 oa
  obtain ⟨v,hv1,hv2⟩:=In n acc oa
  obtain ⟨r,rfl⟩:=pD b0
  obtain ⟨y,e2,y0,y1⟩:=FS hN (a:=a) (p:=q) (h:=g) hn oa hv1 hv2 (if r<=v then v-r else v+n-r) N r oa (by split <;> omega) (by split <;> omega) (by split <;> omega)
  rw [kD,ba oa,ah,e,bs]
  dsimp only
  have e2':jy N N a q g (n:Int) acc ((r:Nat):Int)=some y:=e2
  rw [e2',bs]
  unfold lpB
  dsimp only
  rw [bt (by decide) (by simp;omega),bs]
  refine ih k _ q g hc1 (by simp;omega) oa fun w hw=>?_
  rcases dl.1 hw with h | h
  ·exact hv w h
  ·rw [fu] at h;rw [h];exact ⟨y0,y1⟩
theorem DY (hN:1073741824<=N) {a:yP} (ha:iy a) {p h:Int} {n:Nat} (hn:n<=5) (hc:dD a p):∃ out q g,oS N a p h (n:Int)=some (out,q,g)/\dD a q/\out.length=n:=by
 obtain ⟨q,g,out,e,h1,h2,_⟩:=F7 hN ha hn n N [] p h hc (by simp) oa (by simp)
 unfold oS
 rw [e,bs]
 exact ⟨_,_,_,rfl,h1,h2⟩
theorem CR (hN:1073741824<=N) {a:yP} (ha:iy a) {p h n:Int} {ats:List bl} {o:yP} (hc:dD a p):∃ out q g,n6 N a p h n ats o=some (out,q,g)/\dD a q/\out.length<=5:=by
 unfold n6
 have hi:∃ m:Nat,imx 0 (imn 5 n)=(m:Int)/\m<=5:=by
  have h1:0<=imx 0 (imn 5 n)/\imx 0 (imn 5 n)<=5:=by
   unfold imx imn
   split <;> split at*<;> omega
  exact ⟨(imx 0 (imn 5 n)).toNat,oa,oa⟩
 obtain ⟨m,em,hm⟩:=hi
 obtain ⟨out,q,g,e,hc1,hl⟩:=DY hN ha (h:=h) hm hc
 rw [em,e,bs]
 dsimp only
 by_cases h0:(0:Int)<(out.length:Int)
 ·obtain ⟨b,q2,g2,e2,hc2⟩:=rK (N:=N) ha (h:=g) (n:=14) hc1
  rw [ba h0,ah,e2,bs]
  dsimp only
  cases b with
  | false=>rw [ak];exact ⟨_,_,_,rfl,hc2,oa⟩
  | true =>
   obtain ⟨x,q3,g3,e3,_,_,_,hc3⟩:=dp (N:=N) ha (h:=g2) (n:=6) hc2
   rw [ah,e3,bs,nE (by decide) h0,bs,uR (by decide) h0,bs]
   exact ⟨_,_,_,rfl,hc3,by rw [gF];omega⟩
 ·rw [bf h0,ak];exact ⟨_,_,_,rfl,hc1,by rw [hl];exact hm⟩
def JSm (ts:List bA) (r:oD) (o:yP):Prop:=DSm ts/\QSm r/\o.length<=5
theorem JSm.o {ts:List bA} {r:oD} {o:yP} (h:JSm ts r o):okI o:=⟨by have:=h.2.2;omega,fun _ _=>trivial⟩
def JSv (ts:List bA) (r:oD):Prop:=DSv ts/\QB r
theorem CQ (hM:1073742848<=N) {a:yP} (ha:iy a) {p h:Int} (hc:dD a p):∃ ts r o q g,oR N a p h=some (ts,r,o,q,g)/\dD a q/\JSm ts r o/\JSv ts r:=by
 obtain ⟨ts,r,q,g,e,hc1,⟨ht,htv⟩,hr,hrv⟩:=C3 hM ha (h:=h) hc
 unfold oR
 rw [e,bs]
 dsimp only
 obtain ⟨o,q2,g2,e2,hc2,hl⟩:=CR (N:=N) oa ha (h:=g) (n:=r.1) (ats:=r.2.1) (o:=r.2.2) hc1
 rw [e2,bs]
 exact ⟨_,_,_,_,_,rfl,hc2,⟨ht,hr,hl⟩,htv,hrv⟩
theorem Nf {a:yP}:dD a 0:=⟨mD _,oa⟩
end
section
variable {N:Nat}
def VR (N:Nat) (r:iI):Prop:=bB N r.1 r.2=some true
def rv (r:iI):Rat:=(r.1:Rat) / (r.2:Rat)
theorem H5:∀ (m k:Nat) (x y:Int),0<=x->0<=y->y<2 ^ m->2*m<k->∃ g z,gQ N k x y=some (g,z)/\g ∣ x/\g ∣ y/\(0<x\/0<y->0<g)/\∀ c,c ∣ x->c ∣ y->c ∣ g:=by
 have one:∀ (k:Nat) (x:Int),0<=x->∃ g z,gQ N (k+1) x 0=some (g,z)/\g ∣ x/\g ∣ 0/\(0<x\/(0:Int)<0->0<g)/\∀ c,c ∣ x->c ∣ (0:Int)->c ∣ g:=by
  intro k x hx
  rw [gQ,show ((0:Int) != 0)=false from rfl,ak]
  exact ⟨x,0,rfl,Int.dvd_refl x,Int.dvd_zero x,fun h=>by omega,fun c h _=>h⟩
 intro m
 induction m with
 | zero =>
  intro k x y hx hy hm hk
  obtain ⟨k,rfl⟩:∃ k',k=k'+1:=⟨k-1,oa⟩
  obtain rfl:y=0:=by omega
  exact one k x hx
 | succ m ih =>
  intro k x y hx hy hm hk
  obtain ⟨k,rfl⟩:∃ k',k=k'+2:=⟨k-2,oa⟩
  by_cases h0:y=0
  ·subst h0
   exact one (k+1) x hx
  ·have hyp:0<y:=by omega
   have e1:=Int.emod_add_mul_ediv x y
   have t1:=Int.emod_nonneg x h0
   have t2:=Int.emod_lt_of_pos x hyp
   have back:∀ {g:Int},g ∣ y->g ∣ x % y->g ∣ x:=by
    intro g h1 h2
    rw [<- e1]
    exact Int.dvd_add h2 (BG h1)
   have fwd:∀ {c:Int},c ∣ x->c ∣ y->c ∣ x % y:=by
    intro c h1 h2
    rw [Int.emod_def]
    exact Int.dvd_sub h1 (BG h2)
   rw [gQ,show (y != 0)=true by simpa using h0,ah,rC h0,bs,Int.tmod_eq_emod_of_nonneg hx]
   by_cases h1:x % y=0
   ·rw [h1]
    obtain ⟨g,z,e,g1,g2,g3,g4⟩:=one k y hy
    refine ⟨g,z,e,back g1 (by rw [h1];exact g2),g1,fun _=>g3 (.inl hyp),fun c c1 c2=>g4 c c2 (Int.dvd_zero c)⟩
   ·have hr:0<x % y:=by omega
    generalize x % y=r at t1 t2 back fwd h1 hr
    have s1:=Int.emod_nonneg y h1
    have s2:=Int.emod_lt_of_pos y hr
    have e2:=Int.emod_add_mul_ediv y r
    have hq:1<=y / r:=Int.le_ediv_of_mul_le hr oa
    have hq2:r*1<=r*(y / r):=Int.mul_le_mul_of_nonneg_left hq oa
    rw [gQ,show (r != 0)=true by simpa using h1,ah,rC h1,bs,Int.tmod_eq_emod_of_nonneg hy]
    have hpw:(2:Int) ^ (m+1)=2 ^ m*2:=tU 2 m
    obtain ⟨g,z,e,g1,g2,g3,g4⟩:=ih k r (y % r) t1 s1 oa oa
    have gy:g ∣ y:=by
     rw [<- e2]
     exact Int.dvd_add g2 (BG g1)
    refine ⟨g,z,e,back gy g1,gy,fun _=>g3 (.inl hr),fun c c1 c2=>g4 c (fwd c1 c2) ?_⟩
    rw [Int.emod_def]
    exact Int.dvd_sub c2 (BG (fwd c1 c2))
theorem yk (hN:1073741824<=N) {x y:Int} (hx:0<=x) (hy:0<=y) (h1:y<=4000000000000000000):∃ g,jb N x y=some g/\g ∣ x/\g ∣ y/\(0<x\/0<y->0<g)/\∀ c,c ∣ x->c ∣ y->c ∣ g:=by
 have hp:(2:Int) ^ 63=9223372036854775808:=by decide
 obtain ⟨g,z,e,h⟩:=H5 (N:=N) 63 N x y hx hy oa oa
 refine ⟨g,?_,h⟩
 unfold jb;rw [e,bs,lpB]
theorem B8 (n:Int):0<=imx n (0-n)/\(imx n (0-n)=n\/imx n (0-n)=-n)/\∀ c:Int,c ∣ imx n (0-n)↔c ∣ n:=by
 unfold imx
 split
 ·refine ⟨oa,.inr oa,fun c=>?_⟩
  rw [Int.zero_sub]
  exact Int.dvd_neg
 ·refine ⟨oa,.inl rfl,fun c=>Iff.rfl⟩
theorem Em (hN:1073741824<=N) (n d:Int):∃ b,bB N n d=some b/\(b=true↔1<=d/\d<=1000000000/\-1000000000<=n/\n<=1000000000/\Int.gcd n d=1):=by
 unfold bB
 rw [fP,bs]
 cases h1:inR d 1 1000000000 with
 | false =>
  rw [ak]
  refine ⟨false,rfl,fun h=>(by cases h),fun h=>?_⟩
  rw [cA.2 ⟨h.1,h.2.1⟩] at h1;cases h1
 | true =>
  rw [ah,fP,bs]
  cases h2:inR n (-1000000000) 1000000000 with
  | false =>
   rw [ak]
   refine ⟨false,rfl,fun h=>(by cases h),fun h=>?_⟩
   rw [cA.2 ⟨h.2.2.1,h.2.2.2.1⟩] at h2;cases h2
  | true =>
   have h1':=cA.1 h1
   have h2':=cA.1 h2
   obtain ⟨a1,a2,a3⟩:=B8 n
   obtain ⟨g,e,g1,g2,g3,g4⟩:=yk (N:=N) hN a1 (by omega:0<=d) oa
   rw [ah,dO oa oa,bs,e,bs]
   refine ⟨_,rfl,?_⟩
   have hg:=g3 (.inr oa)
   rw [rX]
   constructor
   ·rintro rfl
    refine ⟨h1'.1,h1'.2,h2'.1,h2'.2,?_⟩
    have h5:=g4 (Int.gcd n d:Int) ((a3 _).2 (Int.gcd_dvd_left ..)) (Int.gcd_dvd_right ..)
    have h6:=tv (by decide) h5
    have h7:0<Int.gcd n d:=Int.gcd_pos_of_ne_zero_right n oa
    omega
   ·intro h
    have h5:(g.toNat:Int) ∣ (Int.gcd n d:Int):=by
     rw [vD oa]
     exact Int.dvd_coe_gcd ((a3 _).1 g1) g2
    rw [h.2.2.2.2,vD oa] at h5
    have:=tv (by decide) h5
    omega
theorem lX (hN:1073741824<=N) {r:iI}:VR N r↔1<=r.2/\r.2<=1000000000/\-1000000000<=r.1/\r.1<=1000000000/\Int.gcd r.1 r.2=1:=by
 obtain ⟨b,e,h⟩:=Em hN r.1 r.2
 unfold VR
 rw [e,<- h]
 exact ⟨fun h=>dz h,fun h=>by rw [h]⟩
theorem pR (hN:1073741824<=N) (r:iI):VR N r\/bB N r.1 r.2=some false:=by
 obtain ⟨b,e,_⟩:=Em hN r.1 r.2
 cases b with
 | true=>exact .inl e
 | false=>exact .inr e
theorem GD {n g:Int} (hg:0<g) (h:g ∣ n) (h1:-4000000000000000000<=n) (h2:n<=4000000000000000000):∃ q,qt n g=some q/\q*g=n:=by
 have hb:(n.tdiv g).natAbs<=n.natAbs:=by
  rw [Int.natAbs_tdiv];exact Nat.div_le_self _ _
 refine ⟨n.tdiv g,?_,Int.tdiv_mul_cancel h⟩
 unfold qt
 rw [aZ ⟨oa,qW oa oa⟩]
theorem Jm {a b g:Int} (hg:g≠0) (hb:b≠0):((a:Int):Rat) / (b:Rat)=((a*g:Int):Rat) / ((b*g:Int):Rat):=by
 have h1:(g:Rat)≠0:=fun h=>hg (vI.1 h)
 have h2:(b:Rat)≠0:=fun h=>hb (vI.1 h)
 rw [ku,ku]
 grind
theorem H6 {a b:Int}:((-a:Int):Rat) / ((-b:Int):Rat)=(a:Rat) / (b:Rat):=by
 rw [xG,xG]
 by_cases h:(b:Rat)=0
 ·rw [h];grind
 ·grind
theorem Iv (hN:1073741824<=N) {n d:Int} (h1:-4000000000000000000<=n) (h2:n<=4000000000000000000) (h3:-4000000000000000000<=d) (h4:d<=4000000000000000000):∃ r b,gN N n d=some (r,b)/\(b=true->VR N r/\d≠0/\rv r=(n:Rat) / (d:Rat)):=by
 have core:∀ n d:Int,-4000000000000000000<=n->n<=4000000000000000000->0<d->d<=4000000000000000000->∃ r b,((sb 0 n).bind fun x154=>(jb N (imx n x154) d).bind fun r155=>(qt n r155).bind fun x161=>(qt d r155).bind fun x162=>(bB N x161 x162).bind fun r170=>(bif r170 then some ((x161,x162),true) else some ((0,0),false)))=some (r,b)/\(b=true->VR N r/\rv r=(n:Rat) / (d:Rat)):=by
  intro n d h1 h2 h3 h4
  obtain ⟨a1,a2,a3⟩:=B8 n
  obtain ⟨g,e,g1,g2,g3,g4⟩:=yk (N:=N) hN a1 (by omega:0<=d) h4
  have hg:=g3 (.inr h3)
  obtain ⟨p,ep,hp⟩:=GD hg ((a3 _).1 g1) h1 h2
  obtain ⟨q,eq,hq⟩:=GD hg g2 oa h4
  rw [dO oa oa,bs,e,bs,ep,bs,eq,bs]
  obtain ⟨b,eb,hb⟩:=Em hN p q
  rw [eb,bs]
  cases b with
  | false=>exact ⟨_,_,rfl,fun h=>by cases h⟩
  | true =>
   refine ⟨_,_,rfl,fun _=>⟨eb,?_⟩⟩
   have hq0:q≠0:=by have:=(hb.1 rfl).1;omega
   show ((p:Int):Rat) / (q:Rat)=_
   rw [Jm (g:=g) oa hq0,hp,hq]
 unfold gN
 by_cases h0:d=0
 ·rw [show (d == 0)=true by simpa using h0,ah]
  exact ⟨_,_,rfl,fun h=>by cases h⟩
 ·rw [show (d == 0)=false by simpa using h0,ak,dO oa oa,bs,fP,bs,show inR n (0-4000000000000000000) 4000000000000000000=true from cA.2 oa,ah,bs,fP,bs,show inR d (0-4000000000000000000) 4000000000000000000=true from cA.2 oa,ah]
  by_cases hd:d<0
  ·rw [ba hd,ah,dO oa oa,bs,dO oa oa,bs]
   obtain ⟨r,b,e,h⟩:=core (0-n) (0-d) oa oa oa oa
   refine ⟨r,b,e,fun hb=>?_⟩
   obtain ⟨k1,k2⟩:=h hb
   refine ⟨k1,h0,?_⟩
   rw [k2,Int.zero_sub,Int.zero_sub]
   exact H6
  ·rw [bf hd,ak]
   obtain ⟨r,b,e,h⟩:=core n d h1 h2 oa h4
   exact ⟨r,b,e,fun hb=>⟨(h hb).1,h0,(h hb).2⟩⟩
theorem pO {N:Nat} (hN:1073741824<=N) {r:iI} (h:VR N r):(r.2:Rat)≠0:=fun e=>by
 have h1:=vI.1 e
 have:=(lX hN).1 h
 omega
theorem n9 {a b:Int} (h1:-1000000000<=a) (h2:a<=1000000000) (h3:-1000000000<=b) (h4:b<=1000000000):-1000000000000000000<=a*b/\a*b<=1000000000000000000:=by
 have h5:(a*b).natAbs<=1000000000*1000000000:=by
  rw [Int.natAbs_mul];exact q8 oa oa
 omega
theorem KN (hN:1073741824<=N) (a b:iI):∃ r ok,gK N a.1 a.2 b.1 b.2=some (r,ok)/\(ok=true->VR N a/\VR N b/\VR N r/\rv r=rv a*rv b):=by
 unfold gK
 rcases pR hN a with ha | ha
 ·rcases pR hN b with hb | hb
  ·obtain ⟨a1,a2,a3,a4,_⟩:=(lX hN).1 ha
   obtain ⟨b1,b2,b3,b4,_⟩:=(lX hN).1 hb
   have m1:=n9 a3 a4 b3 b4
   have m2:=n9 (a:=a.2) (b:=b.2) oa a2 oa b2
   obtain ⟨r,k,e,h⟩:=Iv (N:=N) hN (n:=a.1*b.1) (d:=a.2*b.2) oa oa oa oa
   unfold VR at ha hb
   rw [ha,bs,ah,hb,bs,ah,iN oa oa,bs,iN oa oa,bs,e,bs]
   refine ⟨_,_,rfl,fun hk=>⟨ha,hb,(h hk).1,?_⟩⟩
   have h1:=pO hN (r:=a) ha
   have h2:=pO hN (r:=b) hb
   refine (h hk).2.2.trans ?_
   unfold rv
   rw [ku,ku]
   grind
  ·unfold VR at ha
   rw [ha,bs,ah,hb,bs,ak]
   exact ⟨_,_,rfl,fun h=>by cases h⟩
 ·rw [ha,bs,ak]
  exact ⟨_,_,rfl,fun h=>by cases h⟩
theorem Md (hN:1073741824<=N) (a b:iI):∃ r ok,kh N a.1 a.2 b.1 b.2=some (r,ok)/\(ok=true->VR N a/\VR N b/\VR N r/\b.1≠0/\rv r*rv b=rv a):=by
 unfold kh
 rcases pR hN a with ha | ha
 ·rcases pR hN b with hb | hb
  ·obtain ⟨a1,a2,a3,a4,_⟩:=(lX hN).1 ha
   obtain ⟨b1,b2,b3,b4,_⟩:=(lX hN).1 hb
   have m1:=n9 a3 a4 (b:=b.2) oa b2
   have m2:=n9 (a:=a.2) (b:=b.1) oa a2 b3 b4
   obtain ⟨r,k,e,h⟩:=Iv (N:=N) hN (n:=a.1*b.2) (d:=a.2*b.1) oa oa oa oa
   unfold VR at ha hb
   rw [ha,bs,ah,hb,bs,ah,iN oa oa,bs,iN oa oa,bs,e,bs]
   refine ⟨_,_,rfl,fun hk=>?_⟩
   have hb0:b.1≠0:=fun e0=>(h hk).2.1 (by rw [e0,vp])
   refine ⟨ha,hb,(h hk).1,hb0,?_⟩
   have h1:=pO hN (r:=a) ha
   have h2:=pO hN (r:=b) hb
   have h3:(b.1:Rat)≠0:=fun e=>hb0 (vI.1 e)
   have h4:=(h hk).2.2
   show rv r*rv b=rv a
   rw [h4]
   unfold rv
   rw [ku,ku]
   grind
  ·unfold VR at ha
   rw [ha,bs,ah,hb,bs,ak]
   exact ⟨_,_,rfl,fun h=>by cases h⟩
 ·rw [ha,bs,ak]
  exact ⟨_,_,rfl,fun h=>by cases h⟩
theorem LZ (hN:1073741824<=N) (a b:iI):∃ r ok,ik N a.1 a.2 b.1 b.2=some (r,ok)/\(ok=true->VR N a/\VR N b/\VR N r/\rv r=rv a+rv b):=by
 unfold ik
 rcases pR hN a with ha | ha
 ·rcases pR hN b with hb | hb
  ·obtain ⟨a1,a2,a3,a4,_⟩:=(lX hN).1 ha
   obtain ⟨b1,b2,b3,b4,_⟩:=(lX hN).1 hb
   have m1:=n9 a3 a4 (b:=b.2) oa b2
   have m2:=n9 b3 b4 (b:=a.2) oa a2
   have m3:=n9 (a:=a.2) (b:=b.2) oa a2 oa b2
   obtain ⟨r,k,e,h⟩:=Iv (N:=N) hN (n:=a.1*b.2+b.1*a.2) (d:=a.2*b.2) oa oa oa oa
   unfold VR at ha hb
   rw [ha,bs,ah,hb,bs,ah,iN oa oa,bs,iN oa oa,bs,cO oa oa,bs,iN oa oa,bs,e,bs]
   refine ⟨_,_,rfl,fun hk=>⟨ha,hb,(h hk).1,?_⟩⟩
   have h1:=pO hN (r:=a) ha
   have h2:=pO hN (r:=b) hb
   refine (h hk).2.2.trans ?_
   unfold rv
   rw [Rat.intCast_add,ku,ku,ku]
   grind
  ·unfold VR at ha
   rw [ha,bs,ah,hb,bs,ak]
   exact ⟨_,_,rfl,fun h=>by cases h⟩
 ·rw [ha,bs,ak]
  exact ⟨_,_,rfl,fun h=>by cases h⟩
theorem Nq (hN:1073741824<=N) (a b:iI):∃ r ok,lT N a.1 a.2 b.1 b.2=some (r,ok)/\(ok=true->VR N a/\VR N b/\VR N r/\rv r=rv a-rv b):=by
 unfold lT
 rcases pR hN b with hb | hb
 ·obtain ⟨b1,b2,b3,b4,_⟩:=(lX hN).1 hb
  obtain ⟨r,k,e,h⟩:=LZ hN a (0-b.1,b.2)
  have hb':=hb
  unfold VR at hb
  rw [hb,bs,ah,dO oa oa,bs,e,bs]
  refine ⟨_,_,rfl,fun hk=>?_⟩
  obtain ⟨k1,_,k3,k4⟩:=h hk
  refine ⟨k1,hb',k3,k4.trans ?_⟩
  unfold rv
  show _+((0-b.1:Int):Rat) / (b.2:Rat)=_
  rw [Int.zero_sub,xG]
  have h2:=pO hN hb'
  grind
 ·rw [hb,bs,ak]
  exact ⟨_,_,rfl,fun h=>by cases h⟩
theorem Na (hN:1073741824<=N) (a b:iI):∃ c,js N a.1 a.2 b.1 b.2=some c/\-1<=c/\c<=1/\(VR N a->VR N b->(c<0↔rv a<rv b)):=by
 unfold js
 rcases pR hN a with ha | ha
 ·rcases pR hN b with hb | hb
  ·obtain ⟨a1,a2,a3,a4,_⟩:=(lX hN).1 ha
   obtain ⟨b1,b2,b3,b4,_⟩:=(lX hN).1 hb
   have m1:=n9 a3 a4 (b:=b.2) oa b2
   have m2:=n9 b3 b4 (b:=a.2) oa a2
   have hlt:rv a<rv b↔a.1*b.2<b.1*a.2:=by
    have p1:(0:Rat)<(a.2:Rat):=Rat.intCast_pos.2 oa
    have p2:(0:Rat)<(b.2:Rat):=Rat.intCast_pos.2 oa
    unfold rv
    rw [Rat.div_lt_iff p1,pB,Rat.mul_assoc,Rat.mul_comm (b.2:Rat)⁻¹,<- Rat.mul_assoc,<- pB,Rat.lt_div_iff p2,<- ku,<- ku,Rat.intCast_lt_intCast]
   unfold VR at ha hb
   rw [ha,bs,ah,hb,bs,ah,iN oa oa,bs,iN oa oa,bs]
   by_cases h1:a.1*b.2<b.1*a.2
   ·rw [ba h1,ah]
    exact ⟨-1,rfl,by decide,by decide,fun _ _=>⟨fun _=>hlt.2 h1,fun _=>by decide⟩⟩
   ·rw [bf h1,ak]
    by_cases h2:b.1*a.2<a.1*b.2
    ·rw [ba h2,ah]
     exact ⟨1,rfl,by decide,by decide,fun _ _=>⟨fun h=>absurd h (by decide),fun h=>absurd (hlt.1 h) h1⟩⟩
    ·rw [bf h2,ak]
     exact ⟨0,rfl,by decide,by decide,fun _ _=>⟨fun h=>absurd h (by decide),fun h=>absurd (hlt.1 h) h1⟩⟩
  ·unfold VR at ha
   rw [ha,bs,ah,hb,bs,ak]
   exact ⟨0,rfl,by decide,by decide,fun _ h=>by rw [VR,hb] at h;cases h⟩
 ·rw [ha,bs,ak]
  exact ⟨0,rfl,by decide,by decide,fun h=>by rw [VR,ha] at h;cases h⟩
end
theorem IY {x y:Rat} (hx:0<=x) (hy:0<=y):∀ n:Nat,((n:Rat)+1)*x*y ^ n<=x ^ (n+1)+n*y ^ (n+1)
 | 0=>by rw [kv,sE];grind
 | n+1=>by
  have h:=IY hx hy n
  have h1:0<=x*(x ^ (n+1)+n*y ^ (n+1)-((n:Rat)+1)*x*y ^ n):=nS hx (by grind)
  have h2:0<=(x-y)*(x-y):=by
   rcases (Rat.le_total:x<=y\/y<=x) with g | g
   ·have:0<=(y-x)*(y-x):=nS (by grind) (by grind)
    grind
   ·exact nS (by grind) (by grind)
  have hn:(0:Rat)<=(n:Rat)+1:=by
   have:(0:Rat)<=(n:Rat):=vK
   grind
  have h3:0<=(((n:Rat)+1)*y ^ n)*((x-y)*(x-y)):=nS (nS hn (Rat.pow_nonneg hy)) h2
  have e1:((n+1:Nat):Rat)=(n:Rat)+1:=by rw [vh];rfl
  rw [e1,kv x (n+1),kv y (n+1),kv x n,kv y n]
  rw [kv x n,kv y n] at h1
  grind
def prR:List Rat->Rat
 | []=>1
 | x :: l=>x*prR l
def smR:List Rat->Rat
 | []=>0
 | x :: l=>x+smR l
theorem Bz:∀ {l:List Rat},(∀ x∈l,0<=x)->0<=smR l
 | [],_=>by unfold smR;decide
 | x :: l,h=>by
  have h1:=Bz (l:=l) (fun y hy=>h y (dy _ hy))
  have h2:=h x (cZ)
  unfold smR;grind
theorem C0:∀ {l:List Rat},(∀ x∈l,0<=x)->0<=prR l
 | [],_=>by unfold prR;decide
 | x :: l,h=>by
  unfold prR
  exact nS (h x cZ) (C0 (fun y hy=>h y (dy _ hy)))
theorem KX:∀ {l:List Rat},(∀ x∈l,0<=x)->∀ a:Rat,a*(l.length:Rat)=smR l->0<=a->prR l<=a ^ l.length
 | [],_,a,_,_=>by rw [fN,sE];exact Rat.le_refl
 | t :: l,h,a,ha,h0=>by
  have ht:=h t cZ
  have hl:∀ y∈l,0<=y:=fun y hy=>h y (dy _ hy)
  have hs:=Bz hl
  have hp:=C0 hl
  have e1:((l.length+1:Nat):Rat)=(l.length:Rat)+1:=by rw [vh];rfl
  rw [bW,e1] at ha
  have ha':a*((l.length:Rat)+1)=t+smR l:=ha
  rw [bW]
  show t*prR l<=a ^ (l.length+1)
  by_cases hz:l.length=0
  ·have:l=[]:=List.length_eq_zero_iff.mp hz
   subst this
   rw [fN,kv,sE]
   have e2:prR []=1:=rfl
   have e3:smR []=0:=rfl
   rw [e2];rw [e3] at ha'
   have:((([]:List Rat).length:Nat):Rat)=0:=rfl
   rw [this] at ha'
   grind
  ·have hn:(0:Rat)<(l.length:Rat):=Rat.natCast_pos.mpr oa
   have hb:∃ b:Rat,b*(l.length:Rat)=smR l/\0<=b:=by
    refine ⟨smR l / (l.length:Rat),Rat.div_mul_cancel (by grind),?_⟩
    rw [pB]
    exact nS hs (tK (Rat.inv_pos.mpr hn))
   obtain ⟨b,hb,hb0⟩:=hb
   have ih:=KX hl b hb hb0
   have hy:=IY h0 hb0 l.length
   have h4:t*prR l<=t*b ^ l.length:=xI ih ht
   have h5:t=((l.length:Rat)+1)*a-l.length*b:=by grind
   have h6:t*b ^ l.length=((l.length:Rat)+1)*a*b ^ l.length-l.length*b ^ (l.length+1):=by
    rw [kv];grind
   grind
theorem Fy {x y:Rat} (hx:0<=x) (h:x<=y):∀ n:Nat,x ^ n<=y ^ n
 | 0=>by rw [sE,sE];exact Rat.le_refl
 | n+1=>by
  rw [kv,kv]
  exact xF (xI h (Rat.pow_nonneg hx)) (Rat.mul_le_mul_of_nonneg_right (Fy hx h n) (xF hx h))
theorem y8 {x:Rat} (hx:0<=x) (h:x<=1) (m:Nat):∀ n:Nat,x ^ (m+n)<=x ^ m
 | 0=>Rat.le_refl
 | n+1=>by
  have h1:=y8 hx h m n
  have h0:0<=x ^ (m+n):=Rat.pow_nonneg hx
  have e:x ^ (m+(n+1))=x ^ (m+n)*x:=kv x (m+n)
  have h2:x ^ (m+n)*x<=x ^ (m+n)*1:=xI h h0
  rw [e];grind
theorem Ei (x y:Rat):∀ n:Nat,(x*y) ^ n=x ^ n*y ^ n
 | 0=>by rw [sE,sE,sE];grind
 | n+1=>by rw [kv,kv,kv,Ei x y n];grind
theorem sQ {x:Rat} (hx:0<=x) {n:Nat} (h:x ^ n<=0):x=0:=by
 by_cases hp:0<x
 ·have:=Rat.pow_pos (n:=n) hp
  grind
 ·grind
section
variable {ι:Type} (c:ι->Bool)
def pk (a r:ι->Rat) (i:ι):Rat:=cond (c i) (a i) (r i)
theorem Dh {a b r t:ι->Rat}:∀ L:List ι,(∀ i∈L,c i=true->a i=t i*b i)->prR (L.map (pk c a r))=prR ((L.filter c).map t)*prR (L.map (pk c b r))
 | [],_=>by
  show (1:Rat)=1*1
  grind
 | i :: L,h=>by
  have ih:=Dh (r:=r) L (fun j hj=>h j (dy _ hj))
  have hi:=h i cZ
  rw [gd,gd]
  show pk c a r i*prR (L.map (pk c a r))=_*(pk c b r i*prR (L.map (pk c b r)))
  rw [ih]
  cases hc:c i with
  | true =>
   have e:=hi hc
   rw [List.filter_cons_of_pos hc,gd]
   have e1:pk c a r i=a i:=by unfold pk;rw [hc];rfl
   have e2:pk c b r i=b i:=by unfold pk;rw [hc];rfl
   rw [e1,e2]
   show _=t i*prR ((L.filter c).map t)*_
   grind
  | false =>
   rw [List.filter_cons_of_neg (by rw [hc];decide)]
   have e1:pk c a r i=r i:=by unfold pk;rw [hc];rfl
   have e2:pk c b r i=r i:=by unfold pk;rw [hc];rfl
   rw [e1,e2]
   grind
theorem IX {a r:ι->Rat} (ha:∀ i,0<=a i) (hr:∀ i,0<=r i) (L:List ι):0<=prR (L.map (pk c a r)):=by
 refine C0 (fun x hx=>?_)
 obtain ⟨i,_,rfl⟩:=List.mem_map.mp hx
 unfold pk
 cases c i with
 | true=>exact ha i
 | false=>exact hr i
theorem zr:∀ {l:List Rat},(0:Rat)∈l->prR l=0
 | x :: l,h=>by
  unfold prR
  rcases List.mem_cons.mp h with h | h
  ·rw [<- h];grind
  ·rw [zr h];grind
theorem FA {t u:ι->Rat}:∀ L:List ι,(∀ i∈L,t i+u i=1)->smR (L.map t)+smR (L.map u)=(L.length:Rat)
 | [],_=>by
  show (0:Rat)+0=0
  grind
 | i :: L,h=>by
  have ih:=FA L (fun j hj=>h j (dy _ hj))
  have hi:=h i cZ
  have e1:((L.length+1:Nat):Rat)=(L.length:Rat)+1:=by rw [vh];rfl
  rw [bW,e1,gd,gd]
  show t i+smR (L.map t)+(u i+smR (L.map u))=_
  grind
theorem IT {a b r t:ι->Rat} {L:List ι} {d:Nat} {N:Rat} (hd:d<=(L.filter c).length) (hd0:0<d) (ht:∀ i∈L,c i=true->a i=t i*b i) (t0:∀ i,0<=t i) (t1:smR ((L.filter c).map t)<=((L.filter c).length:Rat)) (hb:∀ i,0<=b i) (hr:∀ i,0<=r i) (hN:N ^ d<=prR (L.map (pk c a r))) :
  ∃ x:Rat,0<=x/\x*((L.filter c).length:Rat)=smR ((L.filter c).map t)/\N ^ d<=x ^ d*prR (L.map (pk c b r)):=by
 have hF:∀ x∈(L.filter c).map t,0<=x:=by
  intro x hx
  obtain ⟨i,_,rfl⟩:=List.mem_map.mp hx
  exact t0 i
 have hs:=Bz hF
 have hn:(0:Rat)<((L.filter c).length:Rat):=Rat.natCast_pos.mpr oa
 have hx:∃ x:Rat,x*((L.filter c).length:Rat)=smR ((L.filter c).map t)/\0<=x:=by
  refine ⟨smR ((L.filter c).map t) / ((L.filter c).length:Rat),Rat.div_mul_cancel (by grind),?_⟩
  rw [pB]
  exact nS hs (tK (Rat.inv_pos.mpr hn))
 obtain ⟨x,hx,hx0⟩:=hx
 refine ⟨x,hx0,hx,?_⟩
 have x1:x<=1:=by
  refine Rat.le_of_mul_le_mul_right (c:=((L.filter c).length:Rat)) ?_ hn
  rw [hx];grind
 have h1:=KX hF x (by rw [cB];exact hx) hx0
 rw [cB] at h1
 obtain ⟨e,he⟩:=Nat.exists_eq_add_of_le hd
 have h2:x ^ (L.filter c).length<=x ^ d:=by rw [he];exact y8 hx0 x1 d e
 rw [Dh c L ht] at hN
 exact xF hN (Rat.mul_le_mul_of_nonneg_right (xF h1 h2) (IX c hb hr L))
theorem KS {s S r:ι->Rat} (hs:∀ i,0<=s i) (hS:∀ i,0<=S i) (hr:∀ i,0<=r i) {L:List ι} {d:Nat} (hd0:0<d) (hd:d<=(L.filter c).length) {N M:Rat} (N0:0<=N) (M0:0<=M) (hN:N ^ d<=prR (L.map (pk c s r))) (hM:M ^ d<=prR (L.map (pk c S r))) :
  (N+M) ^ d<=prR (L.map (pk c (fun i=>s i+S i) r)):=by
 have hb:∀ i,0<=s i+S i:=fun i=>by have:=hs i;have:=hS i;grind
 have P0:=IX c hb hr L
 by_cases hz:∃ i∈L,c i=true/\s i+S i=0
 ·obtain ⟨i,hi,hc,h0⟩:=hz
  have z1:s i=0:=by have:=hs i;have:=hS i;grind
  have z2:S i=0:=by have:=hs i;have:=hS i;grind
  have m1:(0:Rat)∈L.map (pk c s r):=List.mem_map.mpr ⟨i,hi,by unfold pk;rw [hc];exact z1⟩
  have m2:(0:Rat)∈L.map (pk c S r):=List.mem_map.mpr ⟨i,hi,by unfold pk;rw [hc];exact z2⟩
  rw [zr m1] at hN
  rw [zr m2] at hM
  have n0:=sQ N0 hN
  have m0:=sQ M0 hM
  obtain ⟨e,rfl⟩:∃ e,d=e+1:=⟨d-1,oa⟩
  rw [kv,n0,m0]
  grind
 ·have hp:∀ i∈L,c i=true->0<s i+S i:=by
   intro i hi hc
   have h1:=hb i
   have h2:s i+S i≠0:=fun h=>hz ⟨i,hi,hc,h⟩
   grind
  have t0:∀ {a:ι->Rat},(∀ i,0<=a i)->∀ i,0<=a i / (s i+S i):=by
   intro a ha i
   rw [pB]
   by_cases h:s i+S i=0
   ·rw [h]
    have e:(0:Rat)⁻¹=0:=Rat.inv_zero
    rw [e];grind
   ·exact nS (ha i) (tK (Rat.inv_pos.mpr (by have:=hb i;grind)))
  have ht:∀ (a:ι->Rat),∀ i∈L,c i=true->a i=a i / (s i+S i)*(s i+S i):=by
   intro a i hi hc
   have:=hp i hi hc
   exact (Rat.div_mul_cancel (by grind)).symm
  have h2:=FA (t:=fun i=>s i / (s i+S i)) (u:=fun i=>S i / (s i+S i)) (L.filter c) (by
   intro i hi
   obtain ⟨hi,hc⟩:=List.mem_filter.mp hi
   have h1:=hp i hi hc
   show s i / (s i+S i)+S i / (s i+S i)=1
   rw [pB,pB,<- Rat.add_mul]
   exact Rat.mul_inv_cancel _ (by grind))
  have nn:∀ {a:ι->Rat},(∀ i,0<=a i)->0<=smR ((L.filter c).map (fun i=>a i / (s i+S i))):=by
   intro a ha
   refine Bz (fun x hx=>?_)
   obtain ⟨i,_,rfl⟩:=List.mem_map.mp hx
   exact t0 ha i
  have n1:=nn hs
  have n2:=nn hS
  obtain ⟨x,x0,hx,hx1⟩:=IT c (b:=fun i=>s i+S i) (t:=fun i=>s i / (s i+S i)) hd hd0 (ht s) (t0 hs) (by grind) hb hr hN
  obtain ⟨y,y0,hy,hy1⟩:=IT c (b:=fun i=>s i+S i) (t:=fun i=>S i / (s i+S i)) hd hd0 (ht S) (t0 hS) (by grind) hb hr hM
  have hn:(0:Rat)<((L.filter c).length:Rat):=Rat.natCast_pos.mpr oa
  have hxy:x+y=1:=by
   have:(x+y)*((L.filter c).length:Rat)=1*((L.filter c).length:Rat):=by grind
   grind
  refine Rat.not_lt.mp (fun hlt=>?_)
  have T0:0<=N+M:=by grind
  have go:∀ {z K:Rat},0<=z->0<=K->K ^ d<=z ^ d*prR (L.map (pk c (fun i=>s i+S i) r))->K<=z*(N+M)/\(0<z->K<z*(N+M)):=by
   intro z K z0 K0 h
   have e:=Ei z (N+M) d
   have zd:0<=z ^ d:=Rat.pow_nonneg z0
   have zT:0<=z*(N+M):=nS z0 T0
   have l1:z ^ d*prR (L.map (pk c (fun i=>s i+S i) r))<=z ^ d*(N+M) ^ d:=xI (tK hlt) zd
   have st:0<z->K<z*(N+M):=by
    intro zp
    have zdp:0<z ^ d:=Rat.pow_pos zp
    have l2:=(Rat.mul_lt_mul_left zdp).mpr hlt
    refine Rat.not_le.mp (fun hle=>?_)
    have:=Fy zT hle d
    grind
   refine ⟨?_,st⟩
   by_cases zp:0<z
   ·exact tK (st zp)
   ·have z00:z=0:=by grind
    subst z00
    have e0:(0:Rat) ^ d=0:=by
     obtain ⟨e,rfl⟩:∃ e,d=e+1:=⟨d-1,oa⟩
     rw [kv];grind
    rw [e0] at h
    have:=sQ K0 (by grind:K ^ d<=0)
    grind
  have g1:=go x0 N0 hx1
  have g2:=go y0 M0 hy1
  have e3:x*(N+M)+y*(N+M)=N+M:=by
   rw [<- Rat.add_mul,hxy,Rat.one_mul]
  by_cases xp:0<x
  ·have:=g1.2 xp
   have:=g2.1
   grind
  ·have yp:0<y:=by grind
   have:=g2.2 yp
   have:=g1.1
   grind
end
def prN:List Nat->Nat
 | []=>1
 | x :: l=>x*prN l
def smN:List Nat->Nat
 | []=>0
 | x :: l=>x+smN l
theorem DR:∀ l:List Nat,((prN l:Nat):Rat)=prR (l.map (fun n:Nat=>(n:Rat)))
 | []=>rfl
 | x :: l=>by
  rw [gd]
  show ((x*prN l:Nat):Rat)=(x:Rat)*prR (l.map (fun n:Nat=>(n:Rat)))
  rw [Rat.natCast_mul,DR l]
theorem Ay {ι:Type} {f g:ι->Nat}:∀ {L:List ι},(∀ i∈L,f i<=g i)->prN (L.map f)<=prN (L.map g)
 | [],_=>bY _
 | i :: L,h=>by
  rw [gd,gd]
  exact q8 (h i cZ) (Ay (fun j hj=>h j (dy _ hj)))
theorem Lj {ι α:Type} (c:ι->Bool) {L:List ι} {d:Nat} (hd0:0<d) (hd:d<=(L.filter c).length) {F:α->Nat} {s:ι->α->Nat} {r:ι->Nat}:∀ {K:List α},(∀ x∈K,F x ^ d<=prN (L.map (fun i=>s i x)))->(∀ i∈L,c i=false->∀ x∈K,s i x<=r i) ->
  (smN (K.map F)) ^ d<=prN (L.map (fun i=>cond (c i) (smN (K.map (s i))) (r i)))
 | [],_,_=>by
  show 0 ^ d<=_
  rw [Nat.zero_pow hd0]
  exact dB _
 | x :: K,h,h2=>by
  have ih:=Lj (L:=L) (s:=s) (r:=r) c hd0 hd (K:=K) (fun y hy=>h y (dy _ hy)) (fun i hi hc y hy=>h2 i hi hc y (dy _ hy))
  have hx:=h x cZ
  have hx':F x ^ d<=prN (L.map (fun i=>cond (c i) (s i x) (r i))):=by
   refine Nat.le_trans hx (Ay (fun i hi=>?_))
   cases hc:c i with
   | true=>exact bY _
   | false=>exact h2 i hi hc x cZ
  have cs:∀ (u w:ι->Nat),((prN (L.map (fun i=>cond (c i) (u i) (w i))):Nat):Rat)=prR (L.map (pk c (fun i=>((u i:Nat):Rat)) (fun i=>((w i:Nat):Rat)))):=by
   intro u w
   rw [DR,nX]
   congr 1
   refine vE (fun i _=>?_)
   show ((cond (c i) (u i) (w i):Nat):Rat)=pk c (fun i=>((u i:Nat):Rat)) (fun i=>((w i:Nat):Rat)) i
   unfold pk
   cases c i <;> rfl
  have a1:((F x:Nat):Rat) ^ d<=prR (L.map (pk c (fun i=>((s i x:Nat):Rat)) (fun i=>((r i:Nat):Rat)))):=by
   rw [<- cs,<- Rat.natCast_pow]
   exact Rat.natCast_le_natCast.mpr hx'
  have a2:((smN (K.map F):Nat):Rat) ^ d<=prR (L.map (pk c (fun i=>((smN (K.map (s i)):Nat):Rat)) (fun i=>((r i:Nat):Rat)))):=by
   rw [<- cs,<- Rat.natCast_pow]
   exact Rat.natCast_le_natCast.mpr ih
  have m:=KS c (fun _=>vK) (fun _=>vK) (fun _=>vK) hd0 hd vK vK a1 a2
  have e:∀ i,((s i x:Nat):Rat)+((smN (K.map (s i)):Nat):Rat)=((smN ((x :: K).map (s i)):Nat):Rat):=by
   intro i
   rw [<- vh];rfl
  have e2:(fun i=>((s i x:Nat):Rat)+((smN (K.map (s i)):Nat):Rat))=fun i=>((smN ((x :: K).map (s i)):Nat):Rat):=funext e
  rw [e2,<- cs,<- vh,<- Rat.natCast_pow] at m
  exact Rat.natCast_le_natCast.mp m
theorem ixR {ls:be} {k:Nat} (h:k<ls.length):ix ls (k:Int)=some (ls.getD k []):=by rw [bc h,iY h]
theorem ixD {xs:yP} {k:Nat} (h:k<xs.length):ix xs (k:Int)=some (xs.getD k 0):=by rw [bc h,bR h]
theorem ixH {xs:yP} (h:0<xs.length):ix xs 0=some (jt xs):=ixD h
def cz (A:List Nat):yP:=A.map fun (a:Nat)=>((a:Nat):Int)
theorem wF {A:List Nat} {k:Nat} (h:k<A.length):ix (cz A) (k:Int)=some ((A.getD k 0:Nat):Int):=by
 unfold cz
 rw [bc (by rw [cB];exact h),jC]
 simp [h]
theorem BH {A:List Nat} {k a:Nat} (h:k<A.length):sto (cz A) (k:Int) (a:Int)=some (cz (A.set k a)):=by
 unfold cz
 rw [mu (by rw [cB];exact h),xT]
theorem LJ {a b:Nat} (h:0<b):rm (a:Int) (b:Int)=some ((a % b:Nat):Int):=by
 rw [rC oa,<- Int.ofNat_tmod]
theorem Ml (ls:be) (O:yP):(lsO ls O).map jt=O.map (hdI ls):=by unfold lsO;rw [nX];rfl
theorem Kv (ls:be) (O:yP) (i:Nat):lsO ls (wb ls O i)=(lsO ls O).take (mH ls O i)++[ls.getD i []]++(lsO ls O).drop (mH ls O i):=by
 unfold lsO wb
 rw [fv,fv,List.map_take,List.map_drop];rfl
section
variable {N:Nat}
theorem Kn {yL ls:be} {l:yP} {b c:Int} (hne:∀ x∈yL,0<x.length) (hl:0<l.length) (hlen:yL.length<=1000):∀ k f,k<=yL.length->k<f ->
  f9 N f yL l (k:Int) ls b c=some ((qA (yL.map jt) (jt l) k:Nat):Int):=by
 intro k
 induction k with
 | zero =>
  intro f _ hf
  obtain ⟨f,rfl⟩:∃ g,f=g+1:=⟨f-1,oa⟩
  rw [f9,bf oa,ak];rfl
 | succ k ih =>
  intro f hk hf
  obtain ⟨f,rfl⟩:∃ g,f=g+1:=⟨f-1,oa⟩
  have hk':k<yL.length:=by omega
  rw [f9,ba oa,ah,dO oa oa,bs,show (((k+1:Nat):Int)-1)=(k:Int) by omega,bc hk',bs,ixH (hne _ (bC hk')),bs,ixH hl,bs,bs,qA]
  have e:(yL.map jt).getD k 0=jt yL[k]:=by simp [hk']
  rw [e]
  by_cases h:jt l<jt yL[k]
  ·rw [ba h,ah,aZ h,ih f oa oa]
  ·rw [bf h,ak,bb h]
theorem J2 (hN:1073741824<=N) {ls:be} (hne:∀ x∈ls,0<x.length) (hlen:ls.length<=1000):c5 N N [] ls (ls.length:Int) 0=some (lsO ls (ez ls ls.length),(ls.length:Int)) :=
 dU (fun k (o:be) i=>c5 N k o ls (ls.length:Int) i) ls.length (fun i=>lsO ls (ez ls i)) (lsO ls (ez ls ls.length),(ls.length:Int))
  (fun k i h=>by
   have ho:=rk ls i
   have hol:(lsO ls (ez ls i)).length=i:=by unfold lsO;rw [cB,ho.len]
   have hp:=B5 ls (ez ls i) i
   rw [ho.len] at hp
   have hne':∀ x∈lsO ls (ez ls i),0<x.length:=fun x hx=>by
    obtain ⟨j,hj,rfl⟩:=fm.1 hx
    have:=ho.bd j hj
    exact hne _ (jz oa)
   have e:qA ((lsO ls (ez ls i)).map jt) (jt ls[i]) (lsO ls (ez ls i)).length=mH ls (ez ls i) i:=by
    unfold mH hdI
    rw [Ml,hol,ho.len,show ((i:Nat):Int).toNat=i from rfl,iY h];rfl
   show c5 N (k+1) (lsO ls (ez ls i)) ls (ls.length:Int) (i:Int)=c5 N k (lsO ls (ez ls (i+1))) ls (ls.length:Int) ((i+1:Nat):Int)
   rw [c5,dlt h,ah,bc h,bs,Kn hne' (hne _ (bC h)) oa _ N (bY _) oa,bs,lpB,e,BT oa,bs,lm oa (bY _),bs,dx,bt (by decide) (by simp;omega),bs,bt (by decide) (by simp;omega),bs,bt (by decide) (by simp;omega),bs,ad1 oa,bs,xz,Kv,iY h]
   rfl)
  (fun k=>by
   show c5 N (k+1) (lsO ls (ez ls ls.length)) ls (ls.length:Int) (ls.length:Int)=_
   rw [c5,dge oa,ak]) N 0 oa oa
theorem J4 {ls:be} {O:yP} {i:Nat} (hi:i<ls.length) (hO:∀ j∈O,0<=j/\j<ls.length) (hne:∀ x∈ls,0<x.length) (hlen:O.length<=1000):∀ k f,k<=O.length->k<f ->
  j9 N f ls O (i:Int) (k:Int)=some ((qA (O.map (hdI ls)) (hdI ls (i:Int)) k:Nat):Int):=by
 intro k
 induction k with
 | zero =>
  intro f _ hf
  obtain ⟨f,rfl⟩:∃ g,f=g+1:=⟨f-1,oa⟩
  rw [j9,bf oa,ak];rfl
 | succ k ih =>
  intro f hk hf
  obtain ⟨f,rfl⟩:∃ g,f=g+1:=⟨f-1,oa⟩
  have hk':k<O.length:=by omega
  have hj:=hO _ (bC hk')
  have hji:O[k].toNat<ls.length:=by omega
  rw [j9,ba oa,ah,dO oa oa,bs,show (((k+1:Nat):Int)-1)=(k:Int) by omega,bc hk',bs,ixL hj,bs,ixH (hne _ (jz hji)),bs,ixR hi,bs,ixH (hne _ (jz hi)),bs,bs,qA]
  have e:(O.map (hdI ls)).getD k 0=jt (ls.getD O[k].toNat []):=by simp [hk',hdI]
  rw [e]
  show (bif decide (jt (ls.getD i [])<jt (ls.getD O[k].toNat [])) then _ else _)=some (((if jt (ls.getD i [])<jt (ls.getD O[k].toNat []) then _ else _:Nat)):Int)
  by_cases h:jt (ls.getD i [])<jt (ls.getD O[k].toNat [])
  ·rw [ba h,ah,aZ h,ih f oa oa]
  ·rw [bf h,ak,bb h]
theorem Ex (hN:1073741824<=N) {ls:be} (hne:∀ x∈ls,0<x.length) (hlen:ls.length<=1000):nV N ls=some (ez ls ls.length):=by
 have h:=dU (fun k (o:yP) i=>f8 N k ls o i) ls.length (fun i=>ez ls i) (ez ls ls.length,(ls.length:Int))
  (fun k i h=>by
   have ho:=rk ls i
   have hp:=B5 ls (ez ls i) i
   rw [ho.len] at hp
   have hlo:=ho.len
   show f8 N (k+1) ls (ez ls i) (i:Int)=f8 N k ls (ez ls (i+1)) ((i+1:Nat):Int)
   rw [f8,dlt h,ah,J4 h (fun j hj=>by have:=ho.bd j hj;omega) hne oa _ N (bY _) oa,bs,lpB]
   show (slc (ez ls i) 0 ((mH ls (ez ls i) i:Nat):Int)).bind _=_
   rw [BT oa,bs]
   show (slc (ez ls i) ((mH ls (ez ls i) i:Nat):Int) _).bind _=_
   rw [lm oa (bY _),bs,dx,bt (by decide) (by simp;omega),bs,bt (by decide) (by simp;omega),bs,bt (by decide) (by simp;omega),bs,ad1 oa,bs,xz]
   rfl)
  (fun k=>by
   show f8 N (k+1) ls (ez ls ls.length) (ls.length:Int)=_
   rw [f8,dge oa,ak]) N 0 oa oa
 have h':f8 N N ls [] 0=_:=h
 unfold nV
 rw [h',bs,lpB]
theorem yZ (hN:1073741824<=N) {l:yP} {a:Nat} {v:Int} (ha:a<=l.length) (hl:l.length<=1048576):lD N l (a:Int) v=some ((gz l a v:Nat):Int):=by
 have key:∀ k i,i<=l.length->l.length-i<k->lf N k l v (i:Int)=some (if gz l i v<l.length then .inl ((gz l i v:Nat):Int) else .inr (l.length:Int)):=by
  intro k
  induction k with
  | zero=>intro i _ h;omega
  | succ k ih =>
   intro i h1 h2
   rw [lf]
   by_cases h:i<l.length
   ·rw [dlt h,ah,bc h,bs]
    have e:gz l i v=if l[i]<v then gz l (i+1) v else i:=by
     unfold gz
     rw [gH h,pg]
     by_cases hv:l[i]<v
     ·rw [aZ (by simpa using hv),aZ hv,bW];omega
     ·rw [bb (by simpa using hv),bb hv];rfl
    by_cases hv:v<=l[i]
    ·have e2:gz l i v=i:=by rw [e,bb oa]
     rw [ba hv,ah,e2,aZ h]
    ·have e2:gz l i v=gz l (i+1) v:=by rw [e,aZ oa]
     rw [bf hv,ak,ad1 oa,bs,ih (i+1) oa oa,e2]
   ·rw [dge h,ak]
    have hi:i=l.length:=by omega
    have e:gz l i v=l.length:=by unfold gz;rw [ll oa,hi];rfl
    rw [e,bb oa,hi]
 unfold lD
 have hm:imx 0 (a:Int)=(a:Int):=by unfold imx;split <;> omega
 rw [hm,key N a ha oa,bs]
 have hle:=zy (v:=v) ha
 by_cases h:gz l a v<l.length
 ·rw [aZ h,ou]
 ·rw [bb h,kt,show gz l a v=l.length by omega]
theorem yY (hN:1073741824<=N) {l:yP} {a:Nat} {v:Int} (ha:a<=l.length) (hl:l.length<=1048576):nh N l (a:Int) v=some ((gz l a v:Nat):Int):=by
 have h:=xj (fun k i=>gk N k l v i) l (fun x=>decide (x<v))
  (fun k i h=>by
   show gk N (k+1) l v (i:Int)=_
   rw [gk,dlt h,ah,bc h,bs,ad1 oa,bs])
  (fun k=>by
   show gk N (k+1) l v (l.length:Int)=_
   rw [gk,dge oa,ak]) N a ha oa
 have hm:imx 0 (a:Int)=(a:Int):=by unfold imx;split <;> omega
 have hle:=zy (v:=v) ha
 have h':gk N N l v (a:Int)=some ((gz l a v:Nat):Int):=h
 unfold nh
 rw [hm,h',bs,lpB]
 congr 1
 unfold imn imx
 (repeat' split) <;> omega
theorem uB (hN:1073741824<=N) {ls:be} (hl:ls.length<=1048576):j6 N ls=some (shT ls ls.length):=by
 have h:=dU (fun k (s:Int) i=>cU N k s ls (ls.length:Int) i) ls.length (fun i=>shT ls i) (shT ls ls.length,(ls.length:Int))
  (fun k i h=>by
   show cU N (k+1) (shT ls i) ls (ls.length:Int) (i:Int)=cU N k (shT ls (i+1)) ls (ls.length:Int) ((i+1:Nat):Int)
   rw [cU,dlt h,ah,bc h,bs,ad1 oa,bs,bs,wk]
   unfold shS
   rw [iY h]
   cases i with
   | zero=>rfl
   | succ i =>
    rw [show (((i+1:Nat):Int) == 0)=false by simp;omega,ak,show Nat.beq (i+1) 0=false from rfl,tB]
    cases decide ((ls[i+1].length:Int)<shT ls (i+1)) <;> rfl)
  (fun k=>by
   show cU N (k+1) (shT ls ls.length) ls (ls.length:Int) (ls.length:Int)=_
   rw [cU,dge oa,ak]) N 0 oa oa
 have h':cU N N 0 ls (ls.length:Int) 0=_:=h
 unfold j6
 rw [h',bs,lpB]
theorem uN (hN:1073741824<=N) {ls:be} (hl:ls.length<=1048576):jT N ls=some (shT ls ls.length):=by
 have h:=dU (fun k (s:Int) i=>cT N k ls s i) ls.length (fun i=>shT ls i) (shT ls ls.length,(ls.length:Int))
  (fun k i h=>by
   show cT N (k+1) ls (shT ls i) (i:Int)=cT N k ls (shT ls (i+1)) ((i+1:Nat):Int)
   rw [cT,dlt h,ah,bc h,bs,ad1 oa,bs,bs,bs,wk]
   unfold shS
   rw [iY h]
   cases i with
   | zero=>rfl
   | succ i =>
    rw [show (((i+1:Nat):Int) == 0)=false by simp;omega,ak,show Nat.beq (i+1) 0=false from rfl,tB]
    cases decide ((ls[i+1].length:Int)<shT ls (i+1)) <;> rfl)
  (fun k=>by
   show cT N (k+1) ls (shT ls ls.length) (ls.length:Int)=_
   rw [cT,dge oa,ak]) N 0 oa oa
 have h':cT N N ls 0 0=_:=h
 unfold jT
 rw [h',bs,lpB]
end
theorem Ft (Ls:be) (A:List Nat) (most:Int) (out:yP) (s:Nat):(lkO Ls A most out s).length<=out.length+1:=by
 unfold lkO;split
 ·simp
 ·omega
theorem HE (A:List Nat):(cz A).length=A.length:=by simp [cz]
theorem vw (a b:Nat):((a:Int) == (b:Int))=decide (a=b):=by
 by_cases h:a=b
 ·rw [ba h,h];simp
 ·rw [bf h];simp;omega
section
variable {N:Nat}
theorem MU (hN:1073741824<=N) {Ls:be} (hb:∀ l∈Ls,l.length<=1000000):∀ (m:Nat) (A:List Nat) (most:Int) (out:yP) (s k:Nat),LInv Ls A most out s->pf Ls A<m->m<=k->out.length+m<=1073741824->s+m<=1073741824 ->
  fb N k Ls (cz A) most out ((s+1:Nat):Int)=some ((jd Ls m A most out s).1,((jd Ls m A most out s).2:Int)):=by
 intro m
 induction m with
 | zero=>intro A most out s k _ h;omega
 | succ m ih =>
  intro A most out s k I h hmk h1 h2
  obtain ⟨k,rfl⟩:∃ g,k=g+1:=⟨k-1,oa⟩
  obtain ⟨hk,ha,hgt,hle,_,hstep⟩:=xq I
  have hkA:s % Ls.length<A.length:=by rw [I.len];exact hk
  have ha':lkP Ls A s<(lkL Ls s).length:=ha
  have hle':lkA Ls A most s<=(lkL Ls s).length:=hle
  have hlb:=hb _ (jz hk)
  have hlb':(lkL Ls s).length<=1000000:=hlb
  have hset:s % Ls.length<(A.set (s % Ls.length) (lkA Ls A most s)).length:=by rw [gF];exact hkA
  have hrec:¬ lkA Ls A most s=(lkL Ls s).length->fb N k Ls (cz (A.set (s % Ls.length) (lkA Ls A most s))) ((lkL Ls s).getD (lkA Ls A most s) 0) (lkO Ls A most out s) ((s+1+1:Nat):Int)=some ((jd Ls (m+1) A most out s).1,((jd Ls (m+1) A most out s).2:Int)):=fun hne=>by
   have hr:=wn Ls A (s % Ls.length) (lkA Ls A most s) hk I.len (by
    have h4:lkP Ls A s<lkA Ls A most s:=hgt
    show (lkL Ls s).length-lkA Ls A most s<(lkL Ls s).length-lkP Ls A s
    omega)
   have hol:=Ft Ls A most out s
   rw [ih _ _ _ (s+1) k (hstep hne) oa oa oa oa,jd,bb hne]
  have hend:lkA Ls A most s=(lkL Ls s).length->(jd Ls (m+1) A most out s)=(lkO Ls A most out s,s+1):=fun he=>by rw [jd,aZ he]
  rw [fb,dO oa oa,bs,show (((s+1:Nat):Int)-1)=(s:Int) by omega,LJ I.pos,bs,ixR hk,bs]
  show ((ix (cz A) ((s % Ls.length:Nat):Int)).bind fun x854=>(ix (lkL Ls s) x854).bind _)=_
  rw [wF hkA,bs]
  show ((ix (lkL Ls s) ((lkP Ls A s:Nat):Int)).bind _)=_
  rw [ixD ha',bs]
  by_cases e:(lkL Ls s).getD (lkP Ls A s) 0=most
  ·have eA:lkA Ls A most s=lkP Ls A s+1:=aZ e
   have eO:lkO Ls A most out s=out++[most]:=aZ e
   rw [show ((lkL Ls s).getD (lkP Ls A s) 0 == most)=true by rw [e];simp,ah,bt (by decide) (by simp;omega),bs,bs,ad1 (show A.getD (s % Ls.length) 0<1099511627776 by have:lkP Ls A s=A.getD (s % Ls.length) 0:=rfl;omega),bs,bs]
   show ((sto (cz A) ((s % Ls.length:Nat):Int) ((lkP Ls A s+1:Nat):Int)).bind _)=_
   rw [BH hkA,bs,<- eA,<- eO,wF hset,bs,zw hkA]
   show (bif (((lkA Ls A most s:Nat):Int) == ((lkL Ls s).length:Int)) then _ else _)=_
   rw [vw]
   by_cases he:lkA Ls A most s=(lkL Ls s).length
   ·rw [ba he,ah,hend he]
   ·rw [bf he,ak,bs]
    show ((ix (lkL Ls s) ((lkA Ls A most s:Nat):Int)).bind _)=_
    rw [ixD (show lkA Ls A most s<(lkL Ls s).length by omega),bs,ad1 oa,bs]
    exact hrec he
  ·have eA:lkA Ls A most s=gz (lkL Ls s) (lkP Ls A s) most:=bb e
   have eO:lkO Ls A most out s=out:=bb e
   rw [show ((lkL Ls s).getD (lkP Ls A s) 0 == most)=false by simpa using e,ak,bs]
   show ((lD N (lkL Ls s) ((lkP Ls A s:Nat):Int) most).bind _)=_
   rw [yZ hN oa oa,bs,bs,<- eA]
   show ((sto (cz A) ((s % Ls.length:Nat):Int) ((lkA Ls A most s:Nat):Int)).bind _)=_
   rw [BH hkA,bs,wF hset,bs,zw hkA]
   show (bif (((lkA Ls A most s:Nat):Int) == ((lkL Ls s).length:Int)) then _ else _)=_
   rw [vw]
   by_cases he:lkA Ls A most s=(lkL Ls s).length
   ·rw [ba he,ah,hend he,eO]
   ·rw [bf he,ak,bs]
    show ((ix (lkL Ls s) ((lkA Ls A most s:Nat):Int)).bind _)=_
    rw [ixD (show lkA Ls A most s<(lkL Ls s).length by omega),bs,ad1 oa,bs]
    have:=hrec he
    rw [eO] at this
    exact this
def atO (O:yP) (B:List Nat):List Nat:=O.map fun j=>B.getD j.toNat 0
theorem LF {O:yP} {B:List Nat} {k:Nat} (h:k<O.length):(atO O B).getD k 0=B.getD O[k].toNat 0:=by unfold atO;simp [h]
theorem Kp {O:yP} {B:List Nat} {k a n:Nat} (hn:O.Nodup) (hO:∀ j∈O,0<=j/\j<n) (hB:B.length=n) (h:k<O.length):atO O (B.set O[k].toNat a)=(atO O B).set k a:=by
 unfold atO
 refine pA (by simp) fun i h1 h2=>?_
 rw [cB] at h1
 rw [jC,List.getElem_set,jC]
 have hj:=hO _ (bC h)
 have hi:=hO _ (bC h1)
 by_cases e:k=i
 ·subst e
  rw [aZ rfl,zw oa]
 ·rw [bb e,B9]
  intro e2
  exact e (xc hn h h1 oa)
theorem ML (hN:1073741824<=N) {ls:be} {O:yP} (hO:OrdOk ls O ls.length) (hb:∀ l∈ls,l.length<=1000000):∀ (m:Nat) (B:List Nat) (most:Int) (out:yP) (s k:Nat),B.length=ls.length->LInv (lsO ls O) (atO O B) most out s->pf (lsO ls O) (atO O B)<m->m<=k->out.length+m<=1073741824->s+m<=1073741824 ->
  fc N k ls out O (cz B) ((s % (lsO ls O).length:Nat):Int) most (s:Int)=some ((jd (lsO ls O) m (atO O B) most out s).1,((jd (lsO ls O) m (atO O B) most out s).2:Int)):=by
 have hLO:(lsO ls O).length=O.length:=by unfold lsO;rw [cB]
 intro m
 induction m with
 | zero=>intro B most out s k _ _ h;omega
 | succ m ih =>
  intro B most out s k hB I h hmk h1 h2
  obtain ⟨k,rfl⟩:∃ g,k=g+1:=⟨k-1,oa⟩
  obtain ⟨hk,ha,hgt,hle,_,hstep⟩:=xq I
  have hkO:s % (lsO ls O).length<O.length:=by rw [<- hLO];exact hk
  have hj:=hO.bd _ (bC hkO)
  have hjB:O[s % (lsO ls O).length].toNat<B.length:=by omega
  have hjl:O[s % (lsO ls O).length].toNat<ls.length:=by omega
  have ej:(O[s % (lsO ls O).length]:Int)=((O[s % (lsO ls O).length].toNat:Nat):Int):=by omega
  have eL:ls.getD O[s % (lsO ls O).length].toNat []=lkL (lsO ls O) s:=(AC hkO).symm
  have eP:B.getD O[s % (lsO ls O).length].toNat 0=lkP (lsO ls O) (atO O B) s:=(LF hkO).symm
  have hkA:s % (lsO ls O).length<(atO O B).length:=by rw [I.len];exact hk
  have ha':lkP (lsO ls O) (atO O B) s<(lkL (lsO ls O) s).length:=ha
  have hle':lkA (lsO ls O) (atO O B) most s<=(lkL (lsO ls O) s).length:=hle
  have hlb':(lkL (lsO ls O) s).length<=1000000:=by rw [<- eL];exact hb _ (jz hjl)
  have hset:O[s % (lsO ls O).length].toNat<(B.set O[s % (lsO ls O).length].toNat (lkA (lsO ls O) (atO O B) most s)).length:=by rw [gF];exact hjB
  have eset:=Kp (a:=lkA (lsO ls O) (atO O B) most s) hO.nd hO.bd hB hkO
  have hmod:((s % (lsO ls O).length+1:Nat):Int).tmod (O.length:Int)=((s+1) % (lsO ls O).length:Nat):=by
   rw [<- hLO,<- Int.ofNat_tmod]
   congr 1
   rw [Nat.add_mod s 1]
   simp
  have hrec:¬ lkA (lsO ls O) (atO O B) most s=(lkL (lsO ls O) s).length->fc N k ls (lkO (lsO ls O) (atO O B) most out s) O (cz (B.set O[s % (lsO ls O).length].toNat (lkA (lsO ls O) (atO O B) most s))) (((s+1) % (lsO ls O).length:Nat):Int) ((lkL (lsO ls O) s).getD (lkA (lsO ls O) (atO O B) most s) 0) ((s+1:Nat):Int)=some ((jd (lsO ls O) (m+1) (atO O B) most out s).1,((jd (lsO ls O) (m+1) (atO O B) most out s).2:Int)):=fun hne=>by
   have hr:=wn (lsO ls O) (atO O B) (s % (lsO ls O).length) (lkA (lsO ls O) (atO O B) most s) hk I.len (by
    have h4:lkP (lsO ls O) (atO O B) s<lkA (lsO ls O) (atO O B) most s:=hgt
    show (lkL (lsO ls O) s).length-lkA (lsO ls O) (atO O B) most s<(lkL (lsO ls O) s).length-lkP (lsO ls O) (atO O B) s
    omega)
   have hol:=Ft (lsO ls O) (atO O B) most out s
   have hI:=hstep hne
   rw [ih (B.set O[s % (lsO ls O).length].toNat (lkA (lsO ls O) (atO O B) most s)) _ _ (s+1) k (by rw [gF];exact hB) (by rw [eset];exact hI) (by rw [eset];omega) oa oa oa,eset,jd,bb hne]
  have hend:lkA (lsO ls O) (atO O B) most s=(lkL (lsO ls O) s).length->(jd (lsO ls O) (m+1) (atO O B) most out s)=(lkO (lsO ls O) (atO O B) most out s,s+1):=fun he=>by rw [jd,aZ he]
  have hOp:0<O.length:=by omega
  have hms:s % (lsO ls O).length<=s:=Nat.mod_le _ _
  rw [fc,bc hkO,bs,ej,ixR hjl,bs,wF hjB,bs,eL,eP,ixD ha',bs,ad1 oa,bs]
  by_cases e:(lkL (lsO ls O) s).getD (lkP (lsO ls O) (atO O B) s) 0=most
  ·have eA:lkA (lsO ls O) (atO O B) most s=lkP (lsO ls O) (atO O B) s+1:=aZ e
   have eO:lkO (lsO ls O) (atO O B) most out s=out++[most]:=aZ e
   rw [e,show (most == most)=true by simp,ah,bt (by decide) (by simp;omega),bs,bs,ad1 oa,bs,bs,BH hjB,bs,<- eA,<- eO,wF hset,bs,zw hjB,bs,vw]
   by_cases he:lkA (lsO ls O) (atO O B) most s=(lkL (lsO ls O) s).length
   ·rw [ba he,ah,hend he]
   ·rw [bf he,ak,bs,bs,ixD (show lkA (lsO ls O) (atO O B) most s<(lkL (lsO ls O) s).length by omega),bs,ad1 oa,bs,rC oa,bs,hmod]
    exact hrec he
  ·have eA:lkA (lsO ls O) (atO O B) most s=gz (lkL (lsO ls O) s) (lkP (lsO ls O) (atO O B) s) most:=bb e
   have eO:lkO (lsO ls O) (atO O B) most out s=out:=bb e
   rw [show ((lkL (lsO ls O) s).getD (lkP (lsO ls O) (atO O B) s) 0 == most)=false by simpa using e,ak,bs,bs,yY hN oa oa,bs,bs,<- eA,BH hjB,bs,wF hset,bs,zw hjB,bs,vw]
   by_cases he:lkA (lsO ls O) (atO O B) most s=(lkL (lsO ls O) s).length
   ·rw [ba he,ah,hend he,eO]
   ·rw [bf he,ak,bs,bs,ixD (show lkA (lsO ls O) (atO O B) most s<(lkL (lsO ls O) s).length by omega),bs,ad1 oa,bs,rC oa,bs,hmod]
    have:=hrec he
    rw [eO] at this
    exact this
theorem Do (n:Nat):List.replicate n (0:Int)=cz (ij n):=by unfold cz ij;rw [List.map_replicate];rfl
theorem xX {O:yP} {n:Nat} (h:O.length=n):atO O (ij n)=ij n:=by
 unfold atO ij
 refine pA (by simp [h]) fun i h1 h2=>?_
 rw [jC,List.getElem_replicate]
 exact zj n _
theorem s5 (hN:1073741824<=N) {ls:be} (hl:ls.length<=1000) (hb:∀ l∈ls,l.length<=1000000):i6 N ls=some (oy ls):=by
 have hok:gg ls:=⟨oa,fun l h=>⟨by have:=hb l h;omega,fun _ _=>trivial⟩⟩
 unfold i6 oy
 rw [yT hN hok,bs]
 cases h1:nU ls with
 | false=>rfl
 | true =>
  rw [ah,uB hN oa,bs,cN]
  cases h2:(shT ls ls.length == 0) with
  | true=>rfl
  | false =>
   obtain ⟨I,hne⟩:=vY (ls:=ls) (by rw [h1,h2];rfl)
   have hpos:=I.pos
   have hlen:=ym ls
   have hrem:=uy (lsO ls (ez ls ls.length)) 1000000 ls.length fun l hl=>hb l (nu.1 hl)
   rw [hlen] at hrem
   have hmul:=ny 1000000 hl
   have h1p:0<((lsO ls (ez ls ls.length)).getD (ls.length-1) []).length:=hne _ (nu.1 (jz oa))
   rw [ak,rR,ah,J2 hN hne hl,bs,lpB]
   show ((mk 8 (0:Int) ((lsO ls (ez ls ls.length)).length:Int)).bind _)=_
   rw [hlen,wa (by decide) oa,bs,Do,dO oa oa,bs,show ((ls.length:Int)-1)=((ls.length-1:Nat):Int) by omega,ixR oa,bs,ixH h1p,bs]
   have:=MU hN (Ls:=lsO ls (ez ls ls.length)) (fun l h=>hb l (nu.1 h)) (pf (lsO ls (ez ls ls.length)) (ij ls.length)+1) (ij ls.length) _ [] 0 N I oa oa (by simp;omega) oa
   exact this
theorem sS (hN:1073741824<=N) {ls:be} (hl:ls.length<=1000) (hb:∀ l∈ls,l.length<=1000000):gV N ls=some (oy ls):=by
 have hok:gg ls:=⟨oa,fun l h=>⟨by have:=hb l h;omega,fun _ _=>trivial⟩⟩
 unfold gV oy
 rw [G1 hN hok,bs]
 cases h1:nU ls with
 | false=>rfl
 | true =>
  rw [ah,uN hN oa,bs,cN]
  cases h2:(shT ls ls.length == 0) with
  | true=>rfl
  | false =>
   obtain ⟨I,hne⟩:=vY (ls:=ls) (by rw [h1,h2];rfl)
   have hpos:=I.pos
   have hlen:=ym ls
   have ho:=rk ls ls.length
   have hol:=ho.len
   have hrem:=uy (lsO ls (ez ls ls.length)) 1000000 ls.length fun l hl=>hb l (nu.1 hl)
   rw [hlen] at hrem
   have hmul:=ny 1000000 hl
   have hlast:ls.length-1<(ez ls ls.length).length:=by omega
   have hj:=ho.bd _ (bC hlast)
   have eL:ls.getD (ez ls ls.length)[ls.length-1].toNat []=(lsO ls (ez ls ls.length)).getD (ls.length-1) []:=(AC hlast).symm
   have h1p:0<((lsO ls (ez ls ls.length)).getD (ls.length-1) []).length:=hne _ (nu.1 (jz oa))
   rw [ak,rR,ah,Ex hN hne hl,bs,wa (by decide) oa,bs,Do,hol,dO oa oa,bs,show ((ls.length:Int)-1)=((ls.length-1:Nat):Int) by omega,bc hlast,bs,ixL hj,bs,eL,ixH h1p,bs]
   have hI:LInv (lsO ls (ez ls ls.length)) (atO (ez ls ls.length) (ij ls.length)) (jt ((lsO ls (ez ls ls.length)).getD (ls.length-1) [])) [] 0:=by rw [xX hol];exact I
   have:=ML hN ho hb (pf (lsO ls (ez ls ls.length)) (ij ls.length)+1) (ij ls.length) _ [] 0 N (by simp [ij]) hI (by rw [xX hol];omega) oa (by simp;omega) oa
   rw [xX hol,Nat.zero_mod] at this
   exact this
end
theorem JR {A:List Nat} {k:Nat} (h:k<A.length):A.getD k 0=A[k]:=by simp [h]
def cH (yK:List bl) (i:Nat):bl:=yK.getD i (ByteArray.empty,[])
theorem kC {yK:List bl} {i:Nat} (h:i<yK.length):cH yK i=yK[i]:=by unfold cH;simp [h]
def oK (yK:List bl) (v:Int) (n:Nat):List Nat:=(List.range' 0 n).filter fun i=>decide (v∈(cH yK i).2)
def nf (yK:List bl) (v:Int):List Nat:=oK yK v yK.length
def ov (vs yL p:yP) (n:Nat):yP:=((List.range' 0 n).filter fun k=>decide (yL.getD k 0∈vs)).map fun k=>p.getD k 0
def pV (vs yL p:yP):yP:=ov vs yL p p.length
def atV (ts:List bA) (yL:yP) (yK:List bl) (p:yP) (i:Nat):yP :=
 mT (jR ts yL (cH yK i)).1 (jR ts yL (cH yK i)).2 (pV (cH yK i).2 yL p)
def mE (ts:List bA) (yL:yP) (yK:List bl) (p:yP):be:=(nf yK (yL.getD p.length 0)).map (atV ts yL yK p)
theorem Cv (yK:List bl) (v:Int) (n:Nat):oK yK v (n+1)=bif decide (v∈(cH yK n).2) then oK yK v n++[n] else oK yK v n:=by
 unfold oK
 rw [pn,vi]
 simp only [fh,nz,rU,List.filter_nil]
 cases decide (v∈(cH yK n).2) <;> simp
theorem v8 (yK:List bl) (v:Int) (n:Nat):(oK yK v n).length<=n:=by
 unfold oK
 refine Nat.le_trans (rT _ _) ?_
 simp
theorem Ah {yK:List bl} {v:Int} {i:Nat}:i∈nf yK v↔i<yK.length/\v∈(cH yK i).2:=by
 unfold nf oK
 rw [mF,dN]
 simp
theorem sj (vs yL p:yP) (n:Nat):ov vs yL p (n+1)=bif decide (yL.getD n 0∈vs) then ov vs yL p n++[p.getD n 0] else ov vs yL p n:=by
 unfold ov
 rw [pn,vi,fv]
 simp only [fh,nz,rU,List.filter_nil]
 cases decide (yL.getD n 0∈vs) <;> simp
theorem El (vs yL p:yP) (n:Nat):(ov vs yL p n).length<=n:=by
 unfold ov
 rw [cB]
 refine Nat.le_trans (rT _ _) ?_
 simp
theorem CG {ts:List bA} {yL:yP} {yK:List bl} {i:Nat} (h:i<yK.length):ix (bJ ts yL yK) (i:Int)=some (jR ts yL (cH yK i)):=by
 rw [bc (by rw [sX];exact h)]
 unfold bJ
 rw [jC,kC h]
theorem mI {yK:List bl} {i:Nat} (h:i<yK.length):cH yK i∈yK:=by rw [kC h];exact bC h
theorem Ck {yK:List bl} (ha:c6 yK) {i:Nat} (h:i<yK.length):okI (cH yK i).2:=by rw [kC h];exact nN ha h
theorem DF {yK:List bl} {i:Nat} (h:i<yK.length):ix yK (i:Int)=some (cH yK i):=by rw [bc h,kC h]
theorem vL (ts:List bA) (yL:yP) (yK:List bl) (p:yP):(mE ts yL yK p).length<=yK.length:=by
 unfold mE;rw [cB];exact v8 _ _ _
theorem sh {ts:List bA} {n:Nat} {yK:List bl} {yL p:yP} (q:QFor ts n yK yL):∀ l∈mE ts yL yK p,l.length<=16/\mS l/\∀ v∈l,0<=v/\v<=99:=by
 intro l hl
 obtain ⟨i,hi,rfl⟩:=fm.1 hl
 have hm:=mI (Ah.1 hi).1
 obtain ⟨_,_,g3,g4,_⟩:=nK q hm
 unfold atV
 exact ⟨Nat.le_trans (Cf _ _ _) g4,HI g3,FT g3⟩
section
variable {N:Nat}
theorem L3 (hN:1073741824<=N) {t1:List uu} {yL p vs:yP} {s:ByteArray} {b1:be} {b2 b5 b6:Int} {b4:List bl} (hv:okI vs) (hp:p.length<=1000) (ho:p.length<=yL.length) :
  eI N N t1 yL p b1 b2 s vs [] b4 b5 b6 p (p.length:Int) 0=some (pV vs yL p,(p.length:Int)) :=
 dU (fun k (o:yP) i=>eI N k t1 yL p b1 b2 s vs o b4 b5 b6 p (p.length:Int) i) p.length (ov vs yL p) (pV vs yL p,(p.length:Int))
  (fun k i h=>by
   have hl:=El vs yL p i
   show eI N (k+1) t1 yL p b1 b2 s vs (ov vs yL p i) b4 b5 b6 p (p.length:Int) (i:Int)=eI N k t1 yL p b1 b2 s vs (ov vs yL p (i+1)) b4 b5 b6 p (p.length:Int) ((i+1:Nat):Int)
   rw [eI,dlt h,ah,ixD h,bs,ixD (show i<yL.length by omega),bs,lP hN hv,bs,ad1 oa,sj]
   cases decide (yL.getD i 0∈vs) with
   | true=>rw [ah,ah,bt (by decide) (by simp;omega),bs,bs]
   | false=>rw [ak,ak,bs])
  (fun k=>by
   show eI N (k+1) t1 yL p b1 b2 s vs (ov vs yL p p.length) b4 b5 b6 p (p.length:Int) (p.length:Int)=_
   rw [eI,dge oa,ak];rfl) N 0 oa oa
theorem Ds (hN:1073741824<=N) {ts:List bA} {n:Nat} {m:Int} {yK:List bl} {out yL p:yP} (q:QFor ts n yK yL) (ha:c6 yK) (hp:p.length<n) :
  nB N m yK out (bJ ts yL yK) yL p=some (mE ts yL yK p):=by
 have hn5:=q.n5
 have hol:=q.ol
 have h4:=q.a4
 have h:=dU (fun k (o:be) i=>eQ N k (bJ ts yL yK) yL p o yK (yK.length:Int) i) yK.length (fun i=>(oK yK (yL.getD p.length 0) i).map (atV ts yL yK p)) (mE ts yL yK p,(yK.length:Int))
  (fun k i h=>by
   have hl:=v8 yK (yL.getD p.length 0) i
   have hm:=bC h
   obtain ⟨_,_,g3,_,_⟩:=nK q (mI h)
   show eQ N (k+1) (bJ ts yL yK) yL p ((oK yK (yL.getD p.length 0) i).map (atV ts yL yK p)) yK (yK.length:Int) (i:Int)=eQ N k (bJ ts yL yK) yL p ((oK yK (yL.getD p.length 0) (i+1)).map (atV ts yL yK p)) yK (yK.length:Int) ((i+1:Nat):Int)
   rw [eQ,dlt h,ah,DF h,bs,ixD (show p.length<yL.length by omega),bs,lP hN (Ck ha h),bs,ad1 oa,Cv]
   cases decide (yL.getD p.length 0∈(cH yK i).2) with
   | true =>
    rw [ah,ah,L3 hN (Ck ha h) oa oa,bs,lpB]
    show ((ix (bJ ts yL yK) (i:Int)).bind _)=_
    rw [CG h,bs,wq hN g3,bs,bt (by decide) (by rw [cB,bU];omega),bs,bs,fv];rfl
   | false=>rw [ak,ak,bs])
  (fun k=>by
   show eQ N (k+1) (bJ ts yL yK) yL p ((oK yK (yL.getD p.length 0) yK.length).map (atV ts yL yK p)) yK (yK.length:Int) (yK.length:Int)=_
   rw [eQ,dge oa,ak];rfl) N 0 oa oa
 have h':eQ N N (bJ ts yL yK) yL p [] yK (yK.length:Int) 0=_:=h
 unfold nB
 rw [h',bs,lpB]
theorem wx (hN:1073741824<=N) {n:Int} {yK:List bl} {out:yP} {v:Int} (ha:c6 yK) (ho:okI out) (hq:fD n yK out=true) :
  i9 N n yK out v=some (cz (nf yK v)):=by
 have h4:=(qp hq).2.2.2
 have h:=dU (fun k (o:yP) i=>cJ N k v n yK out o i) yK.length (fun i=>cz (oK yK v i)) (cz (nf yK v),(yK.length:Int))
  (fun k i h=>by
   have hl:=v8 yK v i
   have hcl:=HE (oK yK v i)
   show cJ N (k+1) v n yK out (cz (oK yK v i)) (i:Int)=cJ N k v n yK out (cz (oK yK v (i+1))) ((i+1:Nat):Int)
   rw [cJ,dlt h,ah,jH hN ha ho,bs,hq,ah,bc h,bs,ic hN (nN ha h),bs,ad1 oa,Cv,kC h]
   cases decide (v∈yK[i].2) with
   | true =>
    rw [ah,ah,bt (by decide) (by simp;omega),bs,bs]
    unfold cz
    rw [fv];rfl
   | false=>rw [ak,ak,bs])
  (fun k=>by
   show cJ N (k+1) v n yK out (cz (oK yK v yK.length)) (yK.length:Int)=_
   rw [cJ,dge oa,ak];rfl) N 0 oa oa
 have h':cJ N N v n yK out [] 0=_:=h
 unfold i9
 rw [h',bs,lpB]
theorem Ed (hN:1073741824<=N) {yL p vs:yP} {s:ByteArray} (hv:okI vs) (hp:p.length<=1000) (ho:p.length<=yL.length):lJ N s vs yL p=some (pV vs yL p):=by
 have h:=dU (fun k (o:yP) i=>eH N k yL p s vs o i) p.length (ov vs yL p) (pV vs yL p,(p.length:Int))
  (fun k i h=>by
   have hl:=El vs yL p i
   show eH N (k+1) yL p s vs (ov vs yL p i) (i:Int)=eH N k yL p s vs (ov vs yL p (i+1)) ((i+1:Nat):Int)
   rw [eH,dlt h,ah,ixD (show i<yL.length by omega),bs,ic hN hv,bs,ad1 oa,ixD h,sj]
   cases decide (yL.getD i 0∈vs) with
   | true=>rw [ah,ah,bs,bt (by decide) (by simp;omega),bs,bs]
   | false=>rw [ak,ak,bs])
  (fun k=>by
   show eH N (k+1) yL p s vs (ov vs yL p p.length) (p.length:Int)=_
   rw [eH,dge oa,ak];rfl) N 0 oa oa
 have h':eH N N yL p s vs [] 0=_:=h
 unfold lJ
 rw [h',bs,lpB]
theorem KH (hN:1073741824<=N) {ts:List bA} {n:Nat} {yK:List bl} {yL p:yP} (q:QFor ts n yK yL) (ha:c6 yK) (hp:p.length<n) {i:Nat} (h:i<yK.length) :
  lJ N (cH yK i).1 (cH yK i).2 yL p=some (pV (cH yK i).2 yL p)/\jP N (jR ts yL (cH yK i)).1 (jR ts yL (cH yK i)).2 (pV (cH yK i).2 yL p)=some (atV ts yL yK p i):=by
 have hn5:=q.n5
 have hol:=q.ol
 obtain ⟨_,_,g3,_,_⟩:=nK q (mI h)
 refine ⟨Ed hN ?_ oa oa,wh hN g3⟩
 rw [kC h];exact nN ha h
theorem sT {α β:Type} {xs:List α} {f:α->β} {i:Nat} (h:i<xs.length):(xs.take (i+1)).map f=(xs.take i).map f++[f xs[i]]:=by
 rw [gx h,fv];rfl
theorem A8 (hN:1073741824<=N) {ts:List bA} {n:Nat} {yK:List bl} {out yL p:yP} (q:QFor ts n yK yL) (ha:c6 yK) (ho:okI out) (hq:fD (n:Int) yK out=true) (hp:p.length<n) :
  nk N (bJ ts yL yK) (n:Int) yK out yL p=some (oy (mE ts yL yK p)):=by
 have hol:=q.ol
 have h4:=q.a4
 have hil:=v8 yK (yL.getD p.length 0) yK.length
 have hcl:=HE (nf yK (yL.getD p.length 0))
 have hil':(nf yK (yL.getD p.length 0)).length<=yK.length:=hil
 have h:=dU (fun k (o:be) i=>gC N k (bJ ts yL yK) yL p (n:Int) yK out (cz (nf yK (yL.getD p.length 0))) o i) (nf yK (yL.getD p.length 0)).length (fun i=>((nf yK (yL.getD p.length 0)).take i).map (atV ts yL yK p)) (mE ts yL yK p,((nf yK (yL.getD p.length 0)).length:Int))
  (fun k i h=>by
   have hc:=wF h
   rw [JR h] at hc
   have hi:=(Ah.1 (bC h)).1
   obtain ⟨o1,o2⟩:=KH hN q ha hp hi
   show gC N (k+1) (bJ ts yL yK) yL p (n:Int) yK out (cz (nf yK (yL.getD p.length 0))) (((nf yK (yL.getD p.length 0)).take i).map (atV ts yL yK p)) (i:Int)=gC N k (bJ ts yL yK) yL p (n:Int) yK out (cz (nf yK (yL.getD p.length 0))) (((nf yK (yL.getD p.length 0)).take (i+1)).map (atV ts yL yK p)) ((i+1:Nat):Int)
   rw [gC,hcl,dlt h,ah,hc,bs,CG hi,bs,bs,DF hi,bs,o1,bs,o2,bs,bt (by decide) (by rw [cB,cq,bU];omega),bs,ad1 oa,bs,sT h])
  (fun k=>by
   show gC N (k+1) (bJ ts yL yK) yL p (n:Int) yK out (cz (nf yK (yL.getD p.length 0))) (((nf yK (yL.getD p.length 0)).take (nf yK (yL.getD p.length 0)).length).map (atV ts yL yK p)) ((nf yK (yL.getD p.length 0)).length:Int)=_
   rw [gC,hcl,dge oa,ak,dx];rfl) N 0 oa oa
 have h':gC N N (bJ ts yL yK) yL p (n:Int) yK out (cz (nf yK (yL.getD p.length 0))) [] 0=_:=h
 have hll:=vL ts yL yK p
 unfold nk
 rw [ixD (show p.length<yL.length by omega),bs,wx hN ha ho hq,bs,h',bs,lpB]
 show ((gV N (mE ts yL yK p)).bind _)=_
 rw [sS hN oa (fun l hl=>by have:=(sh q l hl).1;omega),bs]
end
def bq (ts:List bA) (yL:yP) (yK:List bl):Nxt:=fun p=>oy (mE ts yL yK p)
theorem wL {xs:yP} (h:mS xs):xs.Nodup:=List.Pairwise.imp (fun {a b} (hab:a<b) (e:a=b)=>by omega) h
theorem Ho {ls:be} {xs:yP} (h:∀ l∈ls,l.length<=16/\mS l/\∀ v∈l,0<=v/\v<=99) (ha:mS xs) (hx:∀ x∈xs,∀ l∈ls,x∈l) (he:ls=[]->xs=[]):xs.length<=16/\∀ v∈xs,0<=v/\v<=99:=by
 cases ls with
 | nil=>rw [he rfl];simp
 | cons l ls =>
  obtain ⟨h1,_,h3⟩:=h l cZ
  refine ⟨Nat.le_trans (s8 xs l (wL ha) fun x hx'=>hx x hx' l cZ) h1,fun v hv=>h3 v (hx v hv l cZ)⟩
theorem GE:(oy []).1=[]:=rfl
theorem km {ts:List bA} {n:Nat} {yK:List bl} {yL:yP} (q:QFor ts n yK yL):NxtOk (bq ts yL yK):=by
 have h4:=q.a4
 have key:=fun p=>AS (ls:=mE ts yL yK p) (B:=16) fun l hl=>(sh q l hl).1
 have com:=fun p=>Ho (fun l hl=>sh q (p:=p) l hl) (key p).1 (key p).2.1 fun e=>by rw [e];exact GE
 have hll:=fun p=>vL ts yL yK p
 refine ⟨fun p=>(com p).1,fun p=>(key p).1,fun p=>(com p).2,fun p=>(key p).2.2.1,fun p=>?_⟩
 have h1:=(key p).2.2.2.1
 have h2:=hll p
 show (oy (mE ts yL yK p)).2<=1000
 omega
theorem uO {α β:Type} {xs:List α} {g:α->List β} {i:Nat} (h:i<xs.length):(xs.take (i+1)).flatMap g=(xs.take i).flatMap g++g xs[i]:=by
 rw [gx h,List.flatMap_append];simp
theorem Bg {α:Type} {xs:List α} {g:α->Int} {i:Nat} (h:i<xs.length):((xs.take (i+1)).map g).sum=((xs.take i).map g).sum+g xs[i]:=by
 rw [sT h,List.sum_append];simp
theorem En {f:Nxt} {rows:be} {i:Nat} (h:i<rows.length):nl f (rows.take (i+1))=nl f (rows.take i)+(f rows[i]).2:=Bg h
theorem xe (f:Nxt):∀ (m:Nat) (L:be) (c:Int),lw f (m+1) L c=((lw f m L c).1.flatMap (pd f),(lw f m L c).2+nl f (lw f m L c).1)
 | 0,_,_=>rfl
 | m+1,L,c=>by
  rw [lw,xe f m];rfl
theorem Ek:∀ {i:Nat},i<=5->qG i<=1000000000
 | 0,_=>by decide
 | 1,_=>by decide
 | 2,_=>by decide
 | 3,_=>by decide
 | 4,_=>by decide
 | 5,_=>by decide
section
variable {N:Nat}
theorem EH {xs:yP} (h:xs.length<=1048576):kQ N xs=some xs:=by
 unfold kQ
 rw [tj (by decide) oa,bs]
theorem C8 (hN:1073741824<=N) {t1:List uu} {yL out p vs:yP} {b1 b2 b3 b4 b5 b6:Int} {yK:List bl} {next rows:be} (hp:p.length<=1000) (hv:vs.length<=1000) (hn:next.length<=1073741824) :
  bG N N t1 yL b1 b2 yK out b3 b4 next p rows b5 b6 vs (vs.length:Int) 0=some (next++vs.map (fun v=>p++[v]),(vs.length:Int)):=by
 have h:=dU (fun k (o:be) i=>bG N k t1 yL b1 b2 yK out b3 b4 o p rows b5 b6 vs (vs.length:Int) i) vs.length (fun i=>next++(vs.take i).map (fun v=>p++[v])) (next++vs.map (fun v=>p++[v]),(vs.length:Int))
  (fun k i h=>by
   show bG N (k+1) t1 yL b1 b2 yK out b3 b4 (next++(vs.take i).map (fun v=>p++[v])) p rows b5 b6 vs (vs.length:Int) (i:Int)=bG N k t1 yL b1 b2 yK out b3 b4 (next++(vs.take (i+1)).map (fun v=>p++[v])) p rows b5 b6 vs (vs.length:Int) ((i+1:Nat):Int)
   rw [bG,dlt h,ah,bc h,bs,EH oa,bs,bt (by decide) (by simp;omega),bs,bt (by decide) (by rw [cj,cB,cq,bU];omega),bs,ad1 oa,bs,sT h,gr])
  (fun k=>by
   show bG N (k+1) t1 yL b1 b2 yK out b3 b4 (next++(vs.take vs.length).map (fun v=>p++[v])) p rows b5 b6 vs (vs.length:Int) (vs.length:Int)=_
   rw [bG,dge oa,ak,dx]) N 0 oa oa
 rw [xy,nZ,mx] at h
 exact h
theorem Eh (hN:1073741824<=N) {ts:List bA} {n:Nat} {m b1 b4 c:Int} {yK:List bl} {out yL:yP} (q:QFor ts n yK yL) (ha:c6 yK) {rows:be} {lv:Nat} (hlv:lv<n) (hrow:∀ r∈rows,r.length=lv) (hl:rows.length<=1048576) (hc:0<=c/\c<=1073741824) :
  bF N N (bJ ts yL yK) yL b1 m yK out c b4 [] rows (rows.length:Int) 0=some (c+nl (bq ts yL yK) rows,rows.flatMap (pd (bq ts yL yK)),(rows.length:Int)):=by
 have hf:=km q
 have hn5:=q.n5
 have h4:=q.a4
 have h:=dU (fun k (s:Int × be) i=>bF N k (bJ ts yL yK) yL b1 m yK out s.1 b4 s.2 rows (rows.length:Int) i) rows.length (fun i=>(c+nl (bq ts yL yK) (rows.take i),(rows.take i).flatMap (pd (bq ts yL yK)))) (c+nl (bq ts yL yK) rows,rows.flatMap (pd (bq ts yL yK)),(rows.length:Int))
  (fun k i h=>by
   have hr:=hrow _ (bC h)
   have hll:=vL ts yL yK rows[i]
   have hk:=hf.len rows[i];have h0:=hf.st0 rows[i];have h1:=hf.st1 rows[i]
   have hsb:=AW (g:=fun p=>((bq ts yL yK) p).2) hf.st0 hf.st1 (rows.take i)
   have hsb2:0<=nl (bq ts yL yK) (rows.take i)/\nl (bq ts yL yK) (rows.take i)<=(((rows.take i).length:Nat):Int)*1000:=hsb
   have hfl:=mN (Dv hf) (rows.take i)
   rw [cq] at hsb2 hfl
   show bF N (k+1) (bJ ts yL yK) yL b1 m yK out (c+nl (bq ts yL yK) (rows.take i)) b4 ((rows.take i).flatMap (pd (bq ts yL yK))) rows (rows.length:Int) (i:Int)=bF N k (bJ ts yL yK) yL b1 m yK out (c+nl (bq ts yL yK) (rows.take (i+1))) b4 ((rows.take (i+1)).flatMap (pd (bq ts yL yK))) rows (rows.length:Int) ((i+1:Nat):Int)
   rw [bF,dlt h,ah,bc h,bs,Ds hN q ha oa,bs,s5 hN oa (fun l hl=>by have:=(sh q l hl).1;omega),bs]
   show ((ad _ ((bq ts yL yK) rows[i]).2).bind fun x501=>(bG N N (bJ ts yL yK) yL b1 m yK out x501 b4 _ rows[i] rows (rows.length:Int) (i:Int) ((bq ts yL yK) rows[i]).1 (((bq ts yL yK) rows[i]).1.length:Int) 0).bind _)=_
   rw [cO oa oa,bs,C8 hN oa oa oa,bs,lpB,uO h,En h,<- Int.add_assoc,ad1 oa];rfl)
  (fun k=>by
   show bF N (k+1) (bJ ts yL yK) yL b1 m yK out (c+nl (bq ts yL yK) (rows.take rows.length)) b4 ((rows.take rows.length).flatMap (pd (bq ts yL yK))) rows (rows.length:Int) (rows.length:Int)=_
   rw [bF,dge oa,ak,dx]) N 0 oa oa
 have h':bF N N (bJ ts yL yK) yL b1 m yK out (c+0) b4 [] rows (rows.length:Int) 0=_:=h
 rw [sp] at h'
 exact h'
theorem Dg (hN:1073741824<=N) {ts:List bA} {n:Nat} {m:Int} {yK:List bl} {out yL:yP} (q:QFor ts n yK yL) (ha:c6 yK) {len:Nat} (hlen:len<=n) :
  eN N m yK out (bJ ts yL yK) yL (len:Int)=some ((bO (bq ts yL yK) len []).1,(bO (bq ts yL yK) len []).2,decide (((bO (bq ts yL yK) len []).1.length:Int)<=4000)):=by
 have hf:=km q
 have hn5:=q.n5
 have h:=dU (fun k (s:be × Int) i=>bN N k (bJ ts yL yK) yL (len:Int) m yK out s.1 s.2 i) len (fun i=>lw (bq ts yL yK) i [[]] 0) ((lw (bq ts yL yK) len [[]] 0).1,(lw (bq ts yL yK) len [[]] 0).2,(len:Int))
  (fun k i h=>by
   have hw:=vX (bq ts yL yK) i
   have hl:=ql hf i []
   have hs:=rj hf i []
   have hp:16 ^ i<=16 ^ 5:=nT (by decide) oa
   have hb:=Ek (show i<=5 by omega)
   show bN N (k+1) (bJ ts yL yK) yL (len:Int) m yK out (lw (bq ts yL yK) i [[]] 0).1 (lw (bq ts yL yK) i [[]] 0).2 (i:Int)=bN N k (bJ ts yL yK) yL (len:Int) m yK out (lw (bq ts yL yK) (i+1) [[]] 0).1 (lw (bq ts yL yK) (i+1) [[]] 0).2 ((i+1:Nat):Int)
   rw [xe,hw,bN,dlt h,ah,Eh hN q ha (show i<n by omega) (fun r hr=>by obtain ⟨s,e1,e⟩:=nH hr;rw [e1];exact e) oa oa,bs,lpB,ad1 oa];rfl)
  (fun k=>by
   show bN N (k+1) (bJ ts yL yK) yL (len:Int) m yK out (lw (bq ts yL yK) len [[]] 0).1 (lw (bq ts yL yK) len [[]] 0).2 (len:Int)=_
   rw [bN,dge oa,ak]) N 0 oa oa
 have h':bN N N (bJ ts yL yK) yL (len:Int) m yK out [[]] 0 0=_:=h
 unfold eN
 rw [h',vX,bs,lpB]
theorem FX {ts:List bA} {n:Nat} {yK:List bl} {out yL:yP} (q:QFor ts n yK yL) (ha:c6 yK) (ho:okI out) (hq:fD (n:Int) yK out=true) :
  ∀ (m:Nat) (M:Nat) (p:yP),p.length+m=n->1073741824+m+1<=M->fo M (bJ ts yL yK) (n:Int) yK out yL p=some (bO (bq ts yL yK) m p):=by
 have hf:=km q
 have hn5:=q.n5
 have hol:=q.ol
 intro m
 induction m with
 | zero =>
  intro M p hp hM
  obtain ⟨M,rfl⟩:∃ K,M=K+1:=⟨M-1,oa⟩
  rw [fo,show ((p.length:Int) == (yL.length:Int))=true by simp;omega,ah,tj (by decide) oa,bs];rfl
 | succ m ih =>
  intro M p hp hM
  obtain ⟨M,rfl⟩:∃ K,M=K+1:=⟨M-1,oa⟩
  have h0:=hf.st0 p;have h1:=hf.st1 p;have hk:=hf.len p
  rw [fo,show ((p.length:Int) == (yL.length:Int))=false by simp;omega,ak,A8 oa q ha ho hq oa,bs]
  show ((fT (fo M) M M (bJ ts yL yK) yL p (n:Int) yK out [] ((bq ts yL yK) p).1 ((bq ts yL yK) p).2 0).bind _)=_
  have h:=dU (fun k (s:be × Int) i=>fT (fo M) M k (bJ ts yL yK) yL p (n:Int) yK out s.1 ((bq ts yL yK) p).1 s.2 i) ((bq ts yL yK) p).1.length (fun i=>((((bq ts yL yK) p).1.take i).flatMap (fun v=>(bO (bq ts yL yK) m (p++[v])).1),((bq ts yL yK) p).2+((((bq ts yL yK) p).1.take i).map fun v=>(bO (bq ts yL yK) m (p++[v])).2).sum)) ((bO (bq ts yL yK) (m+1) p).1,(bO (bq ts yL yK) (m+1) p).2,(((bq ts yL yK) p).1.length:Int))
   (fun k i h=>by
    have hp16:16 ^ m<=16 ^ 5:=nT (by decide) oa
    have hw:=ql hf m (p++[((bq ts yL yK) p).1[i]])
    have hfl:=mN (g:=fun v=>(bO (bq ts yL yK) m (p++[v])).1) (fun v=>ql hf m _) (((bq ts yL yK) p).1.take i)
    have hst:=rj hf m (p++[((bq ts yL yK) p).1[i]])
    have hsb:=AW (g:=fun v=>(bO (bq ts yL yK) m (p++[v])).2) (fun v=>(rj hf m _).1) (fun v=>(rj hf m _).2) (((bq ts yL yK) p).1.take i)
    have hb:=Ek (show m<=5 by omega)
    have hb0:=Cc m
    rw [cq] at hfl hsb
    have hmul:=q8 (show min i ((bq ts yL yK) p).1.length<=16 by omega) hp16
    have hmul2:((min i ((bq ts yL yK) p).1.length:Nat):Int)*qG m<=16*qG m:=Int.mul_le_mul_of_nonneg_right oa hb0
    show fT (fo M) M (k+1) (bJ ts yL yK) yL p (n:Int) yK out ((((bq ts yL yK) p).1.take i).flatMap (fun v=>(bO (bq ts yL yK) m (p++[v])).1)) ((bq ts yL yK) p).1 (((bq ts yL yK) p).2+((((bq ts yL yK) p).1.take i).map fun v=>(bO (bq ts yL yK) m (p++[v])).2).sum) (i:Int)=fT (fo M) M k (bJ ts yL yK) yL p (n:Int) yK out ((((bq ts yL yK) p).1.take (i+1)).flatMap (fun v=>(bO (bq ts yL yK) m (p++[v])).1)) ((bq ts yL yK) p).1 (((bq ts yL yK) p).2+((((bq ts yL yK) p).1.take (i+1)).map fun v=>(bO (bq ts yL yK) m (p++[v])).2).sum) ((i+1:Nat):Int)
    rw [fT,dlt h,ah,bc h,bs,tj (by decide) oa,bs,bt (by decide) (by simp;omega),bs,ih M (p++[((bq ts yL yK) p).1[i]]) (by rw [cj,bU];omega) oa,bs,bt (by decide) oa,bs,cO oa oa,bs,ad1 oa,bs,uO h,Bg h,Int.add_assoc])
   (fun k=>by
    show fT (fo M) M (k+1) (bJ ts yL yK) yL p (n:Int) yK out ((((bq ts yL yK) p).1.take ((bq ts yL yK) p).1.length).flatMap (fun v=>(bO (bq ts yL yK) m (p++[v])).1)) ((bq ts yL yK) p).1 (((bq ts yL yK) p).2+((((bq ts yL yK) p).1.take ((bq ts yL yK) p).1.length).map fun v=>(bO (bq ts yL yK) m (p++[v])).2).sum) (((bq ts yL yK) p).1.length:Int)=_
    rw [fT,dge oa,ak,dx];rfl) M 0 oa oa
  have h':fT (fo M) M M (bJ ts yL yK) yL p (n:Int) yK out [] ((bq ts yL yK) p).1 (((bq ts yL yK) p).2+0) 0=_:=h
  rw [sp] at h'
  rw [h',bs,lpB]
end
theorem wt:∀ a b:List Nat,smN (a++b)=smN a+smN b
 | [],b=>by rw [List.nil_append];exact (fh _).symm
 | x :: a,b=>by
  have:=wt a b
  show x+smN (a++b)=x+smN a+smN b
  omega
theorem DD {α β:Type} (g:α->List β) (w:β->Nat):∀ L:List α,smN ((L.flatMap g).map w)=smN (L.map fun p=>smN ((g p).map w))
 | []=>rfl
 | p :: L=>by rw [ue,fv,wt,DD g w L];rfl
theorem FF {α:Type} (g h:α->Nat):∀ L:List α,smN (L.map fun p=>g p+h p)=smN (L.map g)+smN (L.map h)
 | []=>rfl
 | p :: L=>by
  have:=FF g h L
  show g p+h p+smN (L.map fun p=>g p+h p)=g p+smN (L.map g)+(h p+smN (L.map h))
  omega
theorem Gm {α:Type} {g h:α->Nat}:∀ {L:List α},(∀ x∈L,g x<=h x)->smN (L.map g)<=smN (L.map h)
 | [],_=>bY _
 | p :: L,hx=>by
  have h1:=Gm (L:=L) fun x hm=>hx x (dy _ hm)
  have h2:=hx p cZ
  show g p+smN (L.map g)<=h p+smN (L.map h)
  omega
theorem wC {α:Type} {g:α->Nat}:∀ {L:List α},(∀ x∈L,g x=0)->smN (L.map g)=0
 | [],_=>rfl
 | p :: L,hx=>by
  have h1:=wC (L:=L) fun x hm=>hx x (dy _ hm)
  have h2:=hx p cZ
  show g p+smN (L.map g)=0
  omega
theorem E5 {y:Int}:∀ {K:yP},K.Nodup->smN (K.map fun x=>if x=y then 1 else 0)<=1
 | [],_=>dB _
 | x :: K,hn=>by
  obtain ⟨n1,n2⟩:=lR.1 hn
  show (if x=y then 1 else 0)+smN (K.map fun x=>if x=y then 1 else 0)<=1
  by_cases h:x=y
  ·rw [aZ h,wC fun z hz=>bb fun e=>n1 (by rw [h,<- e];exact hz)]
   omega
  ·rw [bb h]
   have:=E5 (y:=y) n2
   omega
theorem AJ (r:yP) (rows:be) (p:yP):(fz (r :: rows) p).length=(if r.take p.length=p then 1 else 0)+(fz rows p).length:=by
 unfold fz
 rw [rU]
 by_cases h:r.take p.length=p
 ·rw [aZ (by simpa using h),aZ h,bW];omega
 ·rw [bb (by simpa using h),bb h];omega
theorem Cq {p K:yP} (hn:K.Nodup):∀ rows:be,smN (K.map fun x=>(fz rows (p++[x])).length)<=(fz rows p).length
 | []=>by
  rw [wC (g:=fun x=>(fz [] (p++[x])).length) fun x _=>rfl]
  exact dB _
 | r :: rows=>by
  have ih:=Cq (p:=p) hn rows
  rw [AJ]
  have e:(fun x=>(fz (r :: rows) (p++[x])).length)=fun x=>(if r.take (p++[x]).length=p++[x] then 1 else 0)+(fz rows (p++[x])).length:=funext fun x=>AJ r rows (p++[x])
  rw [e,FF]
  refine Nat.add_le_add ?_ ih
  have h1:∀ x,r.take (p++[x]).length=p++[x]->r.take p.length=p/\x=r.getD p.length 0:=by
   intro x h
   rw [cj] at h
   have h2:=bh (List.take p.length) h
   rw [List.take_take,w8,sI (by simp)] at h2
   ·refine ⟨h2,?_⟩
    have h3:=bh (fun l:yP=>l.getD p.length 0) h
    simp only [q7,bU] at h3
    rw [List.getElem?_take_of_lt oa] at h3
    simp at h3
    simp [h3]
   ·rfl
  by_cases hp:r.take p.length=p
  ·rw [aZ hp]
   refine Nat.le_trans (Gm fun x _=>?_) (E5 (y:=r.getD p.length 0) hn)
   by_cases h:r.take (p++[x]).length=p++[x]
   ·rw [aZ h,aZ (h1 x h).2];exact bY _
   ·rw [bb h];exact dB _
  ·rw [bb hp,wC fun x _=>bb fun h=>hp (h1 x h).1];exact bY _
theorem Mw {f:Nxt} {ι:Type} {cnt:ι->yP->Nat} {c:Nat->ι->Bool} {L:List ι} {d m:Nat} (hd:0<d) {Good:yP->Prop} {F:yP->Nat}
  (hg:∀ p,Good p->p.length<m->∀ x∈(f p).1,Good (p++[x]))
  (h1:∀ p,Good p->p.length<m->∀ i∈L,c p.length i=true->smN ((f p).1.map fun x=>cnt i (p++[x]))<=cnt i p)
  (h2:∀ p,Good p->p.length<m->∀ i∈L,c p.length i=false->∀ x∈(f p).1,cnt i (p++[x])<=cnt i p)
  (hc:∀ k,k<m->d<=(L.filter (c k)).length)
  (hF:∀ p,Good p->p.length=m->F p ^ d<=prN (L.map fun i=>cnt i p)):∀ (k:Nat) (p:yP),Good p->p.length+k=m->smN ((bO f k p).1.map F) ^ d<=prN (L.map fun i=>cnt i p)
 | 0,p,g,e=>by
  show (F p+0) ^ d<=_
  exact hF p g e
 | k+1,p,g,e=>by
  have hl:p.length<m:=by omega
  show smN (((f p).1.flatMap fun v=>(bO f k (p++[v])).1).map F) ^ d<=_
  rw [DD]
  have h:=Lj (c p.length) hd (hc p.length hl) (F:=fun x=>smN ((bO f k (p++[x])).1.map F)) (s:=fun i x=>cnt i (p++[x])) (r:=fun i=>cnt i p) (K:=(f p).1)
   (fun x hx=>Mw hd hg h1 h2 hc hF k (p++[x]) (hg p g hl x hx) (by rw [cj,bU];omega))
   (fun i hi hci x hx=>h2 p g hl i hi hci x hx)
  refine Nat.le_trans h (Ay fun i hi=>?_)
  cases hci:c p.length i with
  | true=>exact h1 p g hl i hi hci
  | false=>exact bY _
def mg (ts:List bA) (yL:yP) (yK:List bl) (i:Nat) (p:yP):Nat:=(fz (jR ts yL (cH yK i)).2 (pV (cH yK i).2 yL p)).length
def tH (yL:yP) (yK:List bl) (k i:Nat):Bool:=decide (yL.getD k 0∈(cH yK i).2)
structure Cov (yK:List bl) (n:Nat) (L:List Nat) (d:Nat):Prop where
 d0:0<d
 lt:∀ i∈L,i<yK.length
 cov:∀ v:Int,0<=v->v<n->d<=(L.filter fun i=>decide (v∈(cH yK i).2)).length
section
variable {ts:List bA} {n d:Nat} {yK:List bl} {yL:yP} {L:List Nat}
theorem Aw {vs p:yP} {x:Int}:pV vs yL (p++[x])=bif decide (yL.getD p.length 0∈vs) then pV vs yL p++[x] else pV vs yL p:=by
 unfold pV
 have e:∀ l,l<=p.length->ov vs yL (p++[x]) l=ov vs yL p l:=by
  intro l
  induction l with
  | zero=>intro _;rfl
  | succ l ih =>
   intro hl
   rw [sj,sj,ih oa,bR (xs:=p++[x]) (by rw [cj];omega),bR (xs:=p) oa,List.getElem_append_left oa]
 rw [cj,bU,sj,e _ (bY _),bR (xs:=p++[x]) (by rw [cj,bU];omega),List.getElem_append_right (bY _)]
 simp
def wd (ts:List bA) (yL:yP) (yK:List bl) (L:List Nat) (p:yP):Prop:=∀ i∈L,1<=mg ts yL yK i p
theorem KJ (q:QFor ts n yK yL) (C:Cov yK n L d) {k:Nat} (hk:k<n):d<=(L.filter (tH yL yK k)).length:=by
 have hol:=q.ol
 have hb:=(oi q.os).2 (yL.getD k 0) (by rw [bR oa];exact bC _)
 exact C.cov _ oa oa
theorem JL (q:QFor ts n yK yL) {p:yP} (hp:p.length<n) {i:Nat} (hi:i<yK.length) (h:tH yL yK p.length i=true):atV ts yL yK p i∈mE ts yL yK p:=by
 unfold mE tH at *
 rw [dN] at h
 exact fm.2 ⟨i,Ah.2 ⟨hi,h⟩,rfl⟩
theorem zm (q:QFor ts n yK yL) {p:yP} (hp:p.length<n) {i:Nat} (hi:i<yK.length) (h:tH yL yK p.length i=true) {x:Int} (hx:x∈(bq ts yL yK p).1):x∈atV ts yL yK p i :=
 (AS (ls:=mE ts yL yK p) (B:=16) fun l hl=>(sh q l hl).1).2.1 x hx _ (JL q hp hi h)
theorem HN (q:QFor ts n yK yL) (C:Cov yK n L d) {p:yP} (g:wd ts yL yK L p) (hp:p.length<n) {x:Int} (hx:x∈(bq ts yL yK p).1):wd ts yL yK L (p++[x]):=by
 intro i hi
 have hil:=C.lt i hi
 unfold mg
 rw [Aw]
 cases h:decide (yL.getD p.length 0∈(cH yK i).2) with
 | false=>exact g i hi
 | true =>
  rw [ah]
  have hk:=zm q hp hil h hx
  unfold atV mT at hk
  split at hk
  ·rename_i hlt
   obtain ⟨r,hr,e1,e2⟩:=uz.1 hk
   refine xu (a:=r) ?_
   unfold fz
   rw [mF,dN]
   refine ⟨hr,?_⟩
   obtain ⟨_,_,h3,_⟩:=nK q (mI hil)
   obtain ⟨_,_,_,h4⟩:=cD h3
   obtain ⟨j,hj,rfl⟩:=ip hr
   have hrl:=(h4 j hj).1
   rw [cj,bU,gx oa,e1,e2,bR oa]
  ·cases hk
theorem Io {f:Nxt}:∀ {k:Nat} {p r:yP},r∈(bO f k p).1->r.length=p.length+k:=by
 intro k p r h
 obtain ⟨s,rfl,hs⟩:=nH h
 rw [cj,hs]
theorem Iq (q:QFor ts n yK yL) (C:Cov yK n L d) (g0:wd ts yL yK L []) {m:Nat} (hm:m<=n) {F:yP->Nat} (hF:∀ p,wd ts yL yK L p->p.length=m->F p ^ d<=prN (L.map fun i=>mg ts yL yK i p)) :
  smN ((bO (bq ts yL yK) m []).1.map F) ^ d<=prN (L.map fun i=>mg ts yL yK i []):=by
 refine Mw (f:=bq ts yL yK) (cnt:=mg ts yL yK) (c:=tH yL yK) (m:=m) C.d0 (Good:=wd ts yL yK L) (fun p g hp x hx=>HN q C g oa hx) (fun p g hp i hi hc=>?_) (fun p g hp i hi hc x hx=>?_) (fun k hk=>KJ q C oa) hF m [] g0 (by simp)
 ·have e:(fun x=>mg ts yL yK i (p++[x]))=fun x=>(fz (jR ts yL (cH yK i)).2 (pV (cH yK i).2 yL p++[x])).length:=by
   funext x
   unfold mg
   unfold tH at hc
   rw [Aw,hc,ah]
  rw [e]
  exact Cq (wL ((km q).asc p)) _
 ·unfold mg
  unfold tH at hc
  rw [Aw,hc,ak]
  exact bY _
theorem Fv {ι:Type} {f:ι->Nat}:∀ {L:List ι},(∀ i∈L,1<=f i)->1<=prN (L.map f)
 | [],_=>bY _
 | i :: L,h=>Nat.mul_pos (h i cZ) (Fv fun j hj=>h j (dy _ hj))
theorem DK {α:Type}:∀ L:List α,smN (L.map fun _=>1)=L.length
 | []=>rfl
 | x :: L=>by
  have:=DK L
  show 1+smN (L.map fun _=>1)=L.length+1
  omega
theorem ET (q:QFor ts n yK yL) (C:Cov yK n L d) (g0:wd ts yL yK L []) {m:Nat} (hm:m<=n):(bO (bq ts yL yK) m []).1.length ^ d<=prN (L.map fun i=>mg ts yL yK i []):=by
 have h:=Iq q C g0 hm (F:=fun _=>1) fun p g _=>by
  rw [Nat.one_pow]
  exact Fv g
 rw [DK] at h
 exact h
end
abbrev dq:=List iI
abbrev fH:=List dq
def bQ (m:fH) (i:Nat):dq:=m.getD i []
def aY (r:dq) (j:Nat):iI:=r.getD j (0,0)
def cell (m:fH) (i j:Nat):iI:=aY (bQ m i) j
def Shp (n c:Nat) (m:fH):Prop:=m.length=n/\∀ i,i<n->(bQ m i).length=c
theorem ixM {m:fH} {i:Nat} (h:i<m.length):ix m (i:Int)=some (bQ m i):=by
 rw [bc h];unfold bQ;simp [h]
theorem lV {r:dq} {j:Nat} (h:j<r.length):ix r (j:Int)=some (aY r j):=by
 rw [bc h];unfold aY;simp [h]
theorem vQ {α:Type} {xs:List α} {i:Nat} {y:α} (h:i<xs.length):sto xs (i:Int) y=some (xs.set i y):=by
 rw [uR oa oa];rfl
theorem wH {m:fH} {i:Nat} {r:dq} (h:i<m.length) (a:Nat):bQ (m.set i r) a=if a=i then r else bQ m a:=by
 unfold bQ
 by_cases e:a=i
 ·subst e;rw [aZ rfl];simp [h]
 ·rw [bb e];simp [Bx (sF e)]
theorem rY {r:dq} {j:Nat} {v:iI} (h:j<r.length) (a:Nat):aY (r.set j v) a=if a=j then v else aY r a:=by
 unfold aY
 by_cases e:a=j
 ·subst e;rw [aZ rfl];simp [h]
 ·rw [bb e];simp [Bx (sF e)]
theorem Shp.set {n c:Nat} {m:fH} (h:Shp n c m) {i:Nat} (hi:i<n) {r:dq} (hr:r.length=c):Shp n c (m.set i r):=by
 refine ⟨by rw [gF];exact h.1,fun a ha=>?_⟩
 rw [wH (by rw [h.1];exact hi)]
 split
 ·exact hr
 ·exact h.2 a ha
section
variable {N:Nat}
theorem JD (hN:1073741824<=N) {n:Nat} (hn:n<=6) {p i:Nat} (hp:p<n) (hi:i<n) (hpi:p≠i) {f:iI}:∀ (c k yN:Nat) (m:fH) (is:Bool),k+c=n+1->c<yN->Shp n (n+1) m ->
  ∃ m' is' z,jJ N yN m (p:Int) (i:Int) f.1 f.2 is (k:Int)=some (m',is',z)/\Shp n (n+1) m'/\(is'=true->is=true/\(∀ a,a≠i->bQ m' a=bQ m a)/\(∀ j,j<k->cell m' i j=cell m i j) /\
   ∀ j,k<=j->j<=n->VR N (cell m' i j)/\rv (cell m' i j)=rv (cell m i j)-rv f*rv (cell m p j)):=by
 intro c
 induction c with
 | zero =>
  intro k yN m is hk hf hs
  obtain ⟨yN,rfl⟩:∃ k',yN=k'+1:=⟨yN-1,oa⟩
  rw [jJ,ixM (by rw [hs.1];exact hi),bs,hs.2 i hi,bf oa,ak]
  exact ⟨m,is,_,rfl,hs,fun h=>⟨h,fun _ _=>rfl,fun _ _=>rfl,fun j h1 h2=>by omega⟩⟩
 | succ c ih =>
  intro k yN m is hk hf hs
  obtain ⟨yN,rfl⟩:∃ k',yN=k'+1:=⟨yN-1,oa⟩
  have hli:=hs.2 i hi
  have hlp:=hs.2 p hp
  rw [jJ,ixM (by rw [hs.1];exact hi),bs,hli,ba oa,ah]
  cases is with
  | false =>
   rw [ak]
   exact ⟨m,false,_,rfl,hs,fun h=>by cases h⟩
  | true =>
   obtain ⟨r,ok,e1,h1⟩:=KN hN f (aY (bQ m p) k)
   obtain ⟨y,ok2,e2,h2⟩:=Nq hN (aY (bQ m i) k) r
   have hset:((bQ m i).set k y).length=n+1:=by rw [gF];exact hli
   have hs':=hs.set hi hset
   rw [ah,ixM (by rw [hs.1];exact hp),bs,lV oa,bs,e1,bs,bs,lV oa,bs,e2,bs]
   dsimp only
   cases ok with
   | false =>
    rw [ak,bs,lV oa,bs,vQ oa,bs,vQ (by rw [hs.1];exact hi),bs,cO oa oa,bs]
    obtain ⟨m',is',z,e3,h3,h4⟩:=ih (k+1) yN _ false oa oa hs'
    exact ⟨m',is',z,e3,h3,fun h=>absurd (h4 h).1 (by decide)⟩
   | true =>
    rw [ah,bs,lV oa,bs,vQ oa,bs,vQ (by rw [hs.1];exact hi),bs,cO oa oa,bs]
    obtain ⟨m',is',z,e3,h3,h4⟩:=ih (k+1) yN _ ok2 oa oa hs'
    refine ⟨m',is',z,e3,h3,fun h=>?_⟩
    obtain ⟨k1,k2,k3,k4⟩:=h4 h
    have hM:∀ a,bQ (m.set i ((bQ m i).set k y)) a=if a=i then (bQ m i).set k y else bQ m a:=wH (by rw [hs.1];exact hi)
    have hC:∀ j,cell (m.set i ((bQ m i).set k y)) i j=if j=k then y else cell m i j:=fun j=>by
     unfold cell
     rw [hM i,aZ rfl,rY oa]
    refine ⟨rfl,fun a ha=>?_,fun j hj=>?_,fun j hj hjn=>?_⟩
    ·rw [k2 a ha,hM a,bb ha]
    ·rw [k3 j oa,hC j,bb oa]
    ·by_cases e:j=k
     ·subst e
      rw [k3 j oa,hC j,aZ rfl]
      obtain ⟨g1,g2,g3,g4⟩:=h2 k1
      obtain ⟨_,_,_,g8⟩:=h1 rfl
      refine ⟨g3,?_⟩
      rw [g4,g8]
      rfl
     ·obtain ⟨g1,g2⟩:=k4 j oa hjn
      rw [hC j,bb e] at g2
      refine ⟨g1,?_⟩
      rw [g2]
      have:cell (m.set i ((bQ m i).set k y)) p j=cell m p j:=by
       unfold cell;rw [hM p,bb hpi]
      rw [this]
end
def cv (m:fH) (i j:Nat):Rat:=rv (cell m i j)
def eJ:Nat->(Nat->Rat)->Rat
 | 0,_=>0
 | n+1,g=>eJ n g+g n
theorem hQ {g h:Nat->Rat}:∀ {n:Nat},(∀ j,j<n->g j=h j)->eJ n g=eJ n h
 | 0,_=>rfl
 | n+1,e=>by
  have h1:=hQ (n:=n) fun j hj=>e j oa
  have h2:=e n oa
  unfold eJ
  rw [h1,h2]
theorem At {a b y:Nat->Rat} {F:Rat}:∀ n:Nat,eJ n (fun j=>(a j-F*b j)*y j)=eJ n (fun j=>a j*y j)-F*eJ n (fun j=>b j*y j)
 | 0=>by unfold eJ;grind
 | n+1=>by
  have:=At (a:=a) (b:=b) (y:=y) (F:=F) n
  unfold eJ
  grind
theorem zx {g:Nat->Rat} {p:Nat}:∀ {n:Nat},p<n->(∀ j,j<n->j≠p->g j=0)->eJ n g=g p
 | 0,h,_=>by omega
 | n+1,h,e=>by
  unfold eJ
  by_cases hp:p=n
  ·subst hp
   have:eJ p g=eJ p (fun _=>0):=hQ fun j hj=>e j oa oa
   have z:∀ k:Nat,eJ k (fun _=>(0:Rat))=0:=fun k=>by
    induction k with
    | zero=>rfl
    | succ k ih=>unfold eJ;rw [ih];grind
   rw [this,z];grind
  ·rw [zx oa fun j hj=>e j oa,e n oa oa];grind
def vR (n:Nat) (m:fH) (y:Nat->Rat):Prop:=∀ i,i<n->eJ n (fun j=>cv m i j*y j)=cv m i n
def AU (n p:Nat) (m:fH):Prop:=∀ i,i<n->∀ q,q<p->i≠q->cv m i q=0
section
variable {N:Nat}
theorem EV {r:iI} (h:r.1=0):rv r=0:=by
 unfold rv
 rw [h]
 have:((0:Int):Rat)=0:=rfl
 rw [this,pB,xR]
theorem J3 (hN:1073741824<=N) {n:Nat} (hn:n<=6) {p:Nat} (hp:p<n):∀ (c i yN:Nat) (m:fH),i+c=n->c<yN->Shp n (n+1) m ->
  ∃ s,hX N yN m (p:Int) (i:Int)=some s/\((∃ m',s=.inl (false,m')/\Shp n (n+1) m')\/∃ m' z,s=.inr (m',z)/\Shp n (n+1) m'/\bQ m' p=bQ m p/\(∀ a,a<i->bQ m' a=bQ m a) /\
   ∀ a,i<=a->a<n->a≠p->∃ F:Rat,(∀ j,j<p->cv m' a j=cv m a j)/\(∀ j,p<=j->j<=n->cv m' a j=cv m a j-F*cv m p j)/\cv m' a p=0):=by
 intro c
 induction c with
 | zero =>
  intro i yN m hi hf hs
  obtain ⟨yN,rfl⟩:∃ k',yN=k'+1:=⟨yN-1,oa⟩
  rw [hX,hs.1,bf oa,ak]
  exact ⟨_,rfl,.inr ⟨m,_,rfl,hs,rfl,fun _ _=>rfl,fun a h1 h2=>by omega⟩⟩
 | succ c ih =>
  intro i yN m hi hf hs
  obtain ⟨yN,rfl⟩:∃ k',yN=k'+1:=⟨yN-1,oa⟩
  have hin:i<n:=by omega
  have hli:=hs.2 i hin
  have hlp:=hs.2 p hp
  rw [hX,hs.1,ba oa,ah]
  by_cases e:i=p
  ·rw [show ((i:Int) == (p:Int))=true by rw [rX];omega,ah,cO oa oa,bs]
   obtain ⟨s,e1,h1⟩:=ih (i+1) yN m oa oa hs
   refine ⟨s,e1,h1.imp id ?_⟩
   rintro ⟨m',z,k1,k2,k3,k4,k5⟩
   exact ⟨m',z,k1,k2,k3,fun a ha=>k4 a oa,fun a h1 h2 h3=>k5 a oa h2 h3⟩
  ·rw [show ((i:Int) == (p:Int))=false by rw [tu];omega,ak,ixM (by rw [hs.1];exact hin),bs,lV oa,bs]
   by_cases h0:(aY (bQ m i) p).1=0
   ·rw [show ((aY (bQ m i) p).1 == 0)=true by rw [rX];exact h0,ah,cO oa oa,bs]
    obtain ⟨s,e1,h1⟩:=ih (i+1) yN m oa oa hs
    refine ⟨s,e1,h1.imp id ?_⟩
    rintro ⟨m',z,k1,k2,k3,k4,k5⟩
    refine ⟨m',z,k1,k2,k3,fun a ha=>k4 a oa,fun a h1 h2 h3=>?_⟩
    by_cases ea:a=i
    ·subst ea
     have hrow:=k4 a oa
     have hc:∀ j,cv m' a j=cv m a j:=fun j=>by unfold cv cell;rw [hrow]
     refine ⟨0,fun j _=>hc j,fun j _ _=>by rw [hc j];grind,?_⟩
     rw [hc p]
     exact EV h0
    ·exact k5 a oa h2 h3
   ·rw [show ((aY (bQ m i) p).1 == 0)=false by rw [tu];exact h0,ak,bs,lV oa,bs,ixM (by rw [hs.1];exact hp),bs,lV oa,bs]
    obtain ⟨f,ok,e2,h2⟩:=Md hN (aY (bQ m i) p) (aY (bQ m p) p)
    rw [e2,bs]
    dsimp only
    obtain ⟨m2,is2,z2,e3,hs2,h3⟩:=JD hN hn hp hin (fun h=>e h.symm) (f:=f) (n+1-p) p N m ok oa oa hs
    rw [e3,bs,lpB]
    cases is2 with
    | false =>
     rw [ak]
     exact ⟨_,rfl,.inl ⟨m2,rfl,hs2⟩⟩
    | true =>
     rw [ah,cO oa oa,bs]
     obtain ⟨g1,g2,g3,g4⟩:=h3 rfl
     obtain ⟨_,_,_,_,hf⟩:=h2 g1
     obtain ⟨s,e1,h1⟩:=ih (i+1) yN m2 oa oa hs2
     refine ⟨s,e1,h1.imp id ?_⟩
     rintro ⟨m',z,k1,k2,k3,k4,k5⟩
     have hpi:p≠i:=fun h=>e h.symm
     have hP:∀ j,cv m2 p j=cv m p j:=fun j=>by unfold cv cell;rw [g2 p hpi]
     refine ⟨m',z,k1,k2,k3.trans (g2 p hpi),fun a ha=>(k4 a oa).trans (g2 a oa),fun a h1 h2 h3=>?_⟩
     by_cases ea:a=i
     ·subst ea
      have hrow:=k4 a oa
      have hc:∀ j,cv m' a j=cv m2 a j:=fun j=>by unfold cv cell;rw [hrow]
      have hv:∀ j,p<=j->j<=n->cv m' a j=cv m a j-rv f*cv m p j:=fun j h4 h5=>by
       rw [hc j];exact (g4 j h4 h5).2
      refine ⟨rv f,fun j hj=>?_,hv,?_⟩
      ·rw [hc j];unfold cv;rw [g3 j hj]
      ·rw [hv p oa oa]
       have:rv f*cv m p p=cv m a p:=hf
       rw [this];grind
     ·obtain ⟨F,f1,f2,f3⟩:=k5 a oa h2 h3
      have hA:∀ j,cv m2 a j=cv m a j:=fun j=>by unfold cv cell;rw [g2 a ea]
      exact ⟨F,fun j hj=>by rw [f1 j hj,hA j],fun j h4 h5=>by rw [f2 j h4 h5,hA j,hP j],f3⟩
theorem Kk (hN:1073741824<=N) {n:Nat} (hn:n<=6) {p:Nat} (hp:p<n) {m:fH} (hs:Shp n (n+1) m) (hd:AU n p m) :
  ∃ ok m',oJ N m (p:Int)=some (ok,m')/\Shp n (n+1) m'/\(ok=true->AU n (p+1) m'/\∀ y,vR n m y↔vR n m' y):=by
 unfold oJ
 obtain ⟨s,e,h⟩:=J3 hN hn hp n 0 N m oa oa hs
 have e':hX N N m (p:Int) 0=some s:=e
 rw [e',bs]
 rcases h with ⟨m',rfl,h1⟩ | ⟨m',z,rfl,h1,h2,_,h3⟩
 ·rw [ou]
  exact ⟨_,_,rfl,h1,fun h=>by cases h⟩
 ·rw [kt]
  refine ⟨_,_,rfl,h1,fun _=>?_⟩
  have hP:∀ j,cv m' p j=cv m p j:=fun j=>by unfold cv cell;rw [h2]
  have hall:∀ a,a<n->a≠p->∃ F:Rat,(∀ j,j<=n->cv m' a j=cv m a j-F*cv m p j)/\cv m' a p=0:=by
   intro a ha hap
   obtain ⟨F,f1,f2,f3⟩:=h3 a oa ha hap
   refine ⟨F,fun j hj=>?_,f3⟩
   by_cases hjp:j<p
   ·rw [f1 j hjp,hd p hp j hjp oa];grind
   ·exact f2 j oa hj
  refine ⟨fun i hi q hq hiq=>?_,fun y=>⟨fun h i hi=>?_,fun h i hi=>?_⟩⟩
  ·by_cases e1:i=p
   ·subst e1
    rw [hP q]
    exact hd i hi q oa hiq
   ·obtain ⟨F,f1,f2⟩:=hall i hi e1
    by_cases e2:q=p
    ·subst e2;exact f2
    ·rw [f1 q oa,hd i hi q oa hiq,hd p hp q oa oa];grind
  ·by_cases e1:i=p
   ·subst e1
    rw [hP n,<- h i hi]
    exact hQ fun j _=>by rw [hP j]
   ·obtain ⟨F,f1,_⟩:=hall i hi e1
    rw [hQ (h:=fun j=>(cv m i j-F*cv m p j)*y j) fun j hj=>by rw [f1 j oa],At,h i hi,h p hp,f1 n oa]
  ·by_cases e1:i=p
   ·subst e1
    rw [<- hP n,<- h i hi]
    exact hQ fun j _=>by rw [hP j]
   ·obtain ⟨F,f1,_⟩:=hall i hi e1
    have h4:=h i hi
    have h5:=h p hp
    rw [hQ (h:=fun j=>(cv m i j-F*cv m p j)*y j) fun j hj=>by rw [f1 j oa],At,f1 n oa] at h4
    rw [hQ (h:=fun j=>cv m p j*y j) fun j _=>by rw [hP j],hP n] at h5
    grind
end
section
variable {N:Nat}
theorem Jf {n:Nat} (hn:n<=6) {p:Nat} (hp:p<n) {m:fH} (hs:Shp n (n+1) m):∀ (c k yN:Nat),k+c=n->c<yN->∃ q:Nat,ga N yN (n:Int) m (p:Int) (k:Int)=some (q:Int)/\k<=q/\q<=n:=by
 intro c
 induction c with
 | zero =>
  intro k yN hk hf
  obtain ⟨yN,rfl⟩:∃ k',yN=k'+1:=⟨yN-1,oa⟩
  rw [ga,bf oa,ak]
  exact ⟨k,rfl,bY k,oa⟩
 | succ c ih =>
  intro k yN hk hf
  obtain ⟨yN,rfl⟩:∃ k',yN=k'+1:=⟨yN-1,oa⟩
  rw [ga,ba oa,ah,ixM (by rw [hs.1];omega),bs,lV (by rw [hs.2 k oa];omega),bs]
  cases (aY (bQ m k) p).1 == 0 with
  | true =>
   rw [ah,cO oa oa,bs]
   obtain ⟨q,e,h1,h2⟩:=ih (k+1) yN oa oa
   exact ⟨q,e,oa,h2⟩
  | false =>
   rw [ak]
   exact ⟨k,rfl,bY k,oa⟩
theorem Kc (hN:1073741824<=N) {n:Nat} (hn:n<=6):∀ (c p yN:Nat) (m:fH),p+c=n->c<yN->Shp n (n+1) m->AU n p m ->
  ∃ s,fd N yN (n:Int) m (p:Int)=some s/\(s=.inl ([],false)\/∃ m' z,s=.inr (m',z)/\Shp n (n+1) m'/\AU n n m'/\∀ y,vR n m y↔vR n m' y):=by
 intro c
 induction c with
 | zero =>
  intro p yN m hpc hf hs hd
  obtain ⟨yN,rfl⟩:∃ k',yN=k'+1:=⟨yN-1,oa⟩
  obtain rfl:p=n:=by omega
  rw [fd,bf oa,ak]
  exact ⟨_,rfl,.inr ⟨m,_,rfl,hs,hd,fun _=>Iff.rfl⟩⟩
 | succ c ih =>
  intro p yN m hpc hf hs hd
  obtain ⟨yN,rfl⟩:∃ k',yN=k'+1:=⟨yN-1,oa⟩
  have hp:p<n:=by omega
  obtain ⟨k,e1,hk1,hk2⟩:=Jf (N:=N) hn hp hs (n-p) p N oa oa
  rw [fd,ba oa,ah,e1,bs,lpB]
  by_cases hkn:k=n
  ·rw [show ((k:Int) == (n:Int))=true by rw [rX];omega,ah]
   exact ⟨_,rfl,.inl rfl⟩
  ·have hk:k<n:=by omega
   have hml:=hs.1
   rw [show ((k:Int) == (n:Int))=false by rw [tu];omega,ak,ixM oa,bs,ixM oa,bs,bs,vQ oa,bs,vQ (by rw [gF];omega),bs]
   have hs1:Shp n (n+1) (m.set k (bQ m p)):=hs.set hk (hs.2 p hp)
   have hs2:Shp n (n+1) ((m.set k (bQ m p)).set p (bQ m k)):=hs1.set hp (hs.2 k hk)
   have hR:∀ a,bQ ((m.set k (bQ m p)).set p (bQ m k)) a=if a=p then bQ m k else if a=k then bQ m p else bQ m a:=fun a=>by
    rw [wH (by rw [gF];omega),wH oa]
   generalize (m.set k (bQ m p)).set p (bQ m k)=m2 at hs2 hR
   have hC:∀ a j,cv m2 a j=if a=p then cv m k j else if a=k then cv m p j else cv m a j:=fun a j=>by
    unfold cv cell
    rw [hR a]
    split
    ·rfl
    ·split <;> rfl
   have hd2:AU n p m2:=fun i hi q hq hiq=>by
    rw [hC i q]
    split
    ·exact hd k hk q hq oa
    ·split
     ·exact hd p hp q hq oa
     ·exact hd i hi q hq hiq
   have hsol:∀ y,vR n m y↔vR n m2 y:=fun y=>by
    have key:∀ a b,(∀ j,cv m2 a j=cv m b j)->(eJ n (fun j=>cv m2 a j*y j)=cv m2 a n↔eJ n (fun j=>cv m b j*y j)=cv m b n):=fun a b h=>by
     rw [h n,hQ (g:=fun j=>cv m2 a j*y j) (h:=fun j=>cv m b j*y j) fun j _=>by rw [h j]]
    have kp:=key p k fun j=>by rw [hC p j,aZ rfl]
    have kk:eJ n (fun j=>cv m2 k j*y j)=cv m2 k n↔eJ n (fun j=>cv m p j*y j)=cv m p n:=by
     by_cases e:k=p
     ·subst e;exact kp
     ·exact key k p fun j=>by rw [hC k j,bb e,aZ rfl]
    constructor
    ·intro h i hi
     by_cases e1:i=p
     ·subst e1;exact kp.2 (h k hk)
     ·by_cases e2:i=k
      ·subst e2;exact kk.2 (h p hp)
      ·exact (key i i fun j=>by rw [hC i j,bb e1,bb e2]).2 (h i hi)
    ·intro h i hi
     by_cases e1:i=p
     ·subst e1;exact kk.1 (h k hk)
     ·by_cases e2:i=k
      ·subst e2;exact kp.1 (h p hp)
      ·exact (key i i fun j=>by rw [hC i j,bb e1,bb e2]).1 (h i hi)
   obtain ⟨ok,m3,e3,hs3,h3⟩:=Kk hN hn hp hs2 hd2
   rw [e3,bs]
   dsimp only
   cases ok with
   | false =>
    rw [ak]
    exact ⟨_,rfl,.inl rfl⟩
   | true =>
    obtain ⟨h4,h5⟩:=h3 rfl
    rw [ah,cO oa oa,bs]
    obtain ⟨s,e6,h6⟩:=ih (p+1) yN m3 oa oa hs3 h4
    refine ⟨s,e6,h6.imp id ?_⟩
    rintro ⟨m',z,k1,k2,k3,k4⟩
    exact ⟨m',z,k1,k2,k3,fun y=>(hsol y).trans ((h5 y).trans (k4 y))⟩
theorem uA {o:dq} {v:iI} {j:Nat} (h:j<o.length):aY (o++[v]) j=aY o j:=by
 unfold aY;simp [uS h]
theorem s6 {o:dq} {v:iI}:aY (o++[v]) o.length=v:=by
 unfold aY;simp
theorem Lh (hN:1073741824<=N) {n:Nat} (hn:n<=6) {m:fH} (hs:Shp n (n+1) m):∀ (c p yN:Nat) (o:dq),p+c=n->c<yN->o.length=p ->
  ∃ s,eS N yN (n:Int) m o (p:Int)=some s/\(s=.inl ([],false)\/∃ o' z,s=.inr (o',z)/\o'.length=n/\(∀ j,j<p->aY o' j=aY o j) /\
   ∀ j,p<=j->j<n->VR N (aY o' j)/\cv m j j≠0/\rv (aY o' j)*cv m j j=cv m j n):=by
 intro c
 induction c with
 | zero =>
  intro p yN o hpc hf ho
  obtain ⟨yN,rfl⟩:∃ k',yN=k'+1:=⟨yN-1,oa⟩
  rw [eS,bf oa,ak]
  exact ⟨_,rfl,.inr ⟨o,_,rfl,oa,fun _ _=>rfl,fun j h1 h2=>by omega⟩⟩
 | succ c ih =>
  intro p yN o hpc hf ho
  obtain ⟨yN,rfl⟩:∃ k',yN=k'+1:=⟨yN-1,oa⟩
  have hp:p<n:=by omega
  have hlp:=hs.2 p hp
  obtain ⟨r,ok,e,h⟩:=Md hN (aY (bQ m p) n) (aY (bQ m p) p)
  rw [eS,ba oa,ah,ixM (by rw [hs.1];omega),bs,lV oa,bs,bs,lV oa,bs,e,bs]
  dsimp only
  cases ok with
  | false =>
   rw [ak]
   exact ⟨_,rfl,.inl rfl⟩
  | true =>
   rw [ah,bt (by decide) (by rw [bU];omega),bs,cO oa oa,bs]
   obtain ⟨s,e1,h1⟩:=ih (p+1) yN (o++[(r.1,r.2)]) oa oa (by rw [cj,bU];omega)
   refine ⟨s,e1,h1.imp id ?_⟩
   rintro ⟨o',z,k1,k2,k3,k4⟩
   refine ⟨o',z,k1,k2,fun j hj=>by rw [k3 j oa,uA oa],fun j h1 h2=>?_⟩
   by_cases ej:j=p
   ·subst ej
    have hr:aY o' j=r:=by
     rw [k3 j oa,<- ho,s6]
    obtain ⟨g1,g2,g3,g4,g5⟩:=h rfl
    rw [hr]
    refine ⟨g3,?_,g5⟩
    intro h0
    have hd:=pO hN g2
    have hz:(((aY (bQ m j) j).1:Int):Rat)≠0:=fun e=>g4 (vI.1 e)
    have:rv (aY (bQ m j) j)=0:=h0
    unfold rv at this
    grind
   ·exact k4 j oa h2
theorem KM (hN:1073741824<=N) {n:Nat} (hn:n<=6) {A:fH} (hA:Shp n n A) {b:dq} (hb:b.length=n):∀ (c i yN:Nat) (m:fH),i+c=n->c<yN->m.length=i ->
  ∃ s,eW N yN A b (n:Int) m (i:Int)=some s/\(s=.inl ([],false)\/∃ m' z,s=.inr (m',z)/\m'.length=n/\(∀ a,a<i->bQ m' a=bQ m a)/\∀ a,i<=a->a<n->bQ m' a=bQ A a++[aY b a]):=by
 intro c
 induction c with
 | zero =>
  intro i yN m hic hf hm
  obtain ⟨yN,rfl⟩:∃ k',yN=k'+1:=⟨yN-1,oa⟩
  rw [eW,bf oa,ak]
  exact ⟨_,rfl,.inr ⟨m,_,rfl,oa,fun _ _=>rfl,fun a h1 h2=>by omega⟩⟩
 | succ c ih =>
  intro i yN m hic hf hm
  obtain ⟨yN,rfl⟩:∃ k',yN=k'+1:=⟨yN-1,oa⟩
  have hi:i<n:=by omega
  have hAl:=hA.2 i hi
  rw [eW,ba oa,ah,lV oa,bs]
  rcases pR hN (aY b i) with hv | hv
  ·unfold VR at hv
   rw [hv,bs,ah,ixM (by rw [hA.1];exact hi),bs,bs,bt (by decide) (by rw [fN];omega),bs,bt (by decide) (by rw [cj,fN,bU];omega),bs,bt (by decide) (by rw [bU];omega),bs,cO oa oa,bs]
   obtain ⟨s,e1,h1⟩:=ih (i+1) yN (m++[[]++bQ A i++[((aY b i).1,(aY b i).2)]]) oa oa (by rw [cj,bU];omega)
   refine ⟨s,e1,h1.imp id ?_⟩
   rintro ⟨m',z,k1,k2,k3,k4⟩
   have hr1:∀ a,a<i->bQ (m++[[]++bQ A i++[((aY b i).1,(aY b i).2)]]) a=bQ m a:=fun a ha=>by
    unfold bQ;simp [uS (show a<m.length by omega)]
   have hr2:bQ (m++[[]++bQ A i++[((aY b i).1,(aY b i).2)]]) i=bQ A i++[aY b i]:=by
    unfold bQ;subst hm;simp
   refine ⟨m',z,k1,k2,fun a ha=>(k3 a oa).trans (hr1 a ha),fun a h1 h2=>?_⟩
   by_cases ea:a=i
   ·subst ea
    rw [k3 a oa,hr2]
   ·exact k4 a oa h2
  ·rw [hv,bs,ak]
   exact ⟨_,rfl,.inl rfl⟩
def HZ (N:Nat) (A:fH) (c:Nat):Prop:=∀ i,i<A.length->(bQ A i).length=c/\∀ j,j<c->VR N (cell A i j)
theorem MC (hN:1073741824<=N) {A:fH} {c:Nat} (hc:c<=1000) {i:Nat} (hi:i<A.length) (hl:(bQ A i).length=c):∀ (d j yN:Nat) (x:Int),j+d=c->d<yN ->
  ∃ s,iG N yN A x (c:Int) (i:Int) (j:Int)=some s/\((s=.inl false/\∃ q,j<=q/\q<c/\¬ VR N (cell A i q))\/∃ z,s=.inr z/\∀ q,j<=q->q<c->VR N (cell A i q)):=by
 intro d
 induction d with
 | zero =>
  intro j yN x hj hf
  obtain ⟨yN,rfl⟩:∃ k',yN=k'+1:=⟨yN-1,oa⟩
  rw [iG,bf oa,ak]
  exact ⟨_,rfl,.inr ⟨_,rfl,fun q h1 h2=>by omega⟩⟩
 | succ d ih =>
  intro j yN x hj hf
  obtain ⟨yN,rfl⟩:∃ k',yN=k'+1:=⟨yN-1,oa⟩
  rw [iG,ba oa,ah,ixM hi,bs,lV oa,bs]
  rcases pR hN (aY (bQ A i) j) with hv | hv
  ·have hv':=hv
   unfold VR at hv'
   rw [hv',bs,ah,cO oa oa,bs]
   obtain ⟨s,e,h⟩:=ih (j+1) yN x oa oa
   refine ⟨s,e,?_⟩
   rcases h with ⟨h1,q,h2,h3,h4⟩ | ⟨z,h1,h2⟩
   ·exact .inl ⟨h1,q,oa,h3,h4⟩
   ·refine .inr ⟨z,h1,fun q g1 g2=>?_⟩
    by_cases e:q=j
    ·subst e;exact hv
    ·exact h2 q oa g2
  ·rw [hv,bs,ak]
   refine ⟨_,rfl,.inl ⟨rfl,j,bY j,oa,fun h=>?_⟩⟩
   unfold VR cell at h
   rw [hv] at h;cases h
theorem MJ (hN:1073741824<=N) {A:fH} (hA:A.length<=1000) {c:Nat} (hc:c<=1000):∀ (d i yN:Nat) (x:Int),i+d=A.length->d<yN ->
  ∃ s,iH N yN A x (c:Int) (i:Int)=some s/\((s=.inl false/\¬ HZ N A c)\/∃ z,s=.inr z/\∀ q,i<=q->q<A.length->(bQ A q).length=c/\∀ j,j<c->VR N (cell A q j)):=by
 intro d
 induction d with
 | zero =>
  intro i yN x hi hf
  obtain ⟨yN,rfl⟩:∃ k',yN=k'+1:=⟨yN-1,oa⟩
  rw [iH,bf oa,ak]
  exact ⟨_,rfl,.inr ⟨_,rfl,fun q h1 h2=>by omega⟩⟩
 | succ d ih =>
  intro i yN x hi hf
  obtain ⟨yN,rfl⟩:∃ k',yN=k'+1:=⟨yN-1,oa⟩
  have hil:i<A.length:=by omega
  rw [iH,ba oa,ah,ixM hil,bs]
  by_cases hl:(bQ A i).length=c
  ·rw [show (((bQ A i).length:Int) != (c:Int))=false by rw [rQ];omega,ak]
   obtain ⟨s,e,h⟩:=MC hN hc hil hl c 0 N x oa oa
   have e':iG N N A x (c:Int) (i:Int) 0=some s:=e
   rw [e',bs]
   rcases h with ⟨rfl,q,_,h3,h4⟩ | ⟨z,rfl,h2⟩
   ·rw [ou]
    exact ⟨_,rfl,.inl ⟨rfl,fun h=>h4 ((h i hil).2 q h3)⟩⟩
   ·rw [kt,cO oa oa,bs]
    obtain ⟨s,e,h⟩:=ih (i+1) yN x oa oa
    refine ⟨s,e,h.imp id ?_⟩
    rintro ⟨z,h5,h6⟩
    refine ⟨z,h5,fun q g1 g2=>?_⟩
    by_cases e:q=i
    ·subst e;exact ⟨hl,fun j hj=>h2 j oa hj⟩
    ·exact h6 q oa g2
  ·rw [show (((bQ A i).length:Int) != (c:Int))=true by rw [bne_iff_ne];omega,ah]
   exact ⟨_,rfl,.inl ⟨rfl,fun h=>hl (h i hil).1⟩⟩
theorem CX (hN:1073741824<=N) {A:fH} (hA:A.length<=1000) {c:Nat} (hc:c<=1000) (n:Nat):∃ b,gU N A (n:Int) (c:Int)=some b/\(b=true↔HZ N A c/\A.length=n):=by
 unfold gU
 obtain ⟨s,e,h⟩:=MJ hN hA hc A.length 0 N (n:Int) oa oa
 have e':iH N N A (n:Int) (c:Int) 0=some s:=e
 rw [e',bs]
 rcases h with ⟨rfl,h⟩ | ⟨z,rfl,h⟩
 ·rw [ou]
  exact ⟨false,rfl,fun h=>(by cases h),fun h2=>absurd h2.1 h⟩
 ·rw [kt]
  refine ⟨_,rfl,?_⟩
  rw [rX]
  exact ⟨fun h2=>⟨fun i hi=>h i oa hi,oa⟩,fun h2=>by omega⟩
theorem A1 (hN:1073741824<=N) {n:Nat} (hn:n<=6) {A:fH} (hA:Shp n n A) {b:dq} (hb:b.length=n) :
  ∃ x ok,d5 N A b=some (x,ok)/\(ok=true->x.length=n/\(∀ j,j<n->VR N (aY x j)) /\
   ∀ y:Nat->Rat,(∀ i,i<n->eJ n (fun j=>cv A i j*y j)=rv (aY b i))↔∀ j,j<n->y j=rv (aY x j)):=by
 have hAl:=hA.1
 unfold d5
 rw [bf oa,ak,hb]
 obtain ⟨q,e0,_⟩:=CX hN (A:=A) oa (c:=n) oa n
 rw [e0,bs]
 cases q with
 | false=>exact ⟨_,_,rfl,fun h=>by cases h⟩
 | true =>
  rw [ah]
  obtain ⟨s1,e1,h1⟩:=KM hN hn hA hb n 0 N [] oa oa rfl
  have e1':eW N N A b (n:Int) [] 0=some s1:=e1
  rw [e1',bs]
  rcases h1 with rfl | ⟨m,z,rfl,hm,_,hr⟩
  ·rw [ou];exact ⟨_,_,rfl,fun h=>by cases h⟩
  ·rw [kt]
   have hs:Shp n (n+1) m:=⟨hm,fun i hi=>by rw [hr i oa hi,cj,hA.2 i hi,bU]⟩
   have hc1:∀ i j,i<n->j<n->cv m i j=cv A i j:=fun i j hi hj=>by
    unfold cv cell
    rw [hr i oa hi,uA (by rw [hA.2 i hi];exact hj)]
   have hc2:∀ i,i<n->cv m i n=rv (aY b i):=fun i hi=>by
    unfold cv cell
    have:=hA.2 i hi
    rw [hr i oa hi,<- this,s6]
   obtain ⟨s2,e2,h2⟩:=Kc hN hn n 0 N m oa oa hs (fun i _ q hq=>by omega)
   have e2':fd N N (n:Int) m 0=some s2:=e2
   dsimp only
   rw [e2',bs]
   rcases h2 with rfl | ⟨m',z',rfl,hs',hd,hsol⟩
   ·rw [ou];exact ⟨_,_,rfl,fun h=>by cases h⟩
   ·rw [kt]
    obtain ⟨s3,e3,h3⟩:=Lh hN hn hs' n 0 N [] oa oa rfl
    have e3':eS N N (n:Int) m' [] 0=some s3:=e3
    dsimp only
    rw [e3',bs]
    rcases h3 with rfl | ⟨o,z'',rfl,ho,_,h4⟩
    ·rw [ou];exact ⟨_,_,rfl,fun h=>by cases h⟩
    ·rw [kt]
     refine ⟨_,_,rfl,fun _=>⟨ho,fun j hj=>(h4 j oa hj).1,fun y=>?_⟩⟩
     have k1:(∀ i,i<n->eJ n (fun j=>cv A i j*y j)=rv (aY b i))↔vR n m y:=by
      unfold vR
      constructor
      ·intro h i hi
       rw [hQ (h:=fun j=>cv A i j*y j) fun j hj=>by rw [hc1 i j hi hj],hc2 i hi]
       exact h i hi
      ·intro h i hi
       rw [<- hc2 i hi,<- h i hi]
       exact hQ fun j hj=>by rw [hc1 i j hi hj]
     rw [k1,hsol y]
     unfold vR
     have k2:∀ i,i<n->eJ n (fun j=>cv m' i j*y j)=cv m' i i*y i:=fun i hi=>zx hi fun j hj hji=>by
      rw [hd i hi j hj (fun e=>hji e.symm)];exact xR _
     constructor
     ·intro h j hj
      have h5:=h j hj
      rw [k2 j hj] at h5
      obtain ⟨_,g2,g3⟩:=h4 j oa hj
      grind
     ·intro h i hi
      rw [k2 i hi,h i hi]
      obtain ⟨_,g2,g3⟩:=h4 i oa hi
      rw [<- g3,Rat.mul_comm]
end
section
variable {N:Nat}
theorem pJ (hN:1073741824<=N) {v:Int} (h1:-1000000000<=v) (h2:v<=1000000000):VR N (v,1) :=
 (lX hN).2 ⟨(by decide:(1:Int)<=1),(by decide:(1:Int)<=1000000000),h1,h2,Int.gcd_one⟩
theorem qD (v:Int):rv (v,1)=(v:Rat):=by
 unfold rv
 have:((1:Int):Rat)=1:=rfl
 show (v:Rat) / ((1:Int):Rat)=_
 rw [this];grind
theorem Lr (hN:1073741824<=N) {n:Int} (h1:-1000000000<=n) (h2:n<=1000000000):gN N n 1=some ((n,1),true):=by
 obtain ⟨a1,a2,a3⟩:=B8 n
 obtain ⟨g,e,g1,g2,g3,g4⟩:=yk (N:=N) hN a1 (by decide:(0:Int)<=1) (by decide)
 have hg:g=1:=by
  have:=g3 (.inr (by decide))
  have:=tv (by decide) g2
  omega
 subst hg
 have hv:=pJ hN h1 h2
 unfold VR at hv
 have q1:qt n 1=some n:=by
  unfold qt;rw [aZ ⟨by decide,by rw [Int.tdiv_one];exact qW oa oa⟩,Int.tdiv_one]
 have q2:qt 1 1=some 1:=rfl
 unfold gN
 rw [show ((1:Int) == 0)=false from rfl,ak,dO oa oa,bs,fP,bs,show inR n (0-4000000000000000000) 4000000000000000000=true from cA.2 oa,ah,bs,fP,bs,show inR 1 (0-4000000000000000000) 4000000000000000000=true from cA.2 oa,ah,show decide ((1:Int)<0)=false from rfl,ak,dO oa oa,bs,e,bs,q1,bs,q2,bs,hv,bs,ah]
theorem F4 (hN:1073741824<=N) {a b:Int} (h1:0<=a) (h2:a<=1000) (h3:0<=b) (h4:b<=1000):gK N a 1 b 1=some ((a*b,1),true):=by
 have m:=n9 (a:=a) (b:=b) oa oa oa oa
 have ha:=pJ hN (v:=a) oa oa
 have hb:=pJ hN (v:=b) oa oa
 have m2:0<=a*b:=vq h1 h3
 have m3:a*b<=1000*1000:=xH h2 h4 h3 (by decide)
 unfold VR at ha hb
 unfold gK
 rw [ha,bs,ah,hb,bs,ah,iN oa oa,bs,show ml 1 1=some 1 from rfl,bs,Lr hN oa oa,bs]
theorem Ng (hN:1073741824<=N) {a b:Int} (h1:0<=a) (h2:a<=10000000) (h3:0<=b) (h4:b<=10000000):ik N a 1 b 1=some ((a+b,1),true):=by
 have ha:=pJ hN (v:=a) oa oa
 have hb:=pJ hN (v:=b) oa oa
 unfold VR at ha hb
 unfold ik
 rw [ha,bs,ah,hb,bs,ah,iN oa oa,bs,iN oa oa,bs,uT,uT,cO oa oa,bs,show ml 1 1=some 1 from rfl,bs,Lr hN oa oa,bs]
theorem Lp (hN:1073741824<=N) {a b:dq} (hl:a.length=b.length) (h10:a.length<=1000):∀ (c k yN:Nat) (x:iI) (u1 u2:Int),k+c=a.length->c<yN ->
  ∃ s,eC N yN a b u1 u2 x.1 x.2 (k:Int)=some s/\(s=.inl ((0,0),false)\/∃ r z:iI × Int,s=.inr (r.1.1,r.1.2,z.2)/\rv r.1=rv x+(eJ a.length (fun j=>rv (aY a j)*rv (aY b j))-eJ k (fun j=>rv (aY a j)*rv (aY b j)))/\(VR N x->VR N r.1)):=by
 intro c
 induction c with
 | zero =>
  intro k yN x u1 u2 hk hf
  obtain ⟨yN,rfl⟩:∃ k',yN=k'+1:=⟨yN-1,oa⟩
  rw [eC,bf oa,ak]
  obtain rfl:k=a.length:=by omega
  exact ⟨_,rfl,.inr ⟨(x,0),((0,0),_),rfl,by grind,id⟩⟩
 | succ c ih =>
  intro k yN x u1 u2 hk hf
  obtain ⟨yN,rfl⟩:∃ k',yN=k'+1:=⟨yN-1,oa⟩
  obtain ⟨r,ok,e,h⟩:=KN hN (aY a k) (aY b k)
  obtain ⟨y,ok2,e2,h2⟩:=LZ hN x r
  rw [eC,ba oa,ah,lV oa,bs,lV oa,bs,e,bs]
  dsimp only
  cases ok with
  | false=>rw [ak];exact ⟨_,rfl,.inl rfl⟩
  | true =>
   rw [ah,e2,bs]
   dsimp only
   cases ok2 with
   | false=>rw [ak];exact ⟨_,rfl,.inl rfl⟩
   | true =>
    rw [ah,cO oa oa,bs]
    obtain ⟨s,e3,h3⟩:=ih (k+1) yN y u1 u2 oa oa
    refine ⟨s,e3,h3.imp id ?_⟩
    rintro ⟨r',z,k1,k2,k3⟩
    obtain ⟨_,_,_,g4⟩:=h rfl
    obtain ⟨_,_,f3,f4⟩:=h2 rfl
    refine ⟨r',z,k1,?_,fun _=>k3 f3⟩
    rw [k2,f4,g4]
    have:eJ (k+1) (fun j=>rv (aY a j)*rv (aY b j))=eJ k (fun j=>rv (aY a j)*rv (aY b j))+rv (aY a k)*rv (aY b k):=rfl
    rw [this]
    grind
theorem LN (hN:1073741824<=N) {a b:dq} (hl:a.length=b.length) (h10:a.length<=1000):∃ r ok,jB N a b=some (r,ok)/\(ok=true->VR N r/\rv r=eJ a.length (fun j=>rv (aY a j)*rv (aY b j))):=by
 unfold jB
 rw [show ((a.length:Int) != (b.length:Int))=false by rw [rQ];omega,ak]
 obtain ⟨s,e,h⟩:=Lp hN hl h10 a.length 0 N (0,1) 0 0 oa oa
 have e':eC N N a b 0 0 0 1 0=some s:=e
 rw [e',bs]
 rcases h with rfl | ⟨r,z,rfl,h1,h2⟩
 ·rw [ou];exact ⟨_,_,rfl,fun h=>by cases h⟩
 ·rw [kt]
  refine ⟨r.1,true,rfl,fun _=>⟨h2 (pJ hN (by decide) (by decide)),?_⟩⟩
  rw [h1,qD]
  have e0:((0:Int):Rat)=0:=rfl
  have e1:eJ 0 (fun j=>rv (aY a j)*rv (aY b j))=0:=rfl
  rw [e0,e1]
  grind
def pU (r:iI):Prop:=r=(0,1)\/r=(1,1)
theorem JO (hN:1073741824<=N) {a b:dq} (hl:a.length=b.length) (h10:a.length<=1000) (ha:∀ j,j<a.length->pU (aY a j)) (hb:∀ j,j<a.length->pU (aY b j)):∀ (c k yN:Nat) (v:Int) (u1 u2:Int),k+c=a.length->c<yN->0<=v->v<=k ->
  ∃ v' z:Int,eC N yN a b u1 u2 v 1 (k:Int)=some (.inr (v',1,z))/\0<=v'/\v'<=a.length/\v<=v'/\∀ j,k<=j->j<a.length->aY a j=(1,1)->aY b j=(1,1)->v+1<=v':=by
 intro c
 induction c with
 | zero =>
  intro k yN v u1 u2 hk hf h0 h1
  obtain ⟨yN,rfl⟩:∃ k',yN=k'+1:=⟨yN-1,oa⟩
  rw [eC,bf oa,ak]
  exact ⟨v,_,rfl,h0,oa,mD v,fun j h1 h2=>by omega⟩
 | succ c ih =>
  intro k yN v u1 u2 hk hf h0 h1
  obtain ⟨yN,rfl⟩:∃ k',yN=k'+1:=⟨yN-1,oa⟩
  have hm:∃ p:Int,0<=p/\p<=1/\gK N (aY a k).1 (aY a k).2 (aY b k).1 (aY b k).2=some ((p,1),true)/\(aY a k=(1,1)->aY b k=(1,1)->p=1):=by
   rcases ha k oa with e1 | e1 <;> rcases hb k oa with e2 | e2 <;> rw [e1,e2]
   ·exact ⟨_,by decide,by decide,F4 hN (by decide) (by decide) (by decide) (by decide),fun h=>absurd h (by decide)⟩
   ·exact ⟨_,by decide,by decide,F4 hN (by decide) (by decide) (by decide) (by decide),fun h=>absurd h (by decide)⟩
   ·exact ⟨_,by decide,by decide,F4 hN (by decide) (by decide) (by decide) (by decide),fun _ h=>absurd h (by decide)⟩
   ·exact ⟨_,by decide,by decide,F4 hN (by decide) (by decide) (by decide) (by decide),fun _ _=>rfl⟩
  obtain ⟨p,p0,p1,ep,hp⟩:=hm
  rw [eC,ba oa,ah,lV oa,bs,lV oa,bs,ep,bs]
  dsimp only
  rw [ah,Ng hN h0 oa p0 oa,bs]
  dsimp only
  rw [ah,cO oa oa,bs]
  obtain ⟨v',z,e3,g1,g2,g3,g4⟩:=ih (k+1) yN (v+p) u1 u2 oa oa oa oa
  refine ⟨v',z,e3,g1,g2,oa,fun j h1 h2 h3 h4=>?_⟩
  by_cases e:j=k
  ·subst e
   have:=hp h3 h4
   omega
  ·have:=g4 j oa h2 h3 h4
   omega
theorem Nb (hN:1073741824<=N) {a b:dq} (hl:a.length=b.length) (h10:a.length<=1000) (ha:∀ j,j<a.length->pU (aY a j)) (hb:∀ j,j<a.length->pU (aY b j)) :
  ∃ v:Int,jB N a b=some ((v,1),true)/\0<=v/\v<=1000/\∀ j,j<a.length->aY a j=(1,1)->aY b j=(1,1)->1<=v:=by
 unfold jB
 rw [show ((a.length:Int) != (b.length:Int))=false by rw [rQ];omega,ak]
 obtain ⟨v',z,e,g1,g2,g3,g4⟩:=JO hN hl h10 ha hb a.length 0 N 0 0 0 oa oa (by decide) (by decide)
 have e':eC N N a b 0 0 0 1 0=_:=e
 rw [e',bs,kt]
 exact ⟨v',rfl,g1,oa,fun j h1 h2 h3=>by have:=g4 j oa h1 h2 h3;omega⟩
theorem M3 (hN:1073741824<=N) {A:fH} {x:dq} (hA:A.length<=1000) (hx:x.length<=1000) (hl:∀ i,i<A.length->(bQ A i).length=x.length):∀ (c i yN:Nat) (y:dq),i+c=A.length->c<yN->y.length=i ->
  ∃ s,cM N yN A x y (i:Int)=some s/\(s=.inl ([],false)\/∃ y' z,s=.inr (y',z)/\y'.length=A.length/\(∀ a,a<i->aY y' a=aY y a) /\
   ∀ a,i<=a->a<A.length->VR N (aY y' a)/\rv (aY y' a)=eJ x.length (fun j=>cv A a j*rv (aY x j))):=by
 intro c
 induction c with
 | zero =>
  intro i yN y hi hf hy
  obtain ⟨yN,rfl⟩:∃ k',yN=k'+1:=⟨yN-1,oa⟩
  rw [cM,bf oa,ak]
  exact ⟨_,rfl,.inr ⟨y,_,rfl,oa,fun _ _=>rfl,fun a h1 h2=>by omega⟩⟩
 | succ c ih =>
  intro i yN y hi hf hy
  obtain ⟨yN,rfl⟩:∃ k',yN=k'+1:=⟨yN-1,oa⟩
  have hil:i<A.length:=by omega
  have hrl:=hl i hil
  obtain ⟨r,ok,e,h⟩:=LN hN hrl oa
  rw [cM,ba oa,ah,ixM hil,bs,e,bs]
  dsimp only
  cases ok with
  | false=>rw [ak];exact ⟨_,rfl,.inl rfl⟩
  | true =>
   rw [ah,bt (by decide) (by rw [bU];omega),bs,cO oa oa,bs]
   obtain ⟨s,e1,h1⟩:=ih (i+1) yN (y++[(r.1,r.2)]) oa oa (by rw [cj,bU];omega)
   refine ⟨s,e1,h1.imp id ?_⟩
   rintro ⟨y',z,k1,k2,k3,k4⟩
   refine ⟨y',z,k1,k2,fun a ha=>by rw [k3 a oa,uA oa],fun a h1 h2=>?_⟩
   by_cases ea:a=i
   ·subst ea
    have hr:aY y' a=r:=by rw [k3 a oa,<- hy,s6]
    obtain ⟨g1,g2⟩:=h rfl
    rw [hr]
    refine ⟨g1,?_⟩
    rw [g2,hrl]
    rfl
   ·exact k4 a oa h2
theorem HJ (hN:1073741824<=N) {A:fH} {x:dq} (hA:A.length<=1000) (hx:x.length<=1000) (hl:∀ i,i<A.length->(bQ A i).length=x.length) (hb:∀ i,i<A.length->∀ j,j<x.length->pU (cell A i j)) (hxb:∀ j,j<x.length->pU (aY x j)) (hc:∀ i,i<A.length->∃ j,j<x.length/\cell A i j=(1,1)/\aY x j=(1,1)):∀ (c i yN:Nat) (y:dq),i+c=A.length->c<yN->y.length=i->(∀ a,a<i->∃ v:Int,aY y a=(v,1)/\1<=v/\v<=1000) ->
  ∃ y' z,cM N yN A x y (i:Int)=some (.inr (y',z))/\y'.length=A.length/\∀ a,a<A.length->∃ v:Int,aY y' a=(v,1)/\1<=v/\v<=1000:=by
 intro c
 induction c with
 | zero =>
  intro i yN y hi hf hy hy2
  obtain ⟨yN,rfl⟩:∃ k',yN=k'+1:=⟨yN-1,oa⟩
  rw [cM,bf oa,ak]
  exact ⟨y,_,rfl,oa,fun a ha=>hy2 a oa⟩
 | succ c ih =>
  intro i yN y hi hf hy hy2
  obtain ⟨yN,rfl⟩:∃ k',yN=k'+1:=⟨yN-1,oa⟩
  have hil:i<A.length:=by omega
  have hrl:=hl i hil
  obtain ⟨v,e,v0,v1,h⟩:=Nb hN hrl oa (fun j hj=>hb i hil j oa) fun j hj=>hxb j oa
  rw [cM,ba oa,ah,ixM hil,bs,e,bs]
  dsimp only
  rw [ah,bt (by decide) (by rw [bU];omega),bs,cO oa oa,bs]
  refine ih (i+1) yN (y++[(v,1)]) oa oa (by rw [cj,bU];omega) fun a ha=>?_
  by_cases ea:a=i
  ·subst ea
   refine ⟨v,by rw [<- hy,s6],?_,v1⟩
   obtain ⟨j,h1,h2,h3⟩:=hc a hil
   exact h j oa h2 h3
  ·rw [uA oa]
   exact hy2 a oa
end
def oP (a:bl) (v:Int):iI:=bif decide (v∈a.2) then (1,1) else (0,1)
def kX (yK:List bl) (v:Int):dq:=yK.map fun a=>oP a v
def cm (n:Nat) (yK:List bl):fH:=(List.range' 0 n).map fun v:Nat=>kX yK (v:Int)
def bE (n:Nat):dq:=List.replicate n (1,1)
theorem Ax (n:Nat):bE n++[(1,1)]=bE (n+1):=by unfold bE;rw [List.replicate_succ']
theorem G6 (n:Nat) (yK:List bl):cm n yK++[kX yK (n:Int)]=cm (n+1) yK:=by
 unfold cm
 rw [pn,fv]
 simp
section
variable {N:Nat}
theorem KY (hN:1073741824<=N) {n v:Int} {yK:List bl} {out:yP} {b1 b4:fH} {b2 b3 b5 b6:dq} (ha:c6 yK) (h4:yK.length<=1000) :
  dE N N n yK out b1 b2 b3 b4 b5 b6 v [] 0=some (kX yK v,(yK.length:Int)) :=
 dU (fun k (o:dq) i=>dE N k n yK out b1 b2 b3 b4 b5 b6 v o i) yK.length (fun i=>kX (yK.take i) v) (kX yK v,(yK.length:Int))
  (fun k i h=>by
   show dE N (k+1) n yK out b1 b2 b3 b4 b5 b6 v (kX (yK.take i) v) (i:Int)=dE N k n yK out b1 b2 b3 b4 b5 b6 v (kX (yK.take (i+1)) v) ((i+1:Nat):Int)
   have hl:(kX (yK.take i) v).length<=1000:=by unfold kX;rw [cB,cq];omega
   have e:kX (yK.take (i+1)) v=kX (yK.take i) v++[oP yK[i] v]:=by
    unfold kX
    rw [gx h,fv];rfl
   rw [dE,dlt h,ah,bc h,bs,ic hN (nN ha h),bs,e]
   unfold oP
   cases decide (v∈yK[i].2) with
   | true=>rw [ah,ah,bt (by decide) (by rw [bU];omega),bs,ad1 oa,bs]
   | false=>rw [ak,ak,bt (by decide) (by rw [bU];omega),bs,ad1 oa,bs])
  (fun k=>by
   show dE N (k+1) n yK out b1 b2 b3 b4 b5 b6 v (kX (yK.take yK.length) v) (yK.length:Int)=_
   rw [dE,dge oa,ak,dx]) N 0 oa oa
theorem LP (hN:1073741824<=N) {n:Nat} (hn:n<=1000) {yK:List bl} {out:yP} {b1:fH} {b2 b3 b6:dq} (ha:c6 yK) (h4:yK.length<=1000) :
  d8 N N (n:Int) yK out b1 b2 b3 [] [] b6 0=some (cm n yK,bE n,(n:Int)) :=
 dU (fun k (o:fH × dq) i=>d8 N k (n:Int) yK out b1 b2 b3 o.1 o.2 b6 i) n (fun i=>(cm i yK,bE i)) (cm n yK,bE n,(n:Int))
  (fun k i h=>by
   show d8 N (k+1) (n:Int) yK out b1 b2 b3 (cm i yK) (bE i) b6 (i:Int)=d8 N k (n:Int) yK out b1 b2 b3 (cm (i+1) yK) (bE (i+1)) b6 ((i+1:Nat):Int)
   have h1:(cm i yK).length=i:=by unfold cm;simp
   have h2:(bE i).length=i:=by unfold bE;simp
   rw [d8,dlt h,ah,KY hN ha h4,bs,lpB]
   dsimp only
   rw [bt (by decide) (by rw [bU];omega),bs,bt (by decide) (by rw [bU];omega),bs,ad1 oa,bs,G6,Ax])
  (fun k=>by
   show d8 N (k+1) (n:Int) yK out b1 b2 b3 (cm n yK) (bE n) b6 (n:Int)=_
   rw [d8,dge oa,ak]) N 0 oa oa
theorem Mn (hN:1073741824<=N) {n:Int} {yK:List bl} {out:yP} {b1 b4:fH} {b2 b3 b5:dq} (h4:yK.length<=1000) :
  d6 N N n yK out b1 b2 b3 b4 b5 [] 0=some (bE yK.length,(yK.length:Int)) :=
 dU (fun k (o:dq) i=>d6 N k n yK out b1 b2 b3 b4 b5 o i) yK.length (fun i=>bE i) (bE yK.length,(yK.length:Int))
  (fun k i h=>by
   show d6 N (k+1) n yK out b1 b2 b3 b4 b5 (bE i) (i:Int)=d6 N k n yK out b1 b2 b3 b4 b5 (bE (i+1)) ((i+1:Nat):Int)
   have h2:(bE i).length=i:=by unfold bE;simp
   rw [d6,dlt h,ah,bt (by decide) (by rw [bU];omega),bs,ad1 oa,bs,Ax])
  (fun k=>by
   show d6 N (k+1) n yK out b1 b2 b3 b4 b5 (bE yK.length) (yK.length:Int)=_
   rw [d6,dge oa,ak]) N 0 oa oa
theorem Bo (hN:1073741824<=N) {n:Nat} {yK:List bl} {out:yP} (ha:c6 yK) (ho:okI out) (hq:fD (n:Int) yK out=true) :
  kV N (n:Int) yK out=some ((cm n yK,bE n,bE yK.length),true):=by
 obtain ⟨_,n5,_,a4⟩:=qp hq
 unfold kV
 rw [jH hN ha ho,bs,hq,ah,LP hN oa ha oa,bs,lpB]
 dsimp only
 rw [Mn hN oa,bs,lpB]
theorem g7 {n:Nat} {yK:List bl}:(cm n yK).length=n:=by unfold cm;simp
theorem DH {n v:Nat} {yK:List bl} (hv:v<n):bQ (cm n yK) v=kX yK (v:Int):=by
 unfold bQ cm
 rw [q7,List.getElem?_map,List.getElem?_range' hv]
 simp
theorem oE {n v i:Nat} {yK:List bl} (hv:v<n) (hi:i<yK.length):cell (cm n yK) v i=oP (cH yK i) (v:Int):=by
 unfold cell
 rw [DH hv]
 unfold kX aY
 rw [kC hi]
 simp [hi]
theorem wJ {n i:Nat} (h:i<n):aY (bE n) i=(1,1):=by unfold aY bE;simp [h]
theorem tg (a:bl) (v:Int):pU (oP a v):=by
 unfold oP pU
 cases decide (v∈a.2)
 ·exact .inl rfl
 ·exact .inr rfl
theorem G8 (hN:1073741824<=N) {r:iI} (h:pU r):VR N r:=by
 rcases h with rfl | rfl
 ·exact pJ hN (by decide) (by decide)
 ·exact pJ hN (by decide) (by decide)
theorem rn {n:Nat} {yK:List bl}:Shp n yK.length (cm n yK) :=
 ⟨g7,fun i hi=>by rw [DH hi];unfold kX;rw [cB]⟩
theorem IV (hN:1073741824<=N) {n:Nat} {yK:List bl} (n1:1<=n) (n5:n<=5) (a1:1<=yK.length) (a4:yK.length<=4):gb N (cm n yK) (bE n) (bE yK.length)=some true:=by
 have l1:(bE n).length=n:=by unfold bE;simp
 have l2:(bE yK.length).length=yK.length:=by unfold bE;simp
 unfold gb
 have one:∀ k:Nat,k<=1000->HZ N [bE k] k:=fun k _ i hi=>by
  obtain rfl:i=0:=by simpa using hi
  refine ⟨by show (bE k).length=k;unfold bE;simp,fun j hj=>?_⟩
  have:cell [bE k] 0 j=(1,1):=wJ hj
  rw [this];exact pJ hN (by decide) (by decide)
 obtain ⟨b1,e1,h1⟩:=CX hN (A:=cm n yK) (by rw [g7];omega) (c:=yK.length) oa n
 obtain ⟨b2,e2,h2⟩:=CX hN (A:=[bE yK.length]) (by simp) (c:=yK.length) oa 1
 obtain ⟨b3,e3,h3⟩:=CX hN (A:=[bE n]) (by simp) (c:=n) oa 1
 have t1:b1=true:=h1.2 ⟨fun i hi=>by
  rw [g7] at hi
  exact ⟨rn.2 i hi,fun j hj=>by rw [oE hi hj];exact G8 hN (tg _ _)⟩,g7⟩
 have t2:b2=true:=h2.2 ⟨one _ oa,rfl⟩
 have t3:b3=true:=h3.2 ⟨one _ oa,rfl⟩
 have e2':gU N [bE yK.length] 1 (yK.length:Int)=some b2:=e2
 have e3':gU N [bE n] 1 (n:Int)=some b3:=e3
 rw [l1,l2,fP,bs,show inR (yK.length:Int) 1 5=true from cA.2 oa,ah,fP,bs,show inR (n:Int) 1 5=true from cA.2 oa,ah,e1,bs,t1,ah,e2',bs,t2,ah,e3',bs,t3]
theorem Kz (hN:1073741824<=N) {x:dq} (hl:x.length<=1000) {sg:Int} {A:fH} {B C:dq}:∀ (c k yN:Nat),k+c=x.length->c<yN ->
  ∃ s,jA N yN x sg A B C (k:Int)=some s/\((s=.inl false/\∃ j,k<=j/\j<x.length/\¬ (VR N (aY x j)/\0<=(aY x j).1))\/∃ z,s=.inr z/\∀ j,k<=j->j<x.length->VR N (aY x j)/\0<=(aY x j).1):=by
 intro c
 induction c with
 | zero =>
  intro k yN hk hf
  obtain ⟨yN,rfl⟩:∃ k',yN=k'+1:=⟨yN-1,oa⟩
  rw [jA,bf oa,ak]
  exact ⟨_,rfl,.inr ⟨_,rfl,fun j h1 h2=>by omega⟩⟩
 | succ c ih =>
  intro k yN hk hf
  obtain ⟨yN,rfl⟩:∃ k',yN=k'+1:=⟨yN-1,oa⟩
  rw [jA,ba oa,ah,lV oa,bs]
  rcases pR hN (aY x k) with hv | hv
  ·have hv':=hv
   unfold VR at hv'
   rw [hv',bs,ah,bs]
   by_cases h0:(aY x k).1<0
   ·rw [ba h0,ah]
    exact ⟨_,rfl,.inl ⟨rfl,k,bY k,oa,fun h=>by omega⟩⟩
   ·rw [bf h0,ak,cO oa oa,bs]
    obtain ⟨s,e,h⟩:=ih (k+1) yN oa oa
    refine ⟨s,e,?_⟩
    rcases h with ⟨h1,j,h2,h3,h4⟩ | ⟨z,h1,h2⟩
    ·exact .inl ⟨h1,j,oa,h3,h4⟩
    ·refine .inr ⟨z,h1,fun j g1 g2=>?_⟩
     by_cases e:j=k
     ·subst e;exact ⟨hv,oa⟩
     ·exact h2 j oa g2
  ·rw [hv,bs,ak]
   refine ⟨_,rfl,.inl ⟨rfl,k,bY k,oa,fun h=>?_⟩⟩
   have:=h.1
   unfold VR at this
   rw [hv] at this;cases this
theorem EZ (hN:1073741824<=N) {y B:dq} (hl:y.length<=1000) (hb:y.length<=B.length) {A:fH} {C:dq} {u:Bool}:∀ (c k yN:Nat),k+c=y.length->c<yN ->
  ∃ s,iL N yN 1 A B C y u (k:Int)=some s/\((s=.inl false/\∃ j,k<=j/\j<y.length/\(VR N (aY y j)->VR N (aY B j)->rv (aY y j)<rv (aY B j)))\/∃ z,s=.inr z/\∀ j,k<=j->j<y.length->VR N (aY y j)->VR N (aY B j)->¬ rv (aY y j)<rv (aY B j)):=by
 intro c
 induction c with
 | zero =>
  intro k yN hk hf
  obtain ⟨yN,rfl⟩:∃ k',yN=k'+1:=⟨yN-1,oa⟩
  rw [iL,bf oa,ak]
  exact ⟨_,rfl,.inr ⟨_,rfl,fun j h1 h2=>by omega⟩⟩
 | succ c ih =>
  intro k yN hk hf
  obtain ⟨yN,rfl⟩:∃ k',yN=k'+1:=⟨yN-1,oa⟩
  obtain ⟨q,e1,q1,q2,h⟩:=Na hN (aY y k) (aY B k)
  rw [iL,ba oa,ah,lV oa,bs,lV oa,bs,e1,bs,iN oa oa,bs,uT]
  by_cases h0:q<0
  ·rw [ba h0,ah]
   exact ⟨_,rfl,.inl ⟨rfl,k,bY k,oa,fun v1 v2=>(h v1 v2).1 h0⟩⟩
  ·rw [bf h0,ak,cO oa oa,bs]
   obtain ⟨s,e,h'⟩:=ih (k+1) yN oa oa
   refine ⟨s,e,?_⟩
   rcases h' with ⟨h1,j,h2,h3,h4⟩ | ⟨z,h1,h2⟩
   ·exact .inl ⟨h1,j,oa,h3,h4⟩
   ·refine .inr ⟨z,h1,fun j g1 g2=>?_⟩
    by_cases e:j=k
    ·subst e;exact fun v1 v2 hlt=>h0 ((h v1 v2).2 hlt)
    ·exact h2 j oa g2
structure FeasR (N n:Nat) (yK:List bl) (x:dq):Prop where
 len:x.length=yK.length
 ok:∀ j,j<x.length->VR N (aY x j)/\0<=(aY x j).1
 ge:∀ v,v<n->1<=eJ yK.length (fun j=>cv (cm n yK) v j*rv (aY x j))
theorem Fz (hN:1073741824<=N) {n:Nat} {yK:List bl} (n1:1<=n) (n5:n<=5) (a1:1<=yK.length) (a4:yK.length<=4) {x:dq} (hx:x.length=yK.length) :
  ∃ b,ky N (cm n yK) (bE n) (bE yK.length) x 1=some b/\(b=true->FeasR N n yK x) /\
   ((∀ j,j<x.length->pU (aY x j))->(∀ v,v<n->∃ j,j<x.length/\cell (cm n yK) v j=(1,1)/\aY x j=(1,1))->b=true):=by
 have l1:(bE n).length=n:=by unfold bE;simp
 have l2:(bE yK.length).length=yK.length:=by unfold bE;simp
 unfold ky
 rw [IV hN n1 n5 a1 a4,bs,ah,l2,show ((x.length:Int) != (yK.length:Int))=false by rw [rQ];omega,ak]
 obtain ⟨s1,e1,h1⟩:=Kz hN (x:=x) oa (sg:=1) (A:=cm n yK) (B:=bE n) (C:=bE yK.length) x.length 0 N oa oa
 have e1':jA N N x 1 (cm n yK) (bE n) (bE yK.length) 0=some s1:=e1
 rw [e1',bs]
 rcases h1 with ⟨rfl,j,_,h2,h3⟩ | ⟨z,rfl,h1⟩
 ·rw [ou]
  refine ⟨_,rfl,fun h=>(by cases h),fun hb _=>absurd ⟨G8 hN (hb j h2),?_⟩ h3⟩
  rcases hb j h2 with e | e <;> rw [e] <;> decide
 ·rw [kt]
  have hsh:=rn (n:=n) (yK:=yK)
  have hrl:∀ i,i<(cm n yK).length->(bQ (cm n yK) i).length=x.length:=fun i hi=>by rw [hsh.2 i (by rw [<- g7 (n:=n) (yK:=yK)];exact hi),hx]
  obtain ⟨s2,e2,h2⟩:=M3 hN (A:=cm n yK) (x:=x) (by rw [g7];omega) oa hrl (cm n yK).length 0 N [] oa (by rw [g7];omega) rfl
  have e2':cM N N (cm n yK) x [] 0=some s2:=e2
  unfold jF
  rw [e2',bs]
  rcases h2 with rfl | ⟨y,z',rfl,hy,_,hv⟩
  ·rw [ou,bs]
   obtain ⟨s3,e3,_⟩:=EZ hN (y:=[]) (B:=bE n) (by decide) (dB _) (A:=cm n yK) (C:=bE yK.length) (u:=false) 0 0 N rfl oa
   have e3':iL N N 1 (cm n yK) (bE n) (bE yK.length) [] false 0=some s3:=e3
   dsimp only
   rw [e3',bs]
   have bad:¬ ((∀ j,j<x.length->pU (aY x j))/\∀ v,v<n->∃ j,j<x.length/\cell (cm n yK) v j=(1,1)/\aY x j=(1,1)):=by
    rintro ⟨hb,hc⟩
    obtain ⟨y',z2,e4,_⟩:=HJ hN (A:=cm n yK) (x:=x) (by rw [g7];omega) oa hrl (fun i hi j hj=>by
     rw [g7] at hi
     rw [oE hi oa];exact tg _ _) hb (fun i hi=>hc i (by rw [g7] at hi;exact hi)) (cm n yK).length 0 N [] oa (by rw [g7];omega) rfl (fun a ha=>by omega)
    have:=e4.symm.trans e2
    cases this
   cases s3 with
   | inl q =>
    rw [ou]
    refine ⟨q,rfl,?_,fun hb hc=>absurd ⟨hb,hc⟩ bad⟩
    rename_i h6
    rcases h6 with ⟨h7,j,_,h8,_⟩ | ⟨z3,h7,_⟩
    ·exact absurd h8 (Nat.not_lt_zero _)
    ·cases h7
   | inr q =>
    rw [kt]
    exact ⟨false,rfl,fun h=>(by cases h),fun hb hc=>absurd ⟨hb,hc⟩ bad⟩
  ·rw [kt,bs]
   rw [g7] at hy hv
   obtain ⟨s3,e3,h3⟩:=EZ hN (y:=y) (B:=bE n) oa oa (A:=cm n yK) (C:=bE yK.length) (u:=true) y.length 0 N oa oa
   have e3':iL N N 1 (cm n yK) (bE n) (bE yK.length) y true 0=some s3:=e3
   dsimp only
   rw [e3',bs]
   have vB:∀ j,j<n->VR N (aY (bE n) j)/\rv (aY (bE n) j)=1:=fun j hj=>by
    rw [wJ hj]
    exact ⟨pJ hN (by decide) (by decide),qD 1⟩
   rcases h3 with ⟨rfl,j,_,g1,g2⟩ | ⟨z3,rfl,g⟩
   ·rw [ou]
    refine ⟨false,rfl,fun h=>(by cases h),fun hb hc=>?_⟩
    exfalso
    obtain ⟨y',z2,e4,_,h5⟩:=HJ hN (A:=cm n yK) (x:=x) (by rw [g7];omega) oa hrl (fun i hi j hj=>by
     rw [g7] at hi
     rw [oE hi oa];exact tg _ _) hb (fun i hi=>hc i (by rw [g7] at hi;exact hi)) (cm n yK).length 0 N [] oa (by rw [g7];omega) rfl (fun a ha=>by omega)
    have h6:=e4.symm.trans e2
    have h7:y'=y:=by
     have:=dz h6
     injection this with this
     exact bh Prod.fst this
    subst h7
    obtain ⟨w,hw,w1,_⟩:=h5 j (by rw [g7];omega)
    have g3:=g2 (hv j oa oa).1 (vB j oa).1
    rw [(vB j oa).2,hw,qD] at g3
    have:((1:Int):Rat)<=(w:Rat):=xE.2 w1
    have e1:((1:Int):Rat)=1:=rfl
    grind
   ·rw [kt]
    refine ⟨true,rfl,fun _=>⟨hx,fun j hj=>h1 j oa hj,fun v hv'=>?_⟩,fun _ _=>rfl⟩
    obtain ⟨k1,k2⟩:=hv v oa hv'
    have g3:=g v oa oa k1 (vB v hv').1
    rw [(vB v hv').2,k2,hx] at g3
    exact Rat.not_lt.1 g3
end
def iQ:Nat->Nat->Nat->List (yP)
 | 0,_,_=>[[]]
 | n+1,f,t=>(List.range' f (t-n-f)).flatMap fun i:Nat=>(iQ n (i+1) t).map fun l=>(i:Int) :: l
theorem x7:∀ (n f t:Nat),(iQ n f t).length<=t ^ n
 | 0,f,t=>by rw [Nat.pow_zero];exact bY 1
 | n+1,f,t=>by
  unfold iQ
  have h:=mN (g:=fun i:Nat=>(iQ n (i+1) t).map fun l=>(i:Int) :: l) (k:=t ^ n) (fun i=>by rw [cB];exact x7 n (i+1) t) (List.range' f (t-n-f))
  rw [xM] at h
  refine Nat.le_trans h ?_
  rw [rN,Nat.mul_comm]
  exact Nat.mul_le_mul_left _ oa
theorem uo:∀ {n f t:Nat} {l:yP},l∈iQ n f t->l.length=n/\∀ v∈l,(f:Int)<=v/\v<t
 | 0,f,t,l,h=>by
  rw [fu.1 h];exact ⟨rfl,by simp⟩
 | n+1,f,t,l,h=>by
  unfold iQ at h
  obtain ⟨i,hi,h⟩:=tX.1 h
  obtain ⟨s,hs,rfl⟩:=fm.1 h
  obtain ⟨h1,h2⟩:=uo hs
  rw [BC] at hi
  refine ⟨by rw [bW,h1],fun v hv=>?_⟩
  rcases cp.1 hv with rfl | hv
  ·omega
  ·have:=h2 v hv;omega
theorem Cr:∀ {n f t:Nat} {l:List Nat},l.length=n->l.Pairwise (·<·)->(∀ v∈l,f<=v/\v<t)->l.map (fun v:Nat=>(v:Int))∈iQ n f t
 | 0,f,t,l,h,_,_=>by
  rw [li.1 h];exact fu.2 rfl
 | n+1,f,t,[],h,_,_=>by simp at h
 | n+1,f,t,i :: l,h,hp,hb=>by
  obtain ⟨p1,p2⟩:=jD.1 hp
  have hl:l.length=n:=by simpa using h
  have hi:=hb i cZ
  have room:∀ (k a:Nat) (s:List Nat),s.length=k->s.Pairwise (·<·)->(∀ v∈s,a<v/\v<t)->a<t->a+k<t:=by
   intro k
   induction k with
   | zero=>intro a s _ _ _ h;omega
   | succ k ih =>
    intro a s hs hp2 hb2 hat
    cases s with
    | nil=>simp at hs
    | cons b s =>
     obtain ⟨q1,q2⟩:=jD.1 hp2
     have hb3:=hb2 b cZ
     have:=ih b s (by simpa using hs) q2 (fun v hv=>⟨q1 v hv,(hb2 v (dy _ hv)).2⟩) hb3.2
     omega
  have hr:=room n i l hl p2 (fun v hv=>⟨p1 v hv,(hb v (dy _ hv)).2⟩) hi.2
  unfold iQ
  refine tX.2 ⟨i,BC.2 ⟨hi.1,oa⟩,?_⟩
  rw [gd]
  exact fm.2 ⟨_,Cr hl p2 (fun v hv=>⟨p1 v hv,(hb v (dy _ hv)).2⟩),rfl⟩
theorem JH {rec:Int->Int->Int->Option (List (yP))} {N:Nat} {t n i:Int} {acc rest:List (yP)} (hN:rest.length<N) (hr:rest.length<=100000) (ha:acc.length<=1000000) (hl:∀ l∈rest,l.length<=1000) :
  gB rec N N t n acc i rest 0=some (acc++rest.map (fun l=>i :: l),(rest.length:Int)):=by
 have h:=dU (fun k (o:List (yP)) j=>gB rec N k t n o i rest j) rest.length (fun j=>acc++(rest.take j).map fun l=>i :: l) (acc++rest.map (fun l=>i :: l),(rest.length:Int))
  (fun k j h=>by
   have hm:=hl _ (bC h)
   show gB rec N (k+1) t n (acc++(rest.take j).map fun l=>i :: l) i rest (j:Int)=gB rec N k t n (acc++(rest.take (j+1)).map fun l=>i :: l) i rest ((j+1:Nat):Int)
   rw [gB,dlt h,ah,bc h,bs,bt (by decide) (by rw [bU];omega),bs,bt (by decide) (by rw [cj,cB,cq,bU];omega),bs,ad1 oa,bs,gx h,fv,gr]
   rfl)
  (fun k=>by
   show gB rec N (k+1) t n (acc++(rest.take rest.length).map fun l=>i :: l) i rest (rest.length:Int)=_
   rw [gB,dge oa,ak,dx]) N 0 oa oa
 rw [xy,nZ,mx] at h
 exact h
theorem IN {t n:Nat} (ht:t<=9) (hn:n<=4):t ^ n<=6561 :=
 Nat.le_trans (xZ ht n) (Nat.le_trans (nT (by decide) hn) (by decide))
theorem Df:∀ (n M f t:Nat),n<=4->t<=9->f<=10->10000+n<M->gS M (f:Int) (t:Int) (n:Int)=some (iQ n f t)
 | 0,M,f,t,_,_,_,hM=>by
  obtain ⟨M,rfl⟩:∃ k,M=k+1:=⟨M-1,oa⟩
  rw [gS,show (((0:Nat):Int) == 0)=true from rfl,ah];rfl
 | n+1,M,f,t,hn,ht,hf,hM=>by
  obtain ⟨M,rfl⟩:∃ k,M=k+1:=⟨M-1,oa⟩
  rw [gS,show (((n+1:Nat):Int) == 0)=false by rw [tu];omega,ak]
  have key:∀ (d i yN:Nat) (acc:List (yP)),t-n-i=d->d<yN->i<=10->acc.length+d*6561<=1000000 ->
    ∃ z,kM (gS M) M yN (t:Int) ((n+1:Nat):Int) acc (i:Int)=some (acc++(List.range' i d).flatMap (fun i:Nat=>(iQ n (i+1) t).map fun l=>(i:Int) :: l),z):=by
   intro d
   induction d with
   | zero =>
    intro i yN acc hd hfu hi ha
    obtain ⟨yN,rfl⟩:∃ k,yN=k+1:=⟨yN-1,oa⟩
    rw [kM,cO oa oa,bs,bf oa,ak]
    refine ⟨(i:Int),?_⟩
    rw [List.range'_zero,List.flatMap_nil,mx]
   | succ d ih =>
    intro i yN acc hd hfu hi ha
    obtain ⟨yN,rfl⟩:∃ k,yN=k+1:=⟨yN-1,oa⟩
    have hlen:=Nat.le_trans (x7 n (i+1) t) (IN (n:=n) ht oa)
    have e1:gS M ((i:Int)+1) (t:Int) ((n+1:Nat)-1:Int)=some (iQ n (i+1) t):=by
     have h:=Df n M (i+1) t oa ht oa oa
     rw [show ((i:Int)+1)=((i+1:Nat):Int) by omega,show (((n+1:Nat):Int)-1)=(n:Int) by omega]
     exact h
    rw [kM,cO oa oa,bs,ba oa,ah,cO oa oa,bs,dO oa oa,bs,e1,bs,JH oa oa oa (fun l hl=>by have:=(uo hl).1;omega),bs,lpB]
    dsimp only
    rw [bs]
    obtain ⟨z,h⟩:=ih (i+1) yN (acc++(iQ n (i+1) t).map fun l=>(i:Int) :: l) oa oa oa (by rw [cj,cB];omega)
    refine ⟨z,?_⟩
    rw [List.range'_succ,ue,<- gr]
    exact h
  obtain ⟨z,h⟩:=key (t-n-f) f M [] rfl oa hf (by rw [fN];omega)
  rw [h,bs,lpB,List.nil_append]
  rfl
def mv (n i:Nat):dq:=(List.replicate n (0,1)).set i (1,1)
def l7 (A:fH) (m n:Nat) (j:Nat):dq:=if j<m then bQ A j else mv n (j-m)
def oA (m:Nat) (j:Nat):iI:=if j<m then (1,1) else (0,1)
def qO (l:yP):List Nat:=l.map Int.toNat
def kP (A:fH) (m n:Nat) (l:yP):fH:=(qO l).map (l7 A m n)
def kB (m:Nat) (l:yP):dq:=(qO l).map (oA m)
section
variable {N:Nat}
theorem Mb (hN:1073741824<=N) {n:Nat} (hn:n<=1000) {sg m i k j:Int} {A a out:fH} {B C b:dq} {l:List (yP)} :
  fJ N N sg A B C out (n:Int) m l i a b k j [] 0=some (List.replicate n (0,1),(n:Int)) :=
 dU (fun q (o:dq) v=>fJ N q sg A B C out (n:Int) m l i a b k j o v) n (fun v=>List.replicate v (0,1)) (List.replicate n (0,1),(n:Int))
  (fun q v h=>by
   show fJ N (q+1) sg A B C out (n:Int) m l i a b k j (List.replicate v (0,1)) (v:Int)=fJ N q sg A B C out (n:Int) m l i a b k j (List.replicate (v+1) (0,1)) ((v+1:Nat):Int)
   rw [fJ,dlt h,ah,bt (by decide) (by rw [yb,bU];omega),bs,ad1 oa,bs,List.replicate_succ'])
  (fun q=>by
   show fJ N (q+1) sg A B C out (n:Int) m l i a b k j (List.replicate n (0,1)) (n:Int)=_
   rw [fJ,dge oa,ak]) N 0 oa oa
theorem LC (hN:1073741824<=N) {n m:Nat} (hn:n<=4) (hm:m<=5) {sg:Int} {A out:fH} {C:dq} (hA:A.length=m) {L:List (yP)} {i:Nat} (hi:i<L.length) (hl:L[i].length=n) (hb:∀ v∈L[i],0<=v/\v<(m+n:Nat)) :
  eK N N sg A (bE m) C out (n:Int) (m:Int) L (i:Int) [] [] 0=some (kP A m n L[i],kB m L[i],(n:Int)):=by
 have h:=dU (fun q (o:fH × dq) k=>eK N q sg A (bE m) C out (n:Int) (m:Int) L (i:Int) o.1 o.2 k) n (fun k=>(kP A m n (L[i].take k),kB m (L[i].take k))) (kP A m n L[i],kB m L[i],(n:Int))
  (fun q k h=>by
   show eK N (q+1) sg A (bE m) C out (n:Int) (m:Int) L (i:Int) (kP A m n (L[i].take k)) (kB m (L[i].take k)) (k:Int)=eK N q sg A (bE m) C out (n:Int) (m:Int) L (i:Int) (kP A m n (L[i].take (k+1))) (kB m (L[i].take (k+1))) ((k+1:Nat):Int)
   have hk:k<L[i].length:=by omega
   have hv:=hb _ (bC hk)
   have l1:(kP A m n (L[i].take k)).length<=1000:=by unfold kP qO;rw [cB,cB,cq];omega
   have l2:(kB m (L[i].take k)).length<=1000:=by unfold kB qO;rw [cB,cB,cq];omega
   have eA:kP A m n (L[i].take (k+1))=kP A m n (L[i].take k)++[l7 A m n L[i][k].toNat]:=by
    unfold kP qO
    rw [gx hk,fv,fv];rfl
   have eB:kB m (L[i].take (k+1))=kB m (L[i].take k)++[oA m L[i][k].toNat]:=by
    unfold kB qO
    rw [gx hk,fv,fv];rfl
   rw [eK,dlt h,ah,bc hi,bs,bc hk,bs,eA,eB]
   unfold l7 oA
   obtain ⟨j,hj⟩:∃ j:Nat,L[i][k]=(j:Int):=⟨L[i][k].toNat,oa⟩
   rw [hj] at hv ⊢
   rw [jf]
   by_cases hjm:j<m
   ·have ones:(bE m).length=m:=by unfold bE;simp
    rw [ba oa,ah,aZ hjm,aZ hjm,ixM oa,bs,bt (by decide) (by rw [bU];omega),bs,lV oa,bs,wJ hjm,bt (by decide) (by rw [bU];omega),bs,ad1 oa,bs]
   ·have hlr:j-m<(List.replicate n ((0:Int),(1:Int))).length:=by rw [yb];omega
    rw [bf oa,ak,bb hjm,bb hjm,Mb hN oa,bs,lpB]
    dsimp only
    rw [dO oa oa,bs,show ((j:Int)-(m:Int))=((j-m:Nat):Int) by omega,bc hlr,bs,vQ hlr,bs,bt (by decide) (by rw [bU];omega),bs,bt (by decide) (by rw [bU];omega),bs,ad1 oa,bs]
    rfl)
  (fun q=>by
   show eK N (q+1) sg A (bE m) C out (n:Int) (m:Int) L (i:Int) (kP A m n (L[i].take n)) (kB m (L[i].take n)) (n:Int)=_
   rw [eK,dge oa,ak,<- hl,dx]) N 0 oa oa
 exact h
theorem HT (hN:1073741824<=N) {a b:dq} (ha:a.length<=1000):∃ q,j4 N a b=some q:=by
 unfold j4
 by_cases hl:a.length=b.length
 ·rw [show ((a.length:Int) != (b.length:Int))=false by rw [rQ];omega,ak]
  have key:∀ (c k yN:Nat),k+c=a.length->c<yN->∃ s,f6 N yN a b (k:Int)=some s:=by
   intro c
   induction c with
   | zero =>
    intro k yN hk hf
    obtain ⟨yN,rfl⟩:∃ k',yN=k'+1:=⟨yN-1,oa⟩
    rw [f6,bf oa,ak]
    exact ⟨_,rfl⟩
   | succ c ih =>
    intro k yN hk hf
    obtain ⟨yN,rfl⟩:∃ k',yN=k'+1:=⟨yN-1,oa⟩
    rw [f6,ba oa,ah,lV oa,bs,lV oa,bs]
    cases (aY a k).1 == (aY b k).1&&(aY a k).2 == (aY b k).2 with
    | true =>
     rw [ah,cO oa oa,bs]
     exact ih (k+1) yN oa oa
    | false=>rw [ak];exact ⟨_,rfl⟩
  obtain ⟨s,e⟩:=key a.length 0 N oa oa
  have e':f6 N N a b 0=some s:=e
  rw [e',bs]
  cases s with
  | inl q=>rw [ou];exact ⟨_,rfl⟩
  | inr q=>rw [kt];exact ⟨_,rfl⟩
 ·rw [show ((a.length:Int) != (b.length:Int))=true by rw [bne_iff_ne];omega,ah]
  exact ⟨_,rfl⟩
theorem Mz (hN:1073741824<=N) {sg n m i:Int} {A:fH} {B C x:dq} {L:List (yP)} {out:fH} (ho:out.length<=100000) (hl:∀ j,j<out.length->(bQ out j).length<=1000):∀ (c k yN:Nat) (b:Bool),k+c=out.length->c<yN ->
  ∃ b' z,gY N yN sg A B C out n m L i x b (k:Int)=some (b',z)/\(out.length=0->b'=b):=by
 intro c
 induction c with
 | zero =>
  intro k yN b hk hf
  obtain ⟨yN,rfl⟩:∃ k',yN=k'+1:=⟨yN-1,oa⟩
  rw [gY,bf oa,ak]
  exact ⟨b,_,rfl,fun _=>rfl⟩
 | succ c ih =>
  intro k yN b hk hf
  obtain ⟨yN,rfl⟩:∃ k',yN=k'+1:=⟨yN-1,oa⟩
  rw [gY,ba oa,ah]
  cases b with
  | true =>
   rw [ah,cO oa oa,bs]
   obtain ⟨b',z,e,_⟩:=ih (k+1) yN true oa oa
   exact ⟨b',z,e,fun h=>by omega⟩
  | false =>
   obtain ⟨q,eq⟩:=HT hN (a:=bQ out k) (b:=x) (hl k oa)
   rw [ak,ixM oa,bs,eq,bs,cO oa oa,bs]
   obtain ⟨b',z,e,_⟩:=ih (k+1) yN q oa oa
   exact ⟨b',z,e,fun h=>by omega⟩
def lY (N n:Nat) (yK:List bl) (x:dq):Prop:=FeasR N n yK x/\∃ l∈iQ yK.length 0 (n+yK.length),d5 N (kP (cm n yK) n yK.length l) (kB n l)=some (x,true)
theorem xo (n i:Nat):(mv n i).length=n:=by unfold mv;simp
theorem ES {n:Nat} {yK:List bl} {l:yP} (hl:l.length=yK.length):Shp yK.length yK.length (kP (cm n yK) n yK.length l):=by
 refine ⟨by unfold kP qO;rw [cB,cB,hl],fun i hi=>?_⟩
 have e:bQ (kP (cm n yK) n yK.length l) i=l7 (cm n yK) n yK.length (l[i]'oa).toNat:=by
  unfold bQ kP qO
  simp [hl,hi]
 rw [e]
 unfold l7
 split
 ·rename_i h;exact rn.2 _ h
 ·exact xo _ _
theorem La (hN:1073741824<=N) {n:Nat} {yK:List bl} (n1:1<=n) (n5:n<=5) (a1:1<=yK.length) (a4:yK.length<=4) :
  ∃ P,jn N (cm n yK) (bE n) (bE yK.length)=some P/\P.length<=100000/\(∀ x∈P,lY N n yK x)/\((∃ x,lY N n yK x/\ky N (cm n yK) (bE n) (bE yK.length) x 1=some true)->P≠[]):=by
 have l1:(bE n).length=n:=by unfold bE;simp
 have l2:(bE yK.length).length=yK.length:=by unfold bE;simp
 have hPl:=Nat.le_trans (x7 yK.length 0 (n+yK.length)) (IN oa a4)
 have ep:=Df yK.length N 0 (n+yK.length) a4 oa oa oa
 have hmem:=fun l (hl:l∈iQ yK.length 0 (n+yK.length))=>uo hl
 have key:∀ (c i yN:Nat) (out:fH),i+c=(iQ yK.length 0 (n+yK.length)).length->c<yN->out.length<=i->(∀ x∈out,lY N n yK x) ->
   ∃ P z,fM N yN 1 (cm n yK) (bE n) (bE yK.length) out (yK.length:Int) (n:Int) (iQ yK.length 0 (n+yK.length)) (i:Int)=some (P,z)/\P.length<=100000/\(∀ x∈P,lY N n yK x)/\(out≠[]->P≠[]) /\
    ∀ j (hj:j<(iQ yK.length 0 (n+yK.length)).length),i<=j->(∃ x,d5 N (kP (cm n yK) n yK.length (iQ yK.length 0 (n+yK.length))[j]) (kB n (iQ yK.length 0 (n+yK.length))[j])=some (x,true)/\ky N (cm n yK) (bE n) (bE yK.length) x 1=some true)->P≠[]:=by
  intro c
  induction c with
  | zero =>
   intro i yN out hi hf hol hop
   obtain ⟨yN,rfl⟩:∃ k',yN=k'+1:=⟨yN-1,oa⟩
   rw [fM,bf oa,ak]
   exact ⟨out,_,rfl,oa,hop,id,fun j hj h=>by omega⟩
  | succ c ih =>
   intro i yN out hi hf hol hop
   obtain ⟨yN,rfl⟩:∃ k',yN=k'+1:=⟨yN-1,oa⟩
   have hiL:i<(iQ yK.length 0 (n+yK.length)).length:=by omega
   obtain ⟨m1,m2⟩:=hmem _ (bC hiL)
   have hsh:=ES (n:=n) (yK:=yK) m1
   have hbl:(kB n (iQ yK.length 0 (n+yK.length))[i]).length=yK.length:=by unfold kB qO;rw [cB,cB,m1]
   obtain ⟨x,ok,es,hsol⟩:=A1 hN (n:=yK.length) oa hsh hbl
   rw [fM,ba oa,ah,LC hN a4 n5 g7 hiL m1 (fun v hv=>by have:=m2 v hv;omega),bs,lpB]
   dsimp only
   rw [es,bs]
   dsimp only
   cases ok with
   | false =>
    rw [ak,cO oa oa,bs]
    obtain ⟨P,z,e,g1,g2,g3,g4⟩:=ih (i+1) yN out oa oa oa hop
    refine ⟨P,z,e,g1,g2,g3,fun j hj hij hx=>?_⟩
    by_cases e:j=i
    ·subst e
     obtain ⟨x',e',_⟩:=hx
     rw [es] at e';cases e'
    ·exact g4 j hj oa hx
   | true =>
    have hxl:=(hsol rfl).1
    obtain ⟨b,eb,hb,_⟩:=Fz hN n1 n5 a1 a4 (x:=x) hxl
    rw [ah,eb,bs]
    cases b with
    | false =>
     rw [ak,cO oa oa,bs]
     obtain ⟨P,z,e,g1,g2,g3,g4⟩:=ih (i+1) yN out oa oa oa hop
     refine ⟨P,z,e,g1,g2,g3,fun j hj hij hx=>?_⟩
     by_cases e:j=i
     ·subst e
      obtain ⟨x',e',e2⟩:=hx
      rw [es] at e'
      obtain rfl:x=x':=bh Prod.fst (dz e')
      rw [eb] at e2;cases e2
     ·exact g4 j hj oa hx
    | true =>
     have hpx:lY N n yK x:=⟨hb rfl,_,bC hiL,es⟩
     obtain ⟨k,z,ek,hk⟩:=Mz hN (sg:=1) (n:=(yK.length:Int)) (m:=(n:Int)) (i:=(i:Int)) (A:=cm n yK) (B:=bE n) (C:=bE yK.length) (x:=x) (L:=iQ yK.length 0 (n+yK.length)) (out:=out) oa (fun j hj=>by
      have hm:bQ out j∈out:=by unfold bQ;simp [hj]
      have:=(hop _ hm).1.len
      omega) out.length 0 N false oa oa
     have ek':gY N N 1 (cm n yK) (bE n) (bE yK.length) out (yK.length:Int) (n:Int) (iQ yK.length 0 (n+yK.length)) (i:Int) x false 0=some (k,z):=ek
     rw [ah,ek',bs,lpB]
     dsimp only
     cases k with
     | true =>
      rw [ah,cO oa oa,bs]
      obtain ⟨P,z,e,g1,g2,g3,g4⟩:=ih (i+1) yN out oa oa oa hop
      have hne:out≠[]:=fun h0=>by
       rw [h0] at hk
       exact absurd (hk rfl) (by decide)
      exact ⟨P,z,e,g1,g2,g3,fun _ _ _ _=>g3 hne⟩
     | false =>
      rw [ak,bt (by decide) (by rw [bU];omega),bs,cO oa oa,bs]
      obtain ⟨P,z,e,g1,g2,g3,g4⟩:=ih (i+1) yN (out++[x]) oa oa (by rw [cj,bU];omega) (fun y hy=>by
       rcases dl.1 hy with h | h
       ·exact hop y h
       ·rw [fu.1 h];exact hpx)
      exact ⟨P,z,e,g1,g2,fun _=>g3 (by simp),fun _ _ _ _=>g3 (by simp)⟩
 obtain ⟨P,z,e,g1,g2,_,g4⟩:=key (iQ yK.length 0 (n+yK.length)).length 0 N [] oa oa (dB _) (by simp)
 have e':fM N N 1 (cm n yK) (bE n) (bE yK.length) [] (yK.length:Int) (n:Int) (iQ yK.length 0 (n+yK.length)) 0=some (P,z):=e
 have ep':gS N 0 ((n:Int)+(yK.length:Int)) (yK.length:Int)=some (iQ yK.length 0 (n+yK.length)):=by
  rw [show ((n:Int)+(yK.length:Int))=((n+yK.length:Nat):Int) by omega]
  exact ep
 refine ⟨P,?_,g1,g2,?_⟩
 ·unfold jn o0
  rw [IV hN n1 n5 a1 a4,bs,ah,l1,l2,cO oa oa,bs,ep',bs,e',bs,lpB,bs]
 ·rintro ⟨x,⟨_,l,hl,hs⟩,hside⟩
  obtain ⟨j,hj,rfl⟩:=ip hl
  exact g4 j hj (dB _) ⟨x,hs,hside⟩
end
section
variable {N:Nat}
theorem IA (hN:1073741824<=N) {a b K:Int} (hK:K=1\/K=2\/K=3) (ha:a=1\/a=K) (hb:b=1\/b=K):∃ g,jb N a b=some g/\∃ q,qt a g=some q/\ml q b=some (if b=1 then a else K):=by
 obtain ⟨g,e,g1,g2,g3,g4⟩:=yk (N:=N) hN (x:=a) (y:=b) oa oa oa
 have gp:=g3 (.inl oa)
 refine ⟨g,e,?_⟩
 have l1:=tv oa g1
 have l2:=tv oa g2
 by_cases h1:a=1
 ·obtain rfl:g=1:=by omega
  refine ⟨a,by rw [h1];rfl,?_⟩
  rw [iN (by rw [h1];omega) (by rw [h1];omega),h1,Int.one_mul]
  split
  ·rename_i h;rw [h]
  ·rcases hb with h | h
   ·contradiction
   ·rw [h]
 ·by_cases h2:b=1
  ·obtain rfl:g=1:=by omega
   refine ⟨a,?_,?_⟩
   ·rcases hK with h | h | h <;> rcases ha with h3 | h3 <;> first | (exact absurd h3 h1) | (rw [h3,h];rfl)
   ·rw [aZ h2,h2,iN oa oa,uT]
  ·have ea:a=K:=by omega
   have eb:b=K:=by omega
   have l3:=tv gp (g4 K (by rw [ea];exact Int.dvd_refl K) (by rw [eb];exact Int.dvd_refl K))
   obtain rfl:g=K:=by omega
   refine ⟨1,?_,?_⟩
   ·rcases hK with h | h | h <;> rw [ea,h] <;> rfl
   ·rw [bb h2,eb,iN oa oa,Int.one_mul]
structure DenOk (N:Nat) (K:Int) (x:dq):Prop where
 hK:K=1\/K=2\/K=3
 len:x.length<=4
 ok:∀ j,j<x.length->VR N (aY x j)/\0<=(aY x j).1
 den:∀ j,j<x.length->(aY x j).2=1\/(aY x j).2=K
theorem DenOk.w (hN:1073741824<=N) {K:Int} {x:dq} (h:DenOk N K x):∀ i,i<x.length->wOk N (x.getD i (0,0))=true:=fun i hi=>by
 obtain ⟨h1,h2⟩:=h.ok i hi
 unfold VR at h1
 rw [HX] at h1
 unfold wOk
 have e:x.getD i (0,0)=aY x i:=rfl
 rw [e,h1,ba h2];rfl
theorem Ke (hN:1073741824<=N) {K:Int} {x:dq} (h:DenOk N K x):∀ (c k yN:Nat) (d:Int),k+c=x.length->c<yN->(d=1\/d=K) ->
  ∃ d' z,fO N yN x d (k:Int)=some (.inr (d',z))/\(d'=1\/d'=K)/\(d=K->d'=K)/\∀ j,k<=j->j<x.length->(aY x j).2=1\/(aY x j).2=d':=by
 intro c
 induction c with
 | zero =>
  intro k yN d hk hf hd
  obtain ⟨yN,rfl⟩:∃ k',yN=k'+1:=⟨yN-1,oa⟩
  rw [fO,bf oa,ak]
  exact ⟨d,_,rfl,hd,id,fun j h1 h2=>by omega⟩
 | succ c ih =>
  intro k yN d hk hf hd
  obtain ⟨yN,rfl⟩:∃ k',yN=k'+1:=⟨yN-1,oa⟩
  have hx4:=h.len
  have hKK:=h.hK
  obtain ⟨h1,h2⟩:=h.ok k oa
  have h3:=h.den k oa
  obtain ⟨g,eg,q,eq,em⟩:=IA hN hKK hd h3
  unfold VR at h1
  rw [fO,ba oa,ah,lV oa,bs,h1,bs,ah,bs,bf oa,ak,bs,eg,bs,eq,bs,bs,em,bs]
  have hd2:(if (aY x k).2=1 then d else K)=1\/(if (aY x k).2=1 then d else K)=K:=by
   split
   ·exact hd
   ·exact .inr rfl
  have hle:¬ (1000<(if (aY x k).2=1 then d else K)):=by rcases hd2 with h | h <;> rw [h] <;> omega
  rw [bf hle,ak,cO oa oa,bs]
  obtain ⟨d',z,e,g1,g2,g3⟩:=ih (k+1) yN _ oa oa hd2
  refine ⟨d',z,e,g1,fun hdK=>g2 (by rw [hdK];split <;> rfl),fun j hj hjl=>?_⟩
  by_cases ej:j=k
  ·subst ej
   by_cases h5:(aY x j).2=1
   ·exact .inl h5
   ·refine .inr ?_
    rw [g2 (by rw [bb h5])]
    rcases h3 with h | h
    ·contradiction
    ·exact h
  ·exact g3 j oa hjl
theorem JZ (hN:1073741824<=N) {K:Int} {x:dq} (h:DenOk N K x):∃ d:Int,(d=1\/d=K)/\eV N x=some (nP x d x.length,d)/\∀ j,j<x.length->∃ v:Int,(nP x d x.length).getD j 0=v/\0<=v/\(v:Rat)=(d:Rat)*rv (aY x j):=by
 obtain ⟨d,z,e,h1,_,h2⟩:=Ke hN h x.length 0 N 1 oa (by have:=h.len;omega) (.inl rfl)
 have hKK:=h.hK
 have hx4:=h.len
 have e':fO N N x 1 0=some (.inr (d,z)):=e
 refine ⟨d,h1,?_,fun j hj=>?_⟩
 ·unfold eV
  rw [e',bs,kt]
  dsimp only
  rw [Hl hN oa (h.w hN) oa oa,bs,lpB]
 ·have hj2:=h2 j oa hj
  obtain ⟨g1,g2⟩:=h.ok j hj
  have ev:(nP x d x.length).getD j 0=(aY x j).1*d.tdiv (aY x j).2:=by
   unfold nP aY
   simp [hj]
  refine ⟨_,ev,?_,?_⟩
  ·refine vq g2 (Int.tdiv_nonneg oa oa)
  ·have hq:=pO hN g1
   have key:(d.tdiv (aY x j).2)*(aY x j).2=d:=by
    rcases hj2 with h | h
    ·rw [h,Int.tdiv_one,uT]
    ·rw [h,Int.tdiv_self oa,Int.one_mul]
   have kR:((d.tdiv (aY x j).2:Int):Rat)*((aY x j).2:Rat)=(d:Rat):=by
    rw [<- ku,key]
   rw [ku]
   unfold rv
   rw [<- kR]
   grind
end
abbrev Q4:=(Int × Int × Int × Int) × Int
abbrev V4:=Int × Int × Int × Int
def lnI (e:V4) (y:V4):Int:=e.1*y.1+e.2.1*y.2.1+e.2.2.1*y.2.2.1+e.2.2.2*y.2.2.2
def wv:List Q4:=[((1,0,0,0),1),((0,1,0,0),1),((1,1,0,0),1),((0,0,1,0),1),((1,0,1,0),1),((0,1,1,0),1),((1,1,1,0),1),((0,0,0,1),1),((1,0,0,1),1),((0,1,0,1),1),((1,1,0,1),1),((0,0,1,1),1),((1,0,1,1),1),((0,1,1,1),1),((1,1,1,1),1),((1,0,0,0),0),((0,1,0,0),0),((0,0,1,0),0),((0,0,0,1),0)]
def Ln:List V4:=[(0,0,0,(-1)),(0,0,(-1),0),(0,(-1),0,0),((-1),0,0,0),((-1),0,0,1),((-1),0,1,0),(0,(-1),0,1),(0,0,(-1),1),(0,(-1),1,0),((-1),1,0,0),((-1),(-1),0,1),((-1),0,(-1),1),((-1),(-1),1,0),(0,(-1),(-1),1),((-1),0,1,(-1)),((-1),1,(-1),0),(0,(-1),1,(-1)),((-1),1,0,(-1)),((-1),0,1,1),((-1),1,0,1),(0,(-1),1,1),((-1),1,1,0),((-1),(-1),1,1),(0,0,(-1),(-1)),(0,(-1),0,(-1)),(0,(-1),(-1),0),((-1),0,0,(-1)),((-1),0,(-1),0),((-1),(-1),0,0),((-1),1,(-1),1),((-1),1,1,(-1)),((-1),(-1),(-1),1),((-1),(-1),1,(-1)),((-1),1,(-1),(-1)),(0,(-1),(-1),(-1)),((-1),0,(-1),(-1)),((-1),(-1),0,(-1)),((-1),(-1),(-1),0),((-1),(-1),(-1),(-1)),((-1),1,1,1),((-1),1,1,(-2)),((-1),1,(-1),2),((-1),1,(-2),1),((-1),1,2,(-1)),((-1),(-1),1,2),((-1),(-2),1,1),((-1),2,1,(-1)),((-2),(-1),1,1),((-2),1,(-1),1),((-1),(-1),2,1),((-1),2,(-1),1),((-2),1,1,(-1)),((-2),1,1,1),((-1),2,(-1),(-1)),((-1),(-1),2,(-1)),((-1),(-1),(-1),2)]
def d2 (a b c d:Int):Int:=a*d-b*c
def d3 (a b c d e f g h i:Int):Int:=a*d2 e f h i-b*d2 d f g i+c*d2 d e g h
def d4 (a b c d:V4):Int:=a.1*d3 b.2.1 b.2.2.1 b.2.2.2 c.2.1 c.2.2.1 c.2.2.2 d.2.1 d.2.2.1 d.2.2.2-a.2.1*d3 b.1 b.2.2.1 b.2.2.2 c.1 c.2.2.1 c.2.2.2 d.1 d.2.2.1 d.2.2.2+a.2.2.1*d3 b.1 b.2.1 b.2.2.2 c.1 c.2.1 c.2.2.2 d.1 d.2.1 d.2.2.2-a.2.2.2*d3 b.1 b.2.1 b.2.2.1 c.1 c.2.1 c.2.2.1 d.1 d.2.1 d.2.2.1
def cr (f:Q4->V4) (a b c d:Q4):Int:=d4 (f a) (f b) (f c) (f d)
def A5 (a b c d:Q4):V4:=(cr (fun e=>(e.2,e.1.2)) a b c d,cr (fun e=>(e.1.1,e.2,e.1.2.2)) a b c d,cr (fun e=>(e.1.1,e.1.2.1,e.2,e.1.2.2.2)) a b c d,cr (fun e=>(e.1.1,e.1.2.1,e.1.2.2.1,e.2)) a b c d)
def Ih (y:V4):Bool:=decide (y.1.natAbs<=3)&&decide (y.2.1.natAbs<=3)&&decide (y.2.2.1.natAbs<=3)&&decide (y.2.2.2.natAbs<=3)
def Hn:List Q4->Bool
 | [a,b,c,d]=>!(cr (fun e=>e.1) a b c d == 0)&&decide ((cr (fun e=>e.1) a b c d).natAbs<=3)&&Ih (A5 a b c d)&&[a,b,c,d].all fun e=>lnI e.1 (A5 a b c d) == cr (fun e=>e.1) a b c d*e.2
 | _=>false
def GT (F:List Q4):Bool:=Ln.any (fun k=>F.all fun e=>lnI e.1 k == 0)||Hn F
def yo {α:Type}:Nat->List α->List (List α)
 | _,[]=>[[]]
 | 0,_ :: _=>[[]]
 | k+1,a :: l=>(yo k l).map (a :: ·)++yo (k+1) l
theorem ME:(yo 4 wv).all GT=true:=by decide +kernel
theorem xL {α:Type}:∀ {l s:List α} {k:Nat},s.Sublist l->s.length<=k->s∈yo k l
 | [],s,k,h,_=>by
  rw [List.sublist_nil.1 h]
  cases k <;> exact fu.2 rfl
 | a :: l,s,0,_,hk=>by
  rw [li.1 (Nat.le_zero.1 hk)]
  exact fu.2 rfl
 | a :: l,s,k+1,h,hk=>by
  unfold yo
  cases h with
  | cons _ h=>exact jU _ (xL h hk)
  | cons_cons _ h=>exact ib _ (fm.2 ⟨_,xL h (by simpa using hk),rfl⟩)
abbrev R4:=Rat × Rat × Rat × Rat
def lnR (e:V4) (y:R4):Rat:=e.1*y.1+e.2.1*y.2.1+e.2.2.1*y.2.2.1+e.2.2.2*y.2.2.2
def wz (y:V4):R4:=(y.1,y.2.1,y.2.2.1,y.2.2.2)
theorem DO (e y:V4):lnR e (wz y)=((lnI e y:Int):Rat):=by
 unfold lnR wz lnI
 simp only [Rat.intCast_add,ku]
def FH (x y:R4):R4:=(x.1+y.1,x.2.1+y.2.1,x.2.2.1+y.2.2.1,x.2.2.2+y.2.2.2)
def Ab (c:Rat) (y:R4):R4:=(c*y.1,c*y.2.1,c*y.2.2.1,c*y.2.2.2)
theorem Ja (e:V4) (x y:R4):lnR e (FH x y)=lnR e x+lnR e y:=by
 unfold lnR FH
 grind
theorem Kd (e:V4) (c:Rat) (y:R4):lnR e (Ab c y)=c*lnR e y:=by
 unfold lnR Ab
 grind
theorem Js:∀ k∈Ln,k≠(0,0,0,0):=by decide
theorem C7 {E:List Q4} (hE:∀ e∈E,e∈wv) (hl:E.length<=4) {x:R4} (hx:∀ e∈E,lnR e.1 x=(e.2:Rat)) (hu:∀ y:R4,(∀ e∈E,lnR e.1 y=(e.2:Rat))->y=x) :
  ∃ D:Int,D≠0/\D.natAbs<=3/\∃ y:V4,Ab D x=wz y/\Ih y=true:=by
 have hF:wv.filter (fun e=>decide (e∈E))∈yo 4 wv:=by
  refine xL AI ?_
  refine Nat.le_trans (List.Nodup.length_le_of_subset ?_ ?_) hl
  ·exact List.Nodup.sublist AI (by decide)
  ·intro e he
   exact qU (mF.1 he).2
 have hFE:∀ e,e∈wv.filter (fun e=>decide (e∈E))↔e∈E:=by
  intro e
  rw [mF,dN]
  exact ⟨fun h=>h.2,fun h=>⟨hE e h,h⟩⟩
 have hs:=dQ.1 ME _ hF
 generalize wv.filter (fun e=>decide (e∈E))=F at hF hFE hs
 unfold GT at hs
 rw [rO] at hs
 rcases hs with hs | hs
 ·exfalso
  obtain ⟨k,hk,hs⟩:=List.any_eq_true.1 hs
  have h1:=hu (FH x (wz k)) (fun e he=>by
   have h2:=dQ.1 hs e ((hFE e).2 he)
   rw [rX] at h2
   rw [Ja,DO,h2,hx e he]
   exact Rat.add_zero _)
  have h3:∀ {a:Rat} {z:Int},a+(z:Rat)=a->z=0:=by
   intro a z h
   have h4:(z:Rat)=((0:Int):Rat):=by
    have e0:((0:Int):Rat)=0:=rfl
    rw [e0];grind
   exact Rat.intCast_inj.1 h4
  unfold FH wz at h1
  have e1:=bh Prod.fst h1
  have e2:=bh (fun p:R4=>p.2.1) h1
  have e3:=bh (fun p:R4=>p.2.2.1) h1
  have e4:=bh (fun p:R4=>p.2.2.2) h1
  refine Js k hk ?_
  obtain ⟨k1,k2,k3,k4⟩:=k
  rw [show k1=0 from h3 e1,show k2=0 from h3 e2,show k3=0 from h3 e3,show k4=0 from h3 e4]
 ·match F,hs,hFE with
  | [a,b,c,d],hs,hFE =>
   unfold Hn at hs
   rw [b9,b9,b9,dN] at hs
   obtain ⟨⟨⟨h1,h2⟩,ht⟩,h3⟩:=hs
   have hD:cr (fun e=>e.1) a b c d≠0:=by
    intro h
    rw [h] at h1
    exact absurd h1 (by decide)
   have h4:∀ e∈E,lnI e.1 (A5 a b c d)=cr (fun e=>e.1) a b c d*e.2:=fun e he=>by
    have h5:=dQ.1 h3 e ((hFE e).2 he)
    rw [rX] at h5
    exact h5
   generalize cr (fun e=>e.1) a b c d=D at hD h2 h4
   generalize A5 a b c d=y at h4 ht
   refine ⟨D,hD,h2,y,?_,ht⟩
   have hDR:(D:Rat)≠0:=fun h=>hD (vI.1 h)
   have h6:=hu (Ab (D:Rat)⁻¹ (wz y)) (fun e he=>by
    rw [Kd,DO,h4 e he,ku,<- Rat.mul_assoc,Rat.inv_mul_cancel _ hDR,Rat.one_mul])
   rw [<- h6]
   unfold Ab wz
   simp only [<- Rat.mul_assoc,Rat.mul_inv_cancel _ hDR,Rat.one_mul]
def oW (y:R4):Nat->Rat
 | 0=>y.1
 | 1=>y.2.1
 | 2=>y.2.2.1
 | 3=>y.2.2.2
 | _=>0
def mk4 (g:Nat->Rat):R4:=(g 0,g 1,g 2,g 3)
theorem Gr (g:Nat->Rat) {j:Nat} (h:j<4):oW (mk4 g) j=g j:=by
 match j,h with
 | 0,_=>rfl
 | 1,_=>rfl
 | 2,_=>rfl
 | 3,_=>rfl
theorem H4 (y:R4):mk4 (oW y)=y:=rfl
theorem Hs {g h:Nat->Rat} (e:∀ j,j<4->g j=h j):mk4 g=mk4 h:=by
 unfold mk4
 rw [e 0 (by decide),e 1 (by decide),e 2 (by decide),e 3 (by decide)]
theorem Mf {g:Nat->Rat}:∀ {n:Nat},n<=4->(∀ j,n<=j->j<4->g j=0)->eJ 4 g=eJ n g:=by
 intro n hn h
 match n,hn,h with
 | 4,_,_=>rfl
 | 3,_,h =>
  have h3:=h 3 (by decide) (by decide)
  show eJ 3 g+g 3=_
  rw [h3];grind
 | 2,_,h =>
  have h3:=h 3 (by decide) (by decide)
  have h2:=h 2 (by decide) (by decide)
  show eJ 2 g+g 2+g 3=_
  rw [h3,h2];grind
 | 1,_,h =>
  have h3:=h 3 (by decide) (by decide)
  have h2:=h 2 (by decide) (by decide)
  have h1:=h 1 (by decide) (by decide)
  show eJ 1 g+g 1+g 2+g 3=_
  rw [h3,h2,h1];grind
 | 0,_,h =>
  have h3:=h 3 (by decide) (by decide)
  have h2:=h 2 (by decide) (by decide)
  have h1:=h 1 (by decide) (by decide)
  have h0:=h 0 (by decide) (by decide)
  show eJ 0 g+g 0+g 1+g 2+g 3=_
  rw [h3,h2,h1,h0];grind
theorem Cd {g:Nat->Rat}:∀ {n:Nat},(∀ j,j<n->g j=0)->eJ n g=0
 | 0,_=>rfl
 | n+1,h=>by
  have h1:=Cd (n:=n) fun j hj=>h j oa
  have h2:=h n oa
  unfold eJ
  rw [h1,h2];grind
def qC (r:dq) (b:Int):Q4:=(((aY r 0).1,(aY r 1).1,(aY r 2).1,(aY r 3).1),b)
theorem Gy {r:iI} (h:pU r):rv r=(r.1:Rat):=by
 rcases h with rfl | rfl
 ·exact qD 0
 ·exact qD 1
theorem ER {r:dq} {na:Nat} (hl:r.length=na) (h4:na<=4) (hb:∀ j,j<na->pU (aY r j)) (b:Int) (y:R4):lnR (qC r b).1 y=eJ na (fun j=>rv (aY r j)*oW y j):=by
 have h0:∀ j,na<=j->(aY r j).1=0:=fun j hj=>by
  unfold aY
  rw [q7,List.getElem?_eq_none oa];rfl
 have e1:eJ na (fun j=>rv (aY r j)*oW y j)=eJ na (fun j=>((aY r j).1:Rat)*oW y j):=hQ fun j hj=>by rw [Gy (hb j hj)]
 rw [e1,<- Mf h4 fun j h1 h2=>by
  rw [h0 j h1]
  have:((0:Int):Rat)=0:=rfl
  rw [this];exact xR _]
 show _=(0:Rat)+_*_+_*_+_*_+_*_
 unfold lnR qC oW
 dsimp only
 grind
theorem Cz {n j:Nat} (h:j<n):aY (List.replicate n (0,1)) j=(0,1):=by
 unfold aY;simp [h]
theorem DM (y:R4):∀ j,j<4->lnR (qC (mv 4 j) 0).1 y=oW y j:=by
 intro j hj
 rw [ER (xo 4 j) (bY 4) (fun i hi=>?_) 0 y]
 ·rw [zx hj fun i hi hij=>?_]
  ·have:aY (mv 4 j) j=(1,1):=by unfold mv;rw [rY (by rw [yb];exact hj),aZ rfl]
   rw [this,qD]
   have e:((1:Int):Rat)=1:=rfl
   rw [e];grind
  ·have:aY (mv 4 j) i=(0,1):=by
    unfold mv
    rw [rY (by rw [yb];exact hj),bb hij]
    exact Cz hi
   rw [this,qD]
   have e:((0:Int):Rat)=0:=rfl
   rw [e];exact xR _
 ·unfold mv
  rw [rY (by rw [yb];exact hj)]
  split
  ·exact .inr rfl
  ·exact .inl (Cz hi)
theorem Je:∀ a∈([0,1]:yP),∀ b∈([0,1]:yP),∀ c∈([0,1]:yP),∀ d∈([0,1]:yP),(a=0/\b=0/\c=0/\d=0)\/((a,b,c,d),(1:Int))∈wv:=by decide
theorem E8:∀ na,na<=4->∀ i,i<na->qC (mv na i) 0∈wv:=by
 intro na hna
 match na,hna with
 | 0,_=>intro i hi;exact absurd hi (Nat.not_lt_zero i)
 | 1,_=>intro i hi;match i,hi with
  | 0,_=>decide
 | 2,_=>intro i hi;match i,hi with
  | 0,_=>decide
  | 1,_=>decide
 | 3,_=>intro i hi;match i,hi with
  | 0,_=>decide
  | 1,_=>decide
  | 2,_=>decide
 | 4,_=>intro i hi;match i,hi with
  | 0,_=>decide
  | 1,_=>decide
  | 2,_=>decide
  | 3,_=>decide
theorem Gp {n i j:Nat} (hi:i<n) (hj:j<n):pU (aY (mv n i) j):=by
 unfold mv
 rw [rY (by simpa using hi)]
 split
 ·exact .inr rfl
 ·refine .inl ?_
  unfold aY;simp [hj]
section
variable {N:Nat}
theorem HO (hN:1073741824<=N) {n:Nat} {yK:List bl} (n5:n<=5) (a1:1<=yK.length) (a4:yK.length<=4) {x:dq} (hp:lY N n yK x) :
  ∃ K:Int,DenOk N K x/\∀ j,j<x.length->(K:Rat)*rv (aY x j)<=3:=by
 obtain ⟨F,l,hl,hs⟩:=hp
 obtain ⟨m1,m2⟩:=uo hl
 have hxl:=F.len
 have hsh:=ES (n:=n) (yK:=yK) m1
 have hbl:(kB n l).length=yK.length:=by unfold kB qO;rw [cB,cB,m1]
 obtain ⟨x',ok,es,hsol⟩:=A1 hN (n:=yK.length) oa hsh hbl
 rw [hs] at es
 obtain ⟨rfl,rfl⟩:x=x'/\true=ok:=by
  have:=dz es
  exact ⟨bh Prod.fst this,bh Prod.snd this⟩
 obtain ⟨_,hv,hiff⟩:=hsol rfl
 have hrow:∀ i (hi:i<yK.length),bQ (kP (cm n yK) n yK.length l) i=l7 (cm n yK) n yK.length (l[i]'oa).toNat/\aY (kB n l) i=oA n (l[i]'oa).toNat:=fun i hi=>by
  constructor
  ·unfold bQ kP qO
   simp [m1,hi]
  ·unfold aY kB qO
   simp [m1,hi]
 -- the rows are bits
 have hrb:∀ k:Nat,k<n+yK.length->(l7 (cm n yK) n yK.length k).length=yK.length/\∀ j,j<yK.length->pU (aY (l7 (cm n yK) n yK.length k) j):=fun k hk=>by
  unfold l7
  split
  ·rename_i h
   refine ⟨rn.2 k h,fun j hj=>?_⟩
   have:aY (bQ (cm n yK) k) j=cell (cm n yK) k j:=rfl
   rw [this,oE h hj]
   exact tg _ _
  ·exact ⟨xo _ _,fun j hj=>Gp oa hj⟩
 have hlt:∀ i (hi:i<yK.length),(l[i]'oa).toNat<n+yK.length:=fun i hi=>by
  have:=m2 _ (bC (show i<l.length by omega))
  omega
 let E:List Q4:=(List.range' 0 yK.length).map (fun i=>qC (l7 (cm n yK) n yK.length (l.getD i 0).toNat) (oA n (l.getD i 0).toNat).1)++(List.range' yK.length (4-yK.length)).map (fun j=>qC (mv 4 j) 0)
 have hgd:∀ i (hi:i<yK.length),l.getD i 0=l[i]'oa:=fun i hi=>by simp [m1,hi]
 have memE:∀ e,e∈E->(∃ i,∃ hi:i<yK.length,e=qC (bQ (kP (cm n yK) n yK.length l) i) (aY (kB n l) i).1)\/∃ j,yK.length<=j/\j<4/\e=qC (mv 4 j) 0:=fun e he=>by
  rcases dl.1 he with h | h
  ·obtain ⟨i,hi,rfl⟩:=fm.1 h
   have hi:i<yK.length:=by simpa using hi
   refine .inl ⟨i,hi,?_⟩
   rw [(hrow i hi).1,(hrow i hi).2,hgd i hi]
  ·obtain ⟨j,hj,rfl⟩:=fm.1 h
   rw [BC] at hj
   exact .inr ⟨j,hj.1,oa,rfl⟩
 have inE1:∀ i,i<yK.length->qC (bQ (kP (cm n yK) n yK.length l) i) (aY (kB n l) i).1∈E:=fun i hi=>by
  refine ib _ (fm.2 ⟨i,by simpa using hi,?_⟩)
  rw [(hrow i hi).1,(hrow i hi).2,hgd i hi]
 have inE2:∀ j,yK.length<=j->j<4->qC (mv 4 j) 0∈E:=fun j h1 h2 =>
  jU _ (fm.2 ⟨j,BC.2 ⟨h1,oa⟩,rfl⟩)
 have hrl:∀ i (hi:i<yK.length) (b:Int) (y:R4),lnR (qC (bQ (kP (cm n yK) n yK.length l) i) b).1 y=eJ yK.length (fun j=>cv (kP (cm n yK) n yK.length l) i j*oW y j):=fun i hi b y=>by
  obtain ⟨k1,k2⟩:=hrb _ (hlt i hi)
  rw [(hrow i hi).1,ER k1 a4 k2]
  refine hQ fun j hj=>?_
  unfold cv cell
  rw [(hrow i hi).1]
 have hrhs:∀ i (hi:i<yK.length),rv (aY (kB n l) i)=((aY (kB n l) i).1:Rat):=fun i hi=>by
  rw [(hrow i hi).2]
  refine Gy ?_
  unfold oA
  split
  ·exact .inr rfl
  ·exact .inl rfl
 have hE:∀ e∈E,e∈wv:=fun e he=>by
  rcases memE e he with ⟨i,hi,rfl⟩ | ⟨j,h1,h2,rfl⟩
  ·obtain ⟨k1,k2⟩:=hrb _ (hlt i hi)
   rw [(hrow i hi).1,(hrow i hi).2]
   by_cases hn:(l[i]'oa).toNat<n
   ·have er:l7 (cm n yK) n yK.length (l[i]'oa).toNat=bQ (cm n yK) (l[i]'oa).toNat:=by unfold l7;rw [aZ hn]
    have eb:oA n (l[i]'oa).toNat=(1,1):=by unfold oA;rw [aZ hn]
    rw [eb]
    have hz:=F.ge _ hn
    rw [er] at k1 k2 ⊢
    have hbit:∀ j,(aY (bQ (cm n yK) (l[i]'oa).toNat) j).1∈([0,1]:yP):=fun j=>by
     by_cases hj:j<yK.length
     ·rcases k2 j hj with h | h <;> rw [h] <;> decide
     ·have:(aY (bQ (cm n yK) (l[i]'oa).toNat) j).1=0:=by
       unfold aY
       rw [q7,List.getElem?_eq_none oa];rfl
      rw [this];decide
    rcases Je _ (hbit 0) _ (hbit 1) _ (hbit 2) _ (hbit 3) with ⟨z0,z1,z2,z3⟩ | h
    ·exfalso
     have hall:∀ j,j<yK.length->cv (cm n yK) (l[i]'oa).toNat j=0:=fun j hj=>by
      have hzj:(aY (bQ (cm n yK) (l[i]'oa).toNat) j).1=0:=by
       match j,(show j<4 by omega) with
       | 0,_=>exact z0
       | 1,_=>exact z1
       | 2,_=>exact z2
       | 3,_=>exact z3
      exact EV hzj
     rw [Cd fun j hj=>by rw [hall j hj];exact xR _] at hz
     exact absurd hz (by decide)
    ·exact h
   ·have er:l7 (cm n yK) n yK.length (l[i]'oa).toNat=mv yK.length ((l[i]'oa).toNat-n):=by unfold l7;rw [bb hn]
    have eb:oA n (l[i]'oa).toNat=(0,1):=by unfold oA;rw [bb hn]
    rw [er,eb]
    exact E8 _ a4 _ (by have:=hlt i hi;omega)
  ·exact E8 4 (bY 4) j h2
 have hEl:E.length<=4:=by
  show (List.map _ _++List.map _ _).length<=4
  rw [cj,cB,cB,xM,xM]
  omega
 have hx4:∀ j,j<4->oW (mk4 fun j=>if j<yK.length then rv (aY x j) else 0) j=if j<yK.length then rv (aY x j) else 0:=fun j hj=>Gr _ hj
 have hself:=(hiff fun j=>rv (aY x j)).2 fun j _=>rfl
 obtain ⟨D,D0,D3,y,hy,ht⟩:=C7 hE hEl (x:=mk4 fun j=>if j<yK.length then rv (aY x j) else 0) (fun e he=>by
  rcases memE e he with ⟨i,hi,rfl⟩ | ⟨j,h1,h2,rfl⟩
  ·rw [hrl i hi]
   show _=(((aY (kB n l) i).1:Int):Rat)
   rw [<- hrhs i hi,<- hself i hi]
   refine hQ fun j hj=>?_
   rw [hx4 j oa,aZ hj]
  ·rw [DM _ j h2,hx4 j h2,bb oa]
   rfl) (fun z hz=>by
  have h1:=(hiff (oW z)).1 fun i hi=>by
   have h2:=hz _ (inE1 i hi)
   rw [hrl i hi] at h2
   rw [hrhs i hi]
   exact h2
  rw [<- H4 z]
  refine Hs fun j hj=>?_
  by_cases hja:j<yK.length
  ·rw [aZ hja];exact h1 j hja
  ·rw [bb hja]
   have h3:=hz _ (inE2 j oa hj)
   rw [DM _ j hj] at h3
   exact h3)
 have hcomp:∀ j,j<x.length->∃ w:Int,w.natAbs<=3/\(D:Rat)*rv (aY x j)=(w:Rat):=fun j hj=>by
  have hja:j<yK.length:=by omega
  have h1:=bh (fun z=>oW z j) hy
  unfold Ih at ht
  simp only [b9,dN] at ht
  have h2:oW (Ab (D:Rat) (mk4 fun j=>if j<yK.length then rv (aY x j) else 0)) j=(D:Rat)*rv (aY x j):=by
   have h3:oW (Ab (D:Rat) (mk4 fun j=>if j<yK.length then rv (aY x j) else 0)) j=(D:Rat)*(if j<yK.length then rv (aY x j) else 0):=by
    match j,(show j<4 by omega) with
    | 0,_=>rfl
    | 1,_=>rfl
    | 2,_=>rfl
    | 3,_=>rfl
   rw [h3,aZ hja]
  rw [h2] at h1
  match j,(show j<4 by omega),h1 with
  | 0,_,h1=>exact ⟨y.1,ht.1.1.1,h1⟩
  | 1,_,h1=>exact ⟨y.2.1,ht.1.1.2,h1⟩
  | 2,_,h1=>exact ⟨y.2.2.1,ht.1.2,h1⟩
  | 3,_,h1=>exact ⟨y.2.2.2,ht.2,h1⟩
 have hden:∀ j,j<x.length->(aY x j).2 ∣ D:=fun j hj=>by
  obtain ⟨w,_,hw⟩:=hcomp j hj
  obtain ⟨g1,_⟩:=F.ok j hj
  have hq:=pO hN g1
  have hg:=((lX hN).1 g1).2.2.2.2
  have h1:((D*(aY x j).1:Int):Rat)=((w*(aY x j).2:Int):Rat):=by
   rw [ku,ku,<- hw]
   unfold rv
   grind
  have h2:=Rat.intCast_inj.1 h1
  have h3:(aY x j).2 ∣ D*(aY x j).1:=by rw [h2];exact Int.dvd_mul_left _ _
  have h4:=Int.natAbs_dvd_natAbs.2 h3
  rw [Int.natAbs_mul] at h4
  have h5:Nat.Coprime (aY x j).2.natAbs (aY x j).1.natAbs:=by
   unfold Nat.Coprime
   rw [Nat.gcd_comm]
   exact hg
  exact Int.natAbs_dvd_natAbs.1 (h5.dvd_of_dvd_mul_right h4)
 refine ⟨(D.natAbs:Int),⟨oa,oa,F.ok,fun j hj=>?_⟩,fun j hj=>?_⟩
 ·have h1:=hden j hj
  have h2:(aY x j).2 ∣ (D.natAbs:Int):=Int.dvd_natAbs.2 h1
  have h3:=((lX hN).1 (F.ok j hj).1).1
  have h4:=tv oa h2
  generalize (aY x j).2=q at h2 h3 h4
  by_cases e1:q=1
  ·exact .inl e1
  ·by_cases e2:q=(D.natAbs:Int)
   ·exact .inr e2
   ·have e3:q=2:=by omega
    have e4:(D.natAbs:Int)=3:=by omega
    rw [e3,e4] at h2
    exact absurd h2 (by decide)
 ·obtain ⟨w,w3,hw⟩:=hcomp j hj
  have h0:0<=rv (aY x j):=by
   have h1:=(F.ok j hj).2
   have h3:=((lX hN).1 (F.ok j hj).1).1
   unfold rv
   rw [pB]
   exact nS (Rat.intCast_nonneg.2 h1) (tK (Rat.inv_pos.2 (Rat.intCast_pos.2 oa)))
  have e3:((3:Int):Rat)=3:=rfl
  rcases Int.natAbs_eq D with e | e
  ·rw [<- e,hw,<- e3]
   exact xE.2 oa
  ·have h5:((D.natAbs:Int):Rat)*rv (aY x j)=((-w:Int):Rat):=by
    have h6:(D.natAbs:Int)=-D:=by omega
    rw [h6,xG,xG,Rat.neg_mul,hw]
   rw [h5,<- e3]
   exact xE.2 oa
end
def wtL (k:Nat->Nat) (I:List Nat):List Nat:=I.flatMap fun i=>List.replicate (k i) i
theorem Ge (c:Nat->Bool) (m i:Nat):((List.replicate m i).filter c).length=if c i=true then m else 0:=by
 rw [List.filter_replicate]
 split <;> simp
theorem Fq (c:Nat->Bool) (k:Nat->Nat):∀ I:List Nat,((wtL k I).filter c).length=smN (I.map fun i=>if c i=true then k i else 0)
 | []=>rfl
 | i :: I=>by
  have ih:=Fq c k I
  unfold wtL at ih ⊢
  rw [ue,vi,cj,Ge,ih];rfl
theorem BW:∀ a b:List Nat,prN (a++b)=prN a*prN b
 | [],b=>by rw [List.nil_append];exact (nz _).symm
 | x :: a,b=>by
  have:=BW a b
  show x*prN (a++b)=x*prN a*prN b
  rw [this,Nat.mul_assoc]
theorem Jg (m x:Nat):prN (List.replicate m x)=x ^ m:=by
 induction m with
 | zero=>rfl
 | succ m ih =>
  rw [AO,rN,Nat.mul_comm]
  show x*prN (List.replicate m x)=_
  rw [ih]
theorem GJ (k f:Nat->Nat):∀ I:List Nat,prN ((wtL k I).map f)=prN (I.map fun i=>f i ^ k i)
 | []=>rfl
 | i :: I=>by
  have ih:=GJ k f I
  unfold wtL at ih ⊢
  rw [ue,fv,BW,ih,List.map_replicate,Jg];rfl
theorem DW (k:Nat->Nat):∀ n:Nat,eJ n (fun j=>((k j:Nat):Rat))=((smN ((List.range' 0 n).map k):Nat):Rat)
 | 0=>rfl
 | n+1=>by
  have ih:=DW k n
  rw [pn,fv,wt]
  unfold eJ
  rw [ih,vh]
  simp only [fh,nz,gd,nZ]
  congr 1
theorem C6 {g:Nat->Rat} {c:Rat}:∀ n:Nat,c*eJ n g=eJ n (fun j=>c*g j)
 | 0=>by unfold eJ;grind
 | n+1=>by
  have:=C6 (g:=g) (c:=c) n
  unfold eJ
  rw [<- this];grind
section
variable {N:Nat}
theorem xn (hN:1073741824<=N) {n:Nat} {yK:List bl} (n5:n<=5) (a1:1<=yK.length) (a4:yK.length<=4) {x:dq} (hp:lY N n yK x) :
  ∃ (d:Nat) (k:Nat->Nat),1<=d/\d<=3/\(∀ i,i<yK.length->k i<=3)/\eV N x=some ((List.range' 0 yK.length).map (fun i:Nat=>(k i:Int)),(d:Int))/\Cov yK n (wtL k (List.range' 0 yK.length)) d:=by
 obtain ⟨K,hD,hK⟩:=HO hN n5 a1 a4 hp
 obtain ⟨F,_⟩:=hp
 have hxl:=F.len
 obtain ⟨d,hd,es,hv⟩:=JZ hN hD
 have hKK:=hD.hK
 have hd3:1<=d/\d<=3/\d<=K:=by omega
 refine ⟨d.toNat,fun i=>((nP x d x.length).getD i 0).toNat,oa,oa,fun i hi=>?_,?_,?_⟩
 ·obtain ⟨v,e,v0,ev⟩:=hv i oa
  have h1:=hK i oa
  have h0:0<=rv (aY x i):=by
   have h1:=(F.ok i oa).2
   have h3:=((lX hN).1 (F.ok i oa).1).1
   unfold rv
   rw [pB]
   exact nS (Rat.intCast_nonneg.2 h1) (tK (Rat.inv_pos.2 (Rat.intCast_pos.2 oa)))
  have h2:(d:Rat)*rv (aY x i)<=(K:Rat)*rv (aY x i):=Rat.mul_le_mul_of_nonneg_right (xE.2 hd3.2.2) h0
  have h3:(v:Rat)<=((3:Int):Rat):=by
   rw [ev]
   exact xF h2 h1
  have h4:=xE.1 h3
  show ((nP x d x.length).getD i 0).toNat<=3
  rw [e];omega
 ·rw [es,vD oa]
  congr 2
  have hl:(nP x d x.length).length=yK.length:=by unfold nP;simp [hxl]
  refine pA (by rw [hl];simp) fun i h1 h2=>?_
  obtain ⟨v,e,v0,_⟩:=hv i oa
  rw [bR h1] at e
  simp only [jC,xd,fh,nz]
  rw [bR h1,e,vD v0]
 ·refine ⟨oa,fun i hi=>?_,fun v h0 h1=>?_⟩
  ·unfold wtL at hi
   obtain ⟨j,hj,h⟩:=tX.1 hi
   rw [List.eq_of_mem_replicate h]
   simpa using hj
  ·rw [Fq]
   obtain ⟨u,rfl⟩:∃ u:Nat,v=(u:Int):=⟨v.toNat,oa⟩
   have hg:=F.ge u oa
   have h2:(d:Rat)*1<=(d:Rat)*eJ yK.length (fun j=>cv (cm n yK) u j*rv (aY x j)):=xI hg (Rat.intCast_nonneg.2 oa)
   rw [C6,hQ (h:=fun j=>(((if decide ((u:Int)∈(cH yK j).2)=true then ((nP x d x.length).getD j 0).toNat else 0:Nat):Nat):Rat)) fun j hj=>by
    obtain ⟨w,e,w0,ew⟩:=hv j oa
    have hb:cv (cm n yK) u j=if decide ((u:Int)∈(cH yK j).2)=true then 1 else 0:=by
     unfold cv
     rw [oE oa hj]
     unfold oP
     cases decide ((u:Int)∈(cH yK j).2) with
     | true=>rw [ah,aZ rfl,qD];rfl
     | false=>rw [ak,bb (by decide),qD];rfl
    have hw:((w.toNat:Nat):Rat)=(w:Rat):=by
     rw [<- Rat.intCast_natCast,vD w0]
    rw [hb]
    split
    ·rw [e,hw,ew];grind
    ·have e0:((0:Nat):Rat)=0:=rfl
     rw [e0];grind,DW] at h2
   have h3:((d.toNat:Nat):Rat)=(d:Rat):=by rw [<- Rat.intCast_natCast,vD oa]
   rw [Rat.mul_one,<- h3] at h2
   exact Rat.natCast_le_natCast.1 h2
end
def Aj {α:Type}:List (List α)->List (List α)
 | []=>[[]]
 | l :: ls=>l.flatMap fun a=>(Aj ls).map fun s=>a :: s
theorem vT {ι α:Type} {f:ι->List α} {g:ι->α}:∀ {I:List ι},(∀ i∈I,g i∈f i)->I.map g∈Aj (I.map f)
 | [],_=>fu.2 rfl
 | i :: I,h=>tX.2 ⟨g i,h i cZ,fm.2 ⟨_,vT fun j hj=>h j (dy _ hj),rfl⟩⟩
def yt (na:Nat) (S:List Nat) (i:Nat):List dq:=Aj ((List.range' 0 na).map fun j=>bif S.contains j then [bif Nat.beq j i then (1,1) else (0,1)] else [(0,1),(1,1)])
def w6 (na:Nat) (S:List Nat):List Nat:=(List.range' 0 na).filter fun j=>!S.contains j
def ptS (na:Nat) (S:List Nat):dq:=(List.range' 0 na).map fun j=>bif S.contains j then (1,1) else (0,1)
def Ga (na:Nat) (S:List Nat) (R:fH):fH:=R++(w6 na S).map (mv na)
def F8 (na:Nat) (S:List Nat):dq:=S.map (fun _=>(1,1))++(w6 na S).map fun _=>(0,1)
def M2 (M na:Nat) (S:List Nat) (R:fH):Bool:=decide (d5 (M+100) (Ga na S R) (F8 na S)=some (ptS na S,true))
def FM (na s:Nat):List (List Nat):=(Aj (List.replicate s (List.range' 0 na))).filter fun S=>decide S.Nodup
def tC (M na s:Nat):Bool:=(FM na s).all fun S=>(Aj (S.map (yt na S))).all fun R=>M2 M na S R
theorem M8 (M:Nat):tC M 1 1=true:=by kernel_rfl
theorem MQ (M:Nat):(tC M 2 1&&tC M 2 2)=true:=by kernel_rfl
theorem M7 (M:Nat):(tC M 3 1&&(tC M 3 2&&tC M 3 3))=true:=by kernel_rfl
theorem MV (M:Nat):tC M 4 1=true:=by kernel_rfl
theorem MK (M:Nat):tC M 4 2=true:=by kernel_rfl
theorem MZ (M:Nat):tC M 4 3=true:=by kernel_rfl
theorem MP (M:Nat):tC M 4 4=true:=by kernel_rfl
theorem Np (bit:Nat->Nat->Bool) (n:Nat):∀ (m:Nat) (S:List Nat),S.length<=m->S.Nodup->(∀ v,v<n->∃ j∈S,bit v j=true) ->
  ∃ S':List Nat,S'.Nodup/\(∀ j∈S',j∈S)/\(∀ v,v<n->∃ j∈S',bit v j=true)/\∀ i∈S',∃ v,v<n/\bit v i=true/\∀ j∈S',j≠i->bit v j=false:=by
 intro m
 induction m with
 | zero =>
  intro S hm hn hc
  have:S=[]:=li.1 oa
  subst this
  exact ⟨[],hn,fun _ h=>h,hc,by simp⟩
 | succ m ih =>
  intro S hm hn hc
  by_cases h:∃ i∈S,∀ v,v<n->∃ j∈S.erase i,bit v j=true
  ·obtain ⟨i,hi,h⟩:=h
   have hl:=xl hi
   obtain ⟨S',h1,h2,h3,h4⟩:=ih (S.erase i) oa (hn.erase i) h
   exact ⟨S',h1,fun j hj=>List.mem_of_mem_erase (h2 j hj),h3,h4⟩
  ·refine ⟨S,hn,fun _ h=>h,hc,fun i hi=>?_⟩
   have h1:¬ ∀ v,v<n->∃ j∈S.erase i,bit v j=true:=fun h2=>h ⟨i,hi,h2⟩
   obtain ⟨v,h2⟩:=Classical.not_forall.1 h1
   have hv:v<n:=vH fun h3=>h2 fun h4=>absurd h4 h3
   have h5:∀ j∈S,j≠i->bit v j=false:=fun j hj hji=>by
    cases hb:bit v j with
    | false=>rfl
    | true=>exact absurd (fun _=>⟨j,(AY hji).2 hj,hb⟩) h2
   obtain ⟨j,hj,hb⟩:=hc v hv
   by_cases e:j=i
   ·subst e;exact ⟨v,hv,hb,h5⟩
   ·rw [h5 j hj e] at hb;cases hb
theorem Cl {S:List Nat} {na:Nat} (hn:S.Nodup) (hb:∀ j∈S,j<na):S.length+(w6 na S).length=na:=by
 have h1:((List.range' 0 na).filter fun j=>S.contains j).length=S.length:=by
  refine Nat.le_antisymm (List.Nodup.length_le_of_subset (List.Nodup.sublist AI List.nodup_range') fun j hj=>?_) (List.Nodup.length_le_of_subset hn fun j hj=>?_)
  ·simpa using (mF.1 hj).2
  ·exact mF.2 ⟨by simpa using hb j hj,by simpa using hj⟩
 have h2:∀ I:List Nat,(I.filter fun j=>S.contains j).length+(I.filter fun j=>!S.contains j).length=I.length:=by
  intro I
  induction I with
  | nil=>rfl
  | cons i I ih =>
   rw [rU,rU]
   cases S.contains i
   ·simp only [rR,if_true,xg,nW,bW];omega
   ·simp only [uY,if_true,xg,nW,bW];omega
 have h3:=h2 (List.range' 0 na)
 rw [xM,h1] at h3
 exact h3
theorem J8 {M na:Nat} (h4:na<=4) {S:List Nat} (hn:S.Nodup) (hb:∀ j∈S,j<na) (hs:S≠[]) {R:fH} (hR:R∈Aj (S.map (yt na S))):d5 (M+100) (Ga na S R) (F8 na S)=some (ptS na S,true):=by
 have hl:=Cl hn hb
 have hp:=Bf.2 hs
 have key:tC M na S.length=true:=by
  have c2:=MQ M
  have c3:=M7 M
  simp only [b9] at c2 c3
  match na,h4,S.length,(show S.length<=na by omega),hp with
  | 0,_,k,h1,h2=>omega
  | 1,_,1,_,_=>exact M8 M
  | 2,_,1,_,_=>exact c2.1
  | 2,_,2,_,_=>exact c2.2
  | 3,_,1,_,_=>exact c3.1
  | 3,_,2,_,_=>exact c3.2.1
  | 3,_,3,_,_=>exact c3.2.2
  | 4,_,1,_,_=>exact MV M
  | 4,_,2,_,_=>exact MK M
  | 4,_,3,_,_=>exact MZ M
  | 4,_,4,_,_=>exact MP M
 have hm:S∈FM na S.length:=by
  unfold FM
  rw [mF,dN]
  refine ⟨?_,hn⟩
  have h:=vT (f:=fun _:Nat=>List.range' 0 na) (g:=fun j=>j) (I:=S) fun j hj=>by simpa using hb j hj
  rw [List.map_id'] at h
  have e:S.map (fun _:Nat=>List.range' 0 na)=List.replicate S.length (List.range' 0 na):=List.map_const' ..
  rw [e] at h
  exact h
 have h1:=dQ.1 (dQ.1 key S hm) R hR
 exact qU h1
section
variable {N:Nat}
theorem Iy (hN:1073741824<=N) {n:Nat} {yK:List bl} (n1:1<=n) (n5:n<=5) (a1:1<=yK.length) (a4:yK.length<=4) (hc:∀ v,v<n->∃ j,j<yK.length/\((v:Nat):Int)∈(cH yK j).2) :
  ∃ x,lY N n yK x/\ky N (cm n yK) (bE n) (bE yK.length) x 1=some true:=by
 obtain ⟨S,s1,s2,s3,s4⟩:=Np (fun v j=>decide ((v:Int)∈(cH yK j).2)) n yK.length (List.range' 0 yK.length) (by simp) List.nodup_range' fun v hv=>by
  obtain ⟨j,h1,h2⟩:=hc v hv
  exact ⟨j,by simpa using h1,ba h2⟩
 have hpx:∀ i,∃ v,i∈S->v<n/\decide (((v:Nat):Int)∈(cH yK i).2)=true/\∀ j∈S,j≠i->decide (((v:Nat):Int)∈(cH yK j).2)=false:=fun i=>by
  by_cases h:i∈S
  ·obtain ⟨v,h1⟩:=s4 i h
   exact ⟨v,fun _=>h1⟩
  ·exact ⟨0,fun h'=>absurd h' h⟩
 obtain ⟨p,hp⟩:=Classical.skolem.1 hpx
 have inj:∀ i∈S,∀ j∈S,p i=p j->i=j:=fun i hi j hj e=>by
  refine vH fun hne=>?_
  have h1:=(hp i hi).2.2 j hj fun h=>hne h.symm
  have h2:=(hp j hj).2.1
  rw [<- e,h1] at h2;cases h2
 -- in the yL of the rows
 have hperm:=List.mergeSort_perm S (fun a b=>decide (p a<=p b))
 have hsort:(S.mergeSort fun a b=>decide (p a<=p b)).Pairwise fun a b=>decide (p a<=p b)=true :=
  List.pairwise_mergeSort (le:=fun a b=>decide (p a<=p b)) (fun a b c h1 h2=>ba (Nat.le_trans (qU h1) (qU h2))) (fun a b=>by
   rcases Nat.le_total (p a) (p b) with h | h
   ·rw [ba h];rfl
   ·rw [ba h,Bool.or_true]) S
 generalize S.mergeSort (fun a b=>decide (p a<=p b))=T at hperm hsort
 have hT:∀ j,j∈T↔j∈S:=fun j=>hperm.mem_iff
 have tn:T.Nodup:=hperm.nodup_iff.2 s1
 have tb:∀ j∈T,j<yK.length:=fun j hj=>by simpa using s2 j ((hT j).1 hj)
 have tne:T≠[]:=fun e=>by
  obtain ⟨j,hj,_⟩:=s3 0 oa
  rw [<- hT j,e] at hj;cases hj
 have hlen:=Cl tn tb
 have hrowB:∀ i∈T,bQ (cm n yK) (p i)=(List.range' 0 yK.length).map fun j=>oP (cH yK j) (p i:Int):=fun i hi=>by
  have hpi:=(hp i ((hT i).1 hi)).1
  refine pA (by rw [rn.2 _ hpi];simp) fun j h1 h2=>?_
  have hj:j<yK.length:=by rw [rn.2 _ hpi] at h1;exact h1
  have h3:=oE (yK:=yK) hpi hj
  unfold cell aY at h3
  rw [jC,xd,fh,nz,<- h3]
  simp [h1]
 have hR:T.map (fun i=>bQ (cm n yK) (p i))∈Aj (T.map (yt yK.length T)):=vT fun i hi=>by
  rw [hrowB i hi]
  unfold yt
  refine vT fun j hj=>?_
  obtain ⟨_,g2,g3⟩:=hp i ((hT i).1 hi)
  by_cases hjT:j∈T
  ·rw [show T.contains j=true by simpa using hjT,ah,fu]
   unfold oP
   by_cases e:j=i
   ·subst e
    rw [g2,show Nat.beq j j=true from Nat.beq_refl j,ah]
   ·rw [g3 j ((hT j).1 hjT) e,show Nat.beq j i=false from by
     cases hb:Nat.beq j i with
     | false=>rfl
     | true=>exact absurd (tM hb) e,ak]
  ·rw [show T.contains j=false by simpa using hjT,ak]
   unfold oP
   cases decide ((p i:Int)∈(cH yK j).2)
   ·exact cZ
   ·exact dy _ cZ
 obtain ⟨M,rfl⟩:∃ M,N=M+100:=⟨N-100,oa⟩
 have hsol:=J8 (M:=M) a4 tn tb tne hR
 -- the pick
 let l:List Nat:=T.map p++(w6 yK.length T).map fun j=>n+j
 have hll:l.length=yK.length:=by
  show (T.map p++(w6 yK.length T).map fun j=>n+j).length=_
  rw [cj,cB,cB];exact hlen
 have hasc:l.Pairwise (·<·):=by
  refine uW.2 ⟨?_,?_,fun a ha b hb=>?_⟩
  ·rw [List.pairwise_map]
   refine (List.Pairwise.and hsort tn).imp_of_mem fun {a b} ha hb h=>?_
   have h1:p a<=p b:=qU h.1
   have h2:p a≠p b:=fun e=>h.2 (inj a ((hT a).1 ha) b ((hT b).1 hb) e)
   omega
  ·rw [List.pairwise_map]
   have:(w6 yK.length T).Pairwise (·<·):=List.Pairwise.sublist AI List.pairwise_lt_range'
   exact this.imp fun h=>by omega
  ·obtain ⟨i,hi,rfl⟩:=fm.1 ha
   obtain ⟨j,_,rfl⟩:=fm.1 hb
   have:=(hp i ((hT i).1 hi)).1
   omega
 have hlb:∀ v∈l,0<=v/\v<n+yK.length:=fun v hv=>by
  refine ⟨dB v,?_⟩
  rcases dl.1 hv with h | h
  ·obtain ⟨i,hi,rfl⟩:=fm.1 h
   have:=(hp i ((hT i).1 hi)).1
   omega
  ·obtain ⟨j,hj,rfl⟩:=fm.1 h
   have:j<yK.length:=by simpa using (mF.1 hj).1
   omega
 have hpick:=Cr hll hasc hlb
 have enat:qO (l.map fun v:Nat=>(v:Int))=l:=by
  unfold qO
  rw [nX]
  have:(Int.toNat ∘ fun v:Nat=>(v:Int))=id:=funext fun v=>jf v
  rw [this,List.map_id]
 have eA:kP (cm n yK) n yK.length (l.map fun v:Nat=>(v:Int))=Ga yK.length T (T.map fun i=>bQ (cm n yK) (p i)):=by
  unfold kP Ga
  rw [enat]
  show (T.map p++(w6 yK.length T).map fun j=>n+j).map _=_
  rw [fv,nX,nX]
  congr 1
  ·refine vE fun i hi=>?_
   show l7 (cm n yK) n yK.length (p i)=_
   unfold l7
   rw [aZ (hp i ((hT i).1 hi)).1]
  ·refine vE fun j _=>?_
   show l7 (cm n yK) n yK.length (n+j)=_
   unfold l7
   rw [bb oa,pF]
 have eB:kB n (l.map fun v:Nat=>(v:Int))=F8 yK.length T:=by
  unfold kB F8
  rw [enat]
  show (T.map p++(w6 yK.length T).map fun j=>n+j).map _=_
  rw [fv,nX,nX]
  congr 1
  ·refine vE fun i hi=>?_
   show oA n (p i)=_
   unfold oA
   rw [aZ (hp i ((hT i).1 hi)).1]
  ·refine vE fun j _=>?_
   show oA n (n+j)=_
   unfold oA
   rw [bb oa]
 have hpl:(ptS yK.length T).length=yK.length:=by unfold ptS;simp
 have hpc:∀ j,j<yK.length->aY (ptS yK.length T) j=bif T.contains j then (1,1) else (0,1):=fun j hj=>by
  unfold ptS aY;simp [hj]
 obtain ⟨b,eb,hb1,hb2⟩:=Fz hN n1 n5 a1 a4 hpl
 have hbt:b=true:=hb2 (fun j hj=>by
  rw [hpc j oa]
  cases T.contains j
  ·exact .inl rfl
  ·exact .inr rfl) fun v hv=>by
  obtain ⟨j,hj,hbit⟩:=s3 v hv
  have hjl:j<yK.length:=by simpa using s2 j hj
  refine ⟨j,oa,?_,?_⟩
  ·rw [oE hv hjl]
   unfold oP
   rw [hbit];rfl
  ·rw [hpc j hjl,show T.contains j=true by simpa using (hT j).2 hj];rfl
 subst hbt
 exact ⟨ptS yK.length T,⟨hb1 rfl,_,hpick,by rw [eA,eB];exact hsol⟩,eb⟩
end
section
variable {N:Nat}
theorem L7 (hN:1073741824<=N) {ss:yP} {d e:Int} (d0:0<=d) (d3:d<=3) (e0:0<=e) (e3:e<=3) {na:Nat} (hna:na<=4):∀ (c i yN:Nat) (xs ys:yP),i+c=na->c<yN->xs.length=na->ys.length=na->(∀ j,i<=j->j<na->(0<=xs.getD j 0/\xs.getD j 0<=3)/\(0<=ys.getD j 0/\ys.getD j 0<=3)) ->
  ∃ xs' ys' z,fq N yN ss xs d ys e (i:Int)=some (xs',ys',z)/\xs'.length=na/\ys'.length=na:=by
 intro c
 induction c with
 | zero =>
  intro i yN xs ys hi hf hx hy hb
  obtain ⟨yN,rfl⟩:∃ k',yN=k'+1:=⟨yN-1,oa⟩
  rw [fq,bf oa,ak]
  exact ⟨xs,ys,_,rfl,hx,hy⟩
 | succ c ih =>
  intro i yN xs ys hi hf hx hy hb
  obtain ⟨yN,rfl⟩:∃ k',yN=k'+1:=⟨yN-1,oa⟩
  obtain ⟨⟨x0,x3⟩,y0,y3⟩:=hb i (bY i) oa
  have m1:0<=xs.getD i 0*e/\xs.getD i 0*e<=3*3:=⟨vq x0 e0,xH x3 e3 e0 (by decide)⟩
  have m2:0<=ys.getD i 0*d/\ys.getD i 0*d<=3*3:=⟨vq y0 d0,xH y3 d3 d0 (by decide)⟩
  rw [fq,ba oa,ah,ixD oa,bs,iN oa oa,bs,bs,vQ oa,bs,ixD oa,bs,iN oa oa,bs,bs,vQ oa,bs,cO oa oa,bs]
  refine ih (i+1) yN _ _ oa oa (by rw [gF];exact hx) (by rw [gF];exact hy) fun j h1 h2=>?_
  have g:∀ (zs:yP) (v:Int),(zs.set i v).getD j 0=zs.getD j 0:=fun zs v=>by
   simp [Bx (show i≠j by omega)]
  rw [g,g]
  exact hb j oa h2
theorem H3 (hN:1073741824<=N) {n:Nat} {yK:List bl} (n5:n<=5) (a1:1<=yK.length) (a4:yK.length<=4) {ss:yP} (hs:ss.length=yK.length) (hv:∀ v∈ss,0<=v/\v<=16) {x y:dq} (hx:lY N n yK x) (hy:lY N n yK y) :
  ∃ c,jm N ss x y=some c:=by
 obtain ⟨d,k,d1,d3,hk,ed,_⟩:=xn hN n5 a1 a4 hx
 obtain ⟨e,q,e1,e3,hq,ee,_⟩:=xn hN n5 a1 a4 hy
 have l1:∀ f:Nat->Nat,((List.range' 0 yK.length).map fun i:Nat=>(f i:Int)).length=yK.length:=fun f=>by simp
 have g1:∀ (f:Nat->Nat) (j:Nat),j<yK.length->((List.range' 0 yK.length).map fun i:Nat=>(f i:Int)).getD j 0=(f j:Int):=fun f j hj=>by
  rw [bR (by rw [l1];exact hj),jC,xd,fh,nz]
 unfold jm
 rw [ed,bs,ee,bs]
 dsimp only
 rw [show ((d:Int) == 0)=false by rw [tu];omega,ak,show ((e:Int) == 0)=false by rw [tu];omega,ak,l1,l1,hs,show ((yK.length:Int) != (yK.length:Int))=false by rw [rQ],ak,ak]
 obtain ⟨xs',ys',z,e4,h1,h2⟩:=L7 hN (ss:=ss) (d:=(d:Int)) (e:=(e:Int)) oa oa oa oa a4 yK.length 0 N _ _ oa oa (l1 k) (l1 q) fun j _ hj=>by
  rw [g1 k j hj,g1 q j hj]
  have:=hk j hj
  have:=hq j hj
  omega
 have e4':fq N N ss _ (d:Int) _ (e:Int) 0=some (xs',ys',z):=e4
 rw [e4',bs,lpB]
 dsimp only
 obtain ⟨r1,p1,_,q1⟩:=Cp hN (xs:=ss) (ks:=xs') oa fun v hv'=>by have:=hv v hv';omega
 obtain ⟨r2,p2,_,q2⟩:=Cp hN (xs:=ss) (ks:=ys') oa fun v hv'=>by have:=hv v hv';omega
 rw [p1,bs,p2,bs]
 obtain ⟨c,ec,_⟩:=DC hN q1.1 q2.1
 cases r1.2 with
 | false=>rw [ak];exact ⟨_,rfl⟩
 | true =>
  rw [ah]
  cases r2.2 with
  | false=>rw [ak];exact ⟨_,rfl⟩
  | true=>rw [ah,ec,bs];exact ⟨_,rfl⟩
theorem MM (hN:1073741824<=N) {ss:yP} (hs:ss.length<=1000) (hv:∀ v∈ss,0<=v/\v<=16) {A:fH} {B C:dq}:∀ (c i yN:Nat),i+c=ss.length->c<yN ->
  ∃ z,iJ N yN ss A B C (i:Int)=some (.inr z):=by
 intro c
 induction c with
 | zero =>
  intro i yN hi hf
  obtain ⟨yN,rfl⟩:∃ k',yN=k'+1:=⟨yN-1,oa⟩
  rw [iJ,bf oa,ak]
  exact ⟨_,rfl⟩
 | succ c ih =>
  intro i yN hi hf
  obtain ⟨yN,rfl⟩:∃ k',yN=k'+1:=⟨yN-1,oa⟩
  have hil:i<ss.length:=by omega
  have h1:=hv _ (bC hil)
  rw [iJ,ba oa,ah,bc hil,bs,fP,bs,show inR ss[i] 0 16=true from cA.2 h1,ah,cO oa oa,bs]
  exact ih (i+1) yN oa oa
theorem M4 (hN:1073741824<=N) {n:Nat} {yK:List bl} (n5:n<=5) (a1:1<=yK.length) (a4:yK.length<=4) {ss:yP} (hs:ss.length=yK.length) (hv:∀ v∈ss,0<=v/\v<=16) {P:fH} (hP:∀ x∈P,lY N n yK x) (hl:P.length<=100000):∀ (c i yN:Nat) (x:dq),i+c=P.length->c<yN->lY N n yK x ->
  ∃ x' z,gX N yN ss P x (i:Int)=some (x',z)/\lY N n yK x':=by
 intro c
 induction c with
 | zero =>
  intro i yN x hi hf hx
  obtain ⟨yN,rfl⟩:∃ k',yN=k'+1:=⟨yN-1,oa⟩
  rw [gX,bf oa,ak]
  exact ⟨x,_,rfl,hx⟩
 | succ c ih =>
  intro i yN x hi hf hx
  obtain ⟨yN,rfl⟩:∃ k',yN=k'+1:=⟨yN-1,oa⟩
  have hil:i<P.length:=by omega
  have hm:bQ P i∈P:=by unfold bQ;simp [hil]
  obtain ⟨q,eq⟩:=H3 hN n5 a1 a4 hs hv (hP _ hm) hx
  rw [gX,ba oa,ah,ixM hil,bs,eq,bs]
  cases decide (q.1<0) with
  | true =>
   rw [ah,bs,cO oa oa,bs]
   exact ih (i+1) yN _ oa oa (hP _ hm)
  | false =>
   rw [ak,cO oa oa,bs]
   exact ih (i+1) yN x oa oa hx
theorem Di (hN:1073741824<=N) {n:Nat} {yK:List bl} {out:yP} (ha:c6 yK) (ho:okI out) (hq:fD (n:Int) yK out=true) (hc:∀ v,v<n->∃ j,j<yK.length/\((v:Nat):Int)∈(cH yK j).2) {ss:yP} (hs:ss.length=yK.length) (hv:∀ v∈ss,0<=v/\v<=16) :
  ∃ x,lH N (n:Int) yK out ss=some (x,true)/\lY N n yK x:=by
 obtain ⟨n1,n5,a1,a4⟩:=qp hq
 have n1:1<=n:=by omega
 have n5:n<=5:=by omega
 have a1:1<=yK.length:=by omega
 have a4:yK.length<=4:=by omega
 obtain ⟨P,eP,hl,hP,hne⟩:=La hN n1 n5 a1 a4
 have hne:=hne (Iy hN n1 n5 a1 a4 hc)
 have h0:0<P.length:=Bf.2 hne
 have hm:bQ P 0∈P:=by unfold bQ;simp [h0]
 unfold lH
 rw [Bo hN ha ho hq,bs]
 dsimp only
 rw [ah,show ((ss.length:Int) != (yK.length:Int))=false by rw [rQ];omega,ak]
 obtain ⟨z,e1⟩:=MM hN (ss:=ss) oa hv (A:=cm n yK) (B:=bE n) (C:=bE yK.length) ss.length 0 N oa oa
 have e1':iJ N N ss (cm n yK) (bE n) (bE yK.length) 0=some (.inr z):=e1
 have i0:ix P 0=some (bQ P 0):=ixM (i:=0) h0
 obtain ⟨x,z2,e2,hx⟩:=M4 hN n5 a1 a4 hs hv hP hl (P.length-1) 1 N (bQ P 0) oa oa (hP _ hm)
 have e2':gX N N ss P (bQ P 0) 1=some (x,z2):=e2
 rw [e1',bs,kt,eP,bs,i0,bs,e2',bs,lpB]
 exact ⟨x,rfl,hx⟩
end
section
variable {N:Nat}
theorem MB (hN:1073741824<=N) {a b:yP} (ha:Cn a) (hb:Cn b) (la:a.length<=60) (lb:b.length<=60) (h:vB a*vB b<10 ^ 60):∃ r,ki N a b=some (r,true)/\vB r=vB a*vB b/\Cn r/\r.length<=60:=by
 obtain ⟨r,e1,e2,_⟩:=Ao hN (a:=a) (b:=b) oa oa
 obtain ⟨q,e3,h1,h2⟩:=E0 hN ha hb la lb
 rw [e2] at e3
 obtain rfl:=dz e3
 have ht:=h2.2 h
 obtain ⟨r1,r2⟩:=r
 obtain rfl:r2=true:=ht
 exact ⟨r1,e1,h1 rfl⟩
theorem Gk (hN:1073741824<=N) {n:Int} (h0:0<=n) (h1:n<=9223372036854775807) {d:Nat} (hd:d<=100) (h:∀ j,j<d->n ^ (j+1)<10 ^ 60):∃ r,jo N n (d:Int)=some (r,true)/\vB r=n ^ d/\Cn r/\r.length<=60:=by
 obtain ⟨r,e1,e2,_⟩:=Ee hN (n:=n) (k:=(d:Int)) h1
 obtain ⟨q,e3,h2,h3⟩:=JS hN h0 h1 hd
 rw [e2] at e3
 obtain rfl:=dz e3
 have ht:=h3.2 h
 obtain ⟨r1,r2⟩:=r
 obtain rfl:r2=true:=ht
 exact ⟨r1,e1,h2 rfl⟩
theorem MF (hN:1073741824<=N) {a b:yP} (ha:Cn a) (hb:Cn b) (la:a.length<=60) (lb:b.length<=60):∃ q,g9 N a b=some q/\(q<=0↔vB a<=vB b):=by
 obtain ⟨c,e1,e2⟩:=DC hN (a:=a) (b:=b) oa oa
 obtain ⟨q,e3,h⟩:=Ku hN ha hb la lb
 rw [e2] at e3
 obtain rfl:=dz e3
 exact ⟨c,e1,h⟩
theorem MD (hN:1073741824<=N):∃ b,f5 N 1=some b/\vB b=1/\Cn b/\b.length<=60:=by
 obtain ⟨r,e,h1,h2,h3⟩:=Gk hN (n:=1) (by decide) (by decide) (d:=0) (by decide) (fun j hj=>absurd hj (Nat.not_lt_zero j))
 refine ⟨r,?_,by rw [h1];rfl,h2,h3⟩
 unfold jo at e
 rw [show decide ((1:Int)<0)=false from rfl,ak,fP,bs,show inR ((0:Nat):Int) 0 100=true from cA.2 oa,ah] at e
 cases hb:f5 N 1 with
 | none=>rw [hb] at e;cases e
 | some b =>
  rw [hb,bs] at e
  obtain ⟨k,rfl⟩:∃ k,N=k+1:=⟨N-1,oa⟩
  rw [dR,bf oa,ak,bs,kt] at e
  injection e with e
  exact bh some (bh Prod.fst e)
theorem KW (hN:1073741824<=N) {na:Nat} (h4:na<=4) {s k:Nat->Nat} (hs:∀ i,i<na->s i<=16) (hk:∀ i,i<na->k i<=3) :
  ∃ r,eT N ((List.range' 0 na).map fun i:Nat=>(s i:Int)) ((List.range' 0 na).map fun i:Nat=>(k i:Int))=some (r,true)/\vB r=((prN ((List.range' 0 na).map fun i=>s i ^ k i):Nat):Int)/\Cn r/\r.length<=60/\prN ((List.range' 0 na).map fun i=>s i ^ k i)<=4096 ^ na:=by
 have l1:∀ f:Nat->Nat,((List.range' 0 na).map fun i:Nat=>(f i:Int)).length=na:=fun f=>by simp
 have g1:∀ (f:Nat->Nat) (j:Nat),j<na->((List.range' 0 na).map fun i:Nat=>(f i:Int)).getD j 0=(f j:Int):=fun f j hj=>by
  rw [bR (by rw [l1];exact hj),jC,xd,fh,nz]
 have pw:∀ i,i<na->s i ^ k i<=4096:=fun i hi=>by
  rcases vz (s i) with h0 | h0
  ·rw [h0]
   rcases vz (k i) with h1 | h1
   ·rw [h1];decide
   ·rw [Nat.zero_pow h1];decide
  ·exact Nat.le_trans (nT h0 (hk i hi)) (xZ (hs i hi) 3)
 have ps:∀ i,prN ((List.range' 0 (i+1)).map fun i=>s i ^ k i)=prN ((List.range' 0 i).map fun i=>s i ^ k i)*s i ^ k i:=fun i=>by
  rw [pn,fv,BW]
  simp only [fh,nz,gd,nZ,prN,po]
 have pb:∀ i,i<=na->prN ((List.range' 0 i).map fun i=>s i ^ k i)<=4096 ^ i:=by
  intro i
  induction i with
  | zero =>
   intro _
   exact bY 1
  | succ i ih =>
   intro hi
   rw [ps,rN]
   exact q8 (ih oa) (pw i oa)
 have key:∀ (c i yN:Nat) (b:yP),i+c=na->c<yN->Cn b->b.length<=60->vB b=((prN ((List.range' 0 i).map fun i=>s i ^ k i):Nat):Int) ->
   ∃ r z,bL N yN ((List.range' 0 na).map fun i:Nat=>(s i:Int)) ((List.range' 0 na).map fun i:Nat=>(k i:Int)) [] b (i:Int)=some (.inr (r,z))/\vB r=((prN ((List.range' 0 na).map fun i=>s i ^ k i):Nat):Int)/\Cn r/\r.length<=60:=by
  intro c
  induction c with
  | zero =>
   intro i yN b hi hf hb lb hv
   obtain ⟨yN,rfl⟩:∃ k',yN=k'+1:=⟨yN-1,oa⟩
   rw [bL,l1,bf oa,ak]
   obtain rfl:i=na:=by omega
   exact ⟨b,_,rfl,hv,hb,lb⟩
  | succ c ih =>
   intro i yN b hi hf hb lb hv
   obtain ⟨yN,rfl⟩:∃ k',yN=k'+1:=⟨yN-1,oa⟩
   have hsi:=hs i oa
   have hki:=hk i oa
   have hp:=pw i oa
   obtain ⟨r,e,hr,cr,lr⟩:=Gk hN (n:=(s i:Int)) oa oa (d:=k i) oa fun j hj=>by
    have h1:s i ^ (j+1)<=16 ^ 3:=by
     rcases vz (s i) with h0 | h0
     ·rw [h0,Nat.zero_pow oa];decide
     ·exact Nat.le_trans (nT h0 oa) (xZ hsi 3)
    have h2:((s i:Int)) ^ (j+1)=((s i ^ (j+1):Nat):Int):=(Int.natCast_pow ..).symm
    rw [h2]
    have:((s i ^ (j+1):Nat):Int)<=4096:=by omega
    exact Int.lt_of_le_of_lt this (by decide)
   have hr':vB r=((s i ^ k i:Nat):Int):=by rw [hr,Int.natCast_pow]
   have hb':=pb i oa
   have hi4:(4096:Nat) ^ i<=4096 ^ 4:=nT (by decide) oa
   have hmul:=q8 (Nat.le_trans hb' hi4) hp
   have hm:vB b*vB r=((prN ((List.range' 0 (i+1)).map fun i=>s i ^ k i):Nat):Int):=by
    rw [hv,hr',ps,Int.natCast_mul]
   obtain ⟨y,e2,hy,cy,ly⟩:=MB hN hb cr lb lr (by
    rw [hm,ps]
    have:((prN ((List.range' 0 i).map fun i=>s i ^ k i)*s i ^ k i:Nat):Int)<=((4096 ^ 4*4096:Nat):Int):=Int.ofNat_le.2 hmul
    exact Int.lt_of_le_of_lt this (by decide))
   rw [bL,l1,ba oa,ah,ixD (by rw [l1];omega),bs,g1 s i oa,ixD (by rw [l1];omega),bs,g1 k i oa,e,bs]
   dsimp only
   rw [e2,bs]
   dsimp only
   rw [ah,ah,cO oa oa,bs]
   exact ih (i+1) yN y oa oa cy ly (by rw [hy,hm])
 obtain ⟨b,eb,hb,cb,lb⟩:=MD hN
 obtain ⟨r,z,e,h1,h2,h3⟩:=key na 0 N b oa oa cb lb (by rw [hb];rfl)
 refine ⟨r,?_,h1,h2,h3,pb na (bY _)⟩
 unfold eT
 have e':bL N N ((List.range' 0 na).map fun i:Nat=>(s i:Int)) ((List.range' 0 na).map fun i:Nat=>(k i:Int)) [] b 0=_:=e
 rw [l1,l1,show ((na:Int) != (na:Int))=false by rw [rQ],ak,eb,bs,e',bs,kt]
end
section
variable {N:Nat}
theorem HC {c:Nat} (hc:c<=9007199254740992) {d:Nat} (hd:d<=3):∀ j,j<d->((c:Int)) ^ (j+1)<10 ^ 60:=fun j hj=>by
 have h1:c ^ (j+1)<=9007199254740992 ^ 3:=by
  rcases vz c with h0 | h0
  ·rw [h0,Nat.zero_pow oa];exact dB _
  ·exact Nat.le_trans (nT h0 oa) (xZ hc 3)
 rw [<- Int.natCast_pow]
 exact Int.lt_of_le_of_lt (Int.ofNat_le.2 h1) (by decide)
theorem JW {M P d:Nat} (hd:1<=d) (h:M ^ d<=P):M<=P:=by
 rcases vz M with h0 | h0
 ·omega
 ·have:=nT h0 hd
  rw [Nat.pow_one] at this
  omega
theorem K9 (hN:1073741824<=N) {na:Nat} (h4:na<=4) {s k:Nat->Nat} (hs:∀ i,i<na->s i<=16) (hk:∀ i,i<na->k i<=3) {d:Nat} (d1:1<=d) (d3:d<=3) {x:dq} (ex:eV N x=some ((List.range' 0 na).map (fun i:Nat=>(k i:Int)),(d:Int))) {c:Nat} (hc:c ^ d<=prN ((List.range' 0 na).map fun i=>s i ^ k i)) :
  gv N ((List.range' 0 na).map fun i:Nat=>(s i:Int)) x (c:Int)=some true:=by
 obtain ⟨r,er,hr,cr,lr,hb⟩:=KW hN h4 hs hk
 have hb4:(4096:Nat) ^ na<=4096 ^ 4:=nT (by decide) h4
 have hcP:=JW d1 hc
 have hcb:c<=281474976710656:=Nat.le_trans hcP (Nat.le_trans hb hb4)
 obtain ⟨y,ey,hy,cy,ly⟩:=Gk hN (n:=(c:Int)) oa oa (d:=d) oa (HC oa d3)
 obtain ⟨q,eq,hq⟩:=MF hN cy cr ly lr
 unfold gv
 rw [ex,bs]
 dsimp only
 rw [er,bs,ey,bs,ba oa,ah]
 dsimp only
 rw [ah,ah,eq,bs]
 have:q<=0:=hq.2 (by rw [hy,hr,<- Int.natCast_pow];exact Int.ofNat_le.2 hc)
 rw [ba this]
end
def rW (ts:List uu):Bool:=ts.any fun t=>decide (t.2.length=0)
def okQ (ts:List bA) (n:Int) (yK:List bl) (out yL:yP):Bool:=jI ts n yK out&&n8 n yK out yL
abbrev Gh:=(Int × be) × Int × Bool
def AE:Gh:=((0,[]),0,false)
def nm (k:Int) (w:be × Int):Gh:=bif decide ((w.1.length:Int)<=4000) then ((k,w.1),w.2,true) else AE
def tm (ts:List bA) (n:Int) (yK:List bl) (out yL:yP):Gh :=
 bif okQ ts n yK out yL then (bif rW (bJ ts yL yK) then ((n,[]),0,true) else nm n (bO (bq ts yL yK) n.toNat [])) else AE
def mf (ts:List bA) (n:Int) (yK:List bl) (out yL:yP) (k:Int):(Int × be) × Bool :=
 bif okQ ts n yK out yL&&inR k 0 n then ((nm k (bO (bq ts yL yK) k.toNat [])).1,(nm k (bO (bq ts yL yK) k.toNat [])).2.2) else mU
theorem rM {f:Nxt} (hf:NxtOk f) {k:Nat} (hk:k<=5):gg (bO f k []).1/\(∀ r∈(bO f k []).1,r.length=k/\cn r=true)/\mL (bO f k []).1:=by
 have h1:=ql hf k []
 have hp:16 ^ k<=16 ^ 5:=nT (by decide) oa
 have h2:∀ r∈(bO f k []).1,r.length=k/\cn r=true:=fun r hr=>by
  obtain ⟨s,e1,e⟩:=nH hr
  exact ⟨by rw [e1];exact e,AD hf rfl hr⟩
 exact ⟨⟨oa,fun r hr=>⟨by have:=(h2 r hr).1;omega,fun _ _=>trivial⟩⟩,h2,CF hf k []⟩
theorem Dw {f:Nxt} (hf:NxtOk f) {k:Nat} (hk:k<=5):np (k:Int) (bO f k []).1=((nm k (bO f k [])).1,(nm k (bO f k [])).2.2):=by
 obtain ⟨h1,h2,h3⟩:=rM hf hk
 rw [ED oa h1.1 (fun r hr=>by have:=h2 r hr;exact ⟨oa,this.2⟩) h3]
 unfold nm
 cases decide (((bO f k []).1.length:Int)<=4000) <;> rfl
theorem GQ {f:Nxt} (hf:NxtOk f) {k:Nat} (hk:k<=5):gg (nm k (bO f k [])).1.2:=by
 unfold nm
 cases decide (((bO f k []).1.length:Int)<=4000)
 ·exact ⟨by simp [AE],by simp [AE]⟩
 ·exact (rM hf hk).1
theorem AX {ts:List bA} {n:Int} {yK:List bl} {out yL:yP} (h:okQ ts n yK out yL=true):∃ m:Nat,n=(m:Int)/\QFor ts m yK yL/\fD n yK out=true:=by
 unfold okQ at h
 rw [b9] at h
 obtain ⟨m,e,q⟩:=DE h.1 h.2
 refine ⟨m,e,q,?_⟩
 have:=h.1
 unfold jI at this
 rw [b9] at this
 exact this.1
theorem Ix {ts:List bA} {n:Int} {yK:List bl} {out yL:yP} {k:Int}:gg (mf ts n yK out yL k).1.2:=by
 unfold mf
 cases h:okQ ts n yK out yL with
 | false=>exact ⟨by simp [mU],by simp [mU]⟩
 | true =>
  obtain ⟨m,rfl,q,_⟩:=AX h
  cases h2:inR k 0 m with
  | false=>exact ⟨by simp [mU],by simp [mU]⟩
  | true =>
   have hk:=cA.1 h2
   have:=q.n5
   obtain ⟨j,rfl⟩:∃ j:Nat,k=(j:Int):=⟨k.toNat,oa⟩
   exact GQ (km q) oa
theorem zf {α:Type} (p:α->Bool):∀ xs:List α,(xs.all fun x=>!p x)=!xs.any p
 | []=>rfl
 | x :: xs=>by rw [xb,List.any_cons,zf p xs,Bool.not_or]
section
variable {N:Nat}
theorem Er (hN:1073741824<=N) {ts:List uu} (hl:ts.length<=1048576):mo N ts=some (rW ts):=by
 have h:=mb (L:=fun k i=>gJ N k ts i) ts.length oa true (fun i=>if h:i<ts.length then !decide (ts[i].2.length=0) else true) (ts.length:Int)
  (fun k i h=>by
   show gJ N (k+1) ts (i:Int)=_
   rw [gJ,dlt h,ah,bc h,bs,show ((ts[i].2.length:Int) == 0)=decide (ts[i].2.length=0) from vw _ 0,ad1 oa,bs]
   simp only [ii h]
   cases decide (ts[i].2.length=0) <;> rfl)
  (fun k=>by
   show gJ N (k+1) ts (ts.length:Int)=_
   rw [gJ,dge oa,ak]) N 0 oa oa
 rw [ja,lx ts (fun t=>!decide (t.2.length=0)) _ (fun i hi=>by rw [ii hi]),zf] at h
 have h':gJ N N ts 0=some (bif !rW ts then .inr (ts.length:Int) else .inl true):=h
 unfold mo
 rw [h',bs]
 cases rW ts <;> rfl
theorem Ak (ts:List bA) (n:Int) (yK:List bl) (out yL:yP):DL ts n yK out yL=bif okQ ts n yK out yL then (bJ ts yL yK,true) else ([],false):=rfl
theorem vU (hM:1073742848<=N) {ts:List bA} {n:Int} {yK:List bl} {out yL:yP} (ht:nO ts) (ha:c6 yK) (ho:okI out) (hr:okI yL):kW N ts n yK out yL=some (tm ts n yK out yL):=by
 unfold kW tm
 rw [rP hM ht ha ho hr,bs,Ak]
 cases h:okQ ts n yK out yL with
 | false=>rfl
 | true =>
  obtain ⟨m,rfl,q,hq⟩:=AX h
  have h4:=q.a4
  have h5:=q.n5
  have hol:=q.ol
  rw [ah,ah]
  show ((mo N (bJ ts yL yK)).bind _)=_
  rw [Er oa (by rw [sX];omega),bs,hol]
  cases rW (bJ ts yL yK) with
  | true=>rfl
  | false =>
   obtain ⟨w1,_,_⟩:=rM (km q) h5
   rw [ak,ak]
   show ((fo N (bJ ts yL yK) (m:Int) yK out yL []).bind _)=_
   rw [FX q ha ho hq m N [] (by simp) oa,bs,jZ hM w1,bs,Dw (km q) h5]
   unfold nm
   rw [show ((m:Nat):Int).toNat=m from rfl]
   cases decide (((bO (bq ts yL yK) m []).1.length:Int)<=4000) <;> rfl
theorem LR {ts:List uu} {yL out vs:yP} {len m b1 b3:Int} {yK:List bl} {b2 rows next:be} {j:Nat} (hN:1073741824<=N) (hj:j<rows.length) (hp:rows[j].length<=1000) (hv:vs.length<=1000) (hn:next.length<=1073741824) :
  dF N N yL len m yK out b1 b2 ts rows b3 next (j:Int) vs 0=some (next++vs.map (fun v=>rows[j]++[v]),(vs.length:Int)):=by
 have h:=dU (fun k (o:be) i=>dF N k yL len m yK out b1 b2 ts rows b3 o (j:Int) vs i) vs.length (fun i=>next++(vs.take i).map (fun v=>rows[j]++[v])) (next++vs.map (fun v=>rows[j]++[v]),(vs.length:Int))
  (fun k i h=>by
   show dF N (k+1) yL len m yK out b1 b2 ts rows b3 (next++(vs.take i).map (fun v=>rows[j]++[v])) (j:Int) vs (i:Int)=dF N k yL len m yK out b1 b2 ts rows b3 (next++(vs.take (i+1)).map (fun v=>rows[j]++[v])) (j:Int) vs ((i+1:Nat):Int)
   rw [dF,dlt h,ah,bc hj,bs,bc h,bs,tj (by decide) oa,bs,bt (by decide) (by simp;omega),bs,bt (by decide) (by rw [cj,cB,cq,bU];omega),bs,ad1 oa,bs,sT h,gr])
  (fun k=>by
   show dF N (k+1) yL len m yK out b1 b2 ts rows b3 (next++(vs.take vs.length).map (fun v=>rows[j]++[v])) (j:Int) vs (vs.length:Int)=_
   rw [dF,dge oa,ak,dx]) N 0 oa oa
 rw [xy,nZ,mx] at h
 exact h
theorem L8 (hN:1073741824<=N) {ts:List bA} {n:Nat} {len b1 b3:Int} {b2:be} {yK:List bl} {out yL:yP} (q:QFor ts n yK yL) (ha:c6 yK) (ho:okI out) (hq:fD (n:Int) yK out=true) {rows:be} {lv:Nat} (hlv:lv<n) (hrow:∀ r∈rows,r.length=lv) (hl:rows.length<=1048576) :
  el N N yL len (n:Int) yK out b1 b2 (bJ ts yL yK) rows b3 [] 0=some (rows.flatMap (pd (bq ts yL yK)),(rows.length:Int)):=by
 have hf:=km q
 have hn5:=q.n5
 exact dU (fun k (s:be) i=>el N k yL len (n:Int) yK out b1 b2 (bJ ts yL yK) rows b3 s i) rows.length (fun i=>(rows.take i).flatMap (pd (bq ts yL yK))) (rows.flatMap (pd (bq ts yL yK)),(rows.length:Int))
  (fun k i h=>by
   have hr:=hrow _ (bC h)
   have hk:=hf.len rows[i]
   have hfl:=mN (Dv hf) (rows.take i)
   rw [cq] at hfl
   show el N (k+1) yL len (n:Int) yK out b1 b2 (bJ ts yL yK) rows b3 ((rows.take i).flatMap (pd (bq ts yL yK))) (i:Int)=el N k yL len (n:Int) yK out b1 b2 (bJ ts yL yK) rows b3 ((rows.take (i+1)).flatMap (pd (bq ts yL yK))) ((i+1:Nat):Int)
   rw [el,dlt h,ah,bc h,bs,A8 hN q ha ho hq oa,bs]
   show ((dF N N yL len (n:Int) yK out b1 b2 (bJ ts yL yK) rows b3 _ (i:Int) ((bq ts yL yK) rows[i]).1 0).bind _)=_
   rw [LR hN h oa oa oa,bs,lpB,uO h,ad1 oa];rfl)
  (fun k=>by
   show el N (k+1) yL len (n:Int) yK out b1 b2 (bJ ts yL yK) rows b3 ((rows.take rows.length).flatMap (pd (bq ts yL yK))) (rows.length:Int)=_
   rw [el,dge oa,ak,dx]) N 0 oa oa
theorem LW (hN:1073741824<=N) {ts:List bA} {n:Nat} {b1:Int} {b2:be} {yK:List bl} {out yL:yP} (q:QFor ts n yK yL) (ha:c6 yK) (ho:okI out) (hq:fD (n:Int) yK out=true) {len:Nat} (hlen:len<=n) :
  de N N yL (len:Int) (n:Int) yK out b1 b2 (bJ ts yL yK) [[]] 0=some ((bO (bq ts yL yK) len []).1,(len:Int)):=by
 have hf:=km q
 have hn5:=q.n5
 have h:=dU (fun k (s:be) i=>de N k yL (len:Int) (n:Int) yK out b1 b2 (bJ ts yL yK) s i) len (fun i=>(lw (bq ts yL yK) i [[]] 0).1) ((lw (bq ts yL yK) len [[]] 0).1,(len:Int))
  (fun k i h=>by
   have hw:=vX (bq ts yL yK) i
   have hl:=ql hf i []
   have hp:16 ^ i<=16 ^ 5:=nT (by decide) oa
   show de N (k+1) yL (len:Int) (n:Int) yK out b1 b2 (bJ ts yL yK) (lw (bq ts yL yK) i [[]] 0).1 (i:Int)=de N k yL (len:Int) (n:Int) yK out b1 b2 (bJ ts yL yK) (lw (bq ts yL yK) (i+1) [[]] 0).1 ((i+1:Nat):Int)
   rw [xe,hw,de,dlt h,ah,L8 hN q ha ho hq (show i<n by omega) (fun r hr=>by obtain ⟨s,e1,e⟩:=nH hr;rw [e1];exact e) oa,bs,lpB,ad1 oa];rfl)
  (fun k=>by
   show de N (k+1) yL (len:Int) (n:Int) yK out b1 b2 (bJ ts yL yK) (lw (bq ts yL yK) len [[]] 0).1 (len:Int)=_
   rw [de,dge oa,ak]) N 0 oa oa
 have h':de N N yL (len:Int) (n:Int) yK out b1 b2 (bJ ts yL yK) [[]] 0=some ((lw (bq ts yL yK) len [[]] 0).1,(len:Int)):=h
 rw [vX (bq ts yL yK) len] at h'
 exact h'
theorem qB (hM:1073742848<=N) {ts:List bA} {n k:Int} {yK:List bl} {out yL:yP} (ht:nO ts) (ha:c6 yK) (ho:okI out) (hr:okI yL):jN N ts n yK out yL k=some (mf ts n yK out yL k):=by
 unfold jN mf
 rw [xt hM ht ha ho hr,bs,Ak]
 cases h:okQ ts n yK out yL with
 | false=>rfl
 | true =>
  obtain ⟨m,rfl,q,_⟩:=AX h
  rw [ah,cN]
  show ((eE N k 0 (m:Int)).bind _)=_
  rw [gZ,bs]
  cases h2:inR k 0 m with
  | false=>rfl
  | true =>
   have hk:=cA.1 h2
   obtain ⟨j,rfl⟩:∃ j:Nat,k=(j:Int):=⟨k.toNat,oa⟩
   rw [ah,ah,Dg oa q ha oa,bs]
   unfold nm
   rw [show ((j:Nat):Int).toNat=j from rfl]
   show (bif decide (((bO (bq ts yL yK) j []).1.length:Int)<=4000) then _ else _)=_
   cases decide (((bO (bq ts yL yK) j []).1.length:Int)<=4000) <;> rfl
theorem vN (hM:1073742848<=N) {ts:List bA} {n k:Int} {yK:List bl} {out yL:yP} (ht:nO ts) (ha:c6 yK) (ho:okI out) (hr:okI yL):lc N ts n yK out yL k=some (mf ts n yK out yL k):=by
 unfold lc mf
 rw [rP hM ht ha ho hr,bs,Ak]
 cases h:okQ ts n yK out yL with
 | false=>rfl
 | true =>
  obtain ⟨m,rfl,q,hq⟩:=AX h
  have h5:=q.n5
  rw [ah,cN,q.ol]
  show ((dr N k 0 (m:Int)).bind _)=_
  rw [fP,bs]
  cases h2:inR k 0 m with
  | false=>rfl
  | true =>
   have hk:=cA.1 h2
   obtain ⟨j,rfl⟩:∃ j:Nat,k=(j:Int):=⟨k.toNat,oa⟩
   obtain ⟨w1,_,_⟩:=rM (km q) (show j<=5 by omega)
   rw [ah,ah]
   show ((de N N yL (j:Int) (m:Int) yK out 0 [] (bJ ts yL yK) [[]] 0).bind _)=_
   rw [LW oa q ha ho hq oa,bs,lpB]
   show ((eF N (j:Int) (bO (bq ts yL yK) j []).1).bind _)=_
   rw [jZ hM w1,bs,Dw (km q) oa];rfl
end
def l8 (ts:List bA) (yK:List bl) (i:Nat):Nat:=(pT ts (cH yK i).1 (cH yK i).2).2.length
section
variable {N:Nat}
theorem D4 {ts:List bA} {n:Nat} {yK:List bl} {yL:yP} (q:QFor ts n yK yL) {i:Nat} (hi:i<yK.length):l8 ts yK i<=16:=by
 have hm:=mI hi
 obtain ⟨h1,_⟩:=nK q hm
 unfold l8
 rw [h1]
 exact Nat.le_trans (il _ _) (Nat.le_trans (lW _ _) (vW (q.af _ hm).1))
theorem IG {ts:List bA} {n:Nat} {yK:List bl} {yL:yP} (q:QFor ts n yK yL) {i:Nat} (hi:i<yK.length):mg ts yL yK i []<=l8 ts yK i:=by
 have hm:=mI hi
 obtain ⟨h1,_⟩:=nK q hm
 unfold mg l8
 rw [h1]
 refine Nat.le_trans (rT _ _) ?_
 unfold jR
 dsimp only
 refine Nat.le_trans (il _ _) ?_
 rw [cB]
 exact bY _
theorem De (hM:1073742848<=N) {ts:List bA} {n:Nat} {yK:List bl} {out yL:yP} (q:QFor ts n yK yL) (ht:nO ts) (ha:c6 yK) (ho:okI out) (hf:jI ts (n:Int) yK out=true) :
  nD N ts (n:Int) yK out=some ((List.range' 0 yK.length).map (fun i:Nat=>(l8 ts yK i:Int)),true):=by
 have h4:=q.a4
 have n5:=q.n5
 have h:=dU (fun k (o:yP) i=>fK N k ts (n:Int) yK out o i) yK.length (fun i=>(List.range' 0 i).map (fun i:Nat=>(l8 ts yK i:Int))) ((List.range' 0 yK.length).map (fun i:Nat=>(l8 ts yK i:Int)),(yK.length:Int))
  (fun k i h=>by
   show fK N (k+1) ts (n:Int) yK out ((List.range' 0 i).map (fun i:Nat=>(l8 ts yK i:Int))) (i:Int)=fK N k ts (n:Int) yK out ((List.range' 0 (i+1)).map (fun i:Nat=>(l8 ts yK i:Int))) ((i+1:Nat):Int)
   have hm:=bC h
   obtain ⟨l5,l1,hv⟩:=q.al _ hm
   rw [fK,dlt h,ah,bc h,bs,qF hM ht (nN ha h) l5 (fun v hv'=>by have:=hv v hv';omega),bs,bt (by decide) (by rw [cB,xM,bU];omega),bs,ad1 oa,bs,pn,fv]
   simp only [fh,nz,gd,nZ]
   unfold l8
   rw [kC h])
  (fun k=>by
   show fK N (k+1) ts (n:Int) yK out ((List.range' 0 yK.length).map (fun i:Nat=>(l8 ts yK i:Int))) (yK.length:Int)=_
   rw [fK,dge oa,ak]) N 0 oa oa
 have h':fK N N ts (n:Int) yK out [] 0=_:=h
 unfold nD
 rw [rV oa ht ha ho,bs,hf,ah,h',bs,lpB]
end
theorem Fp {f:Nxt}:∀ {m:Nat} {p r:yP},r∈(bO f m p).1->∀ j,j<m->r.getD (p.length+j) 0∈(f (r.take (p.length+j))).1
 | 0,_,_,_,j,hj=>absurd hj (Nat.not_lt_zero j)
 | m+1,p,r,h,j,hj=>by
  obtain ⟨v,hv0,hv⟩:=tX.1 h
  cases j with
  | zero =>
   obtain ⟨s,rfl,_⟩:=nH hv
   rw [mG,gr,w8 rfl]
   simpa using hv0
  | succ j =>
   have:=Fp hv j oa
   rw [cj,bU] at this
   rw [show p.length+(j+1)=p.length+1+j by omega]
   exact this
section
variable {ts:List bA} {n:Nat} {yK:List bl} {yL:yP}
theorem D5 {s:ByteArray} (h:(cl ts s).2=true):∃ t∈ts,(cl ts s).1.2=t.2.2:=by
 unfold cl at h ⊢
 cases hd:pX ts with
 | false=>rw [hd] at h;cases h
 | true =>
  rw [hd,ah] at h
  rw [ah]
  cases hf:ts.find? (fun t=>decide (t.1=s)) with
  | none=>rw [hf] at h;cases h
  | some t=>exact ⟨t,AH hf,rfl⟩
theorem As {xs:yP} (h:∀ v∈xs,0<=v/\v<6) (i:Nat):0<=xs.getD i 0/\xs.getD i 0<6:=by
 by_cases hi:i<xs.length
 ·rw [bR hi];exact h _ (bC _)
 ·rw [show xs.getD i 0=0 by simp [q7,List.getElem?_eq_none (Nat.le_of_not_lt hi)]];decide
theorem Hd {a:bl} {r:yP} (h:r∈(jR ts yL a).2):∃ x∈(cl ts a.1).1.2,r=dZ (fQ a.2 x) (l9 a.2 yL):=by
 unfold jR at h
 obtain ⟨s,hs,rfl⟩:=fm.1 (lB _ _ _ h)
 obtain ⟨x,hx,rfl⟩:=qx (lB _ _ _ hs)
 exact ⟨x,hx,rfl⟩
theorem Dx (a:bl):(jR ts yL a).2.length<=(cl ts a.1).1.2.length:=by
 have g1:=il 20 ((dP 20 (cS a.2 (cl ts a.1).1.2)).map fun r=>dZ r (l9 a.2 yL))
 have g2:=il 20 (cS a.2 (cl ts a.1).1.2)
 have hbl:=lW a.2 (cl ts a.1).1.2
 rw [cB] at g1
 exact Nat.le_trans g1 oa
theorem MW (hv:DSv ts) {a:bl} (hl:(cl ts a.1).2=true) {m:Int} {p xs:yP} (hn:xs.Nodup) (hx:∀ x∈xs,x∈mT m (jR ts yL a).2 p):xs.length<=7:=by
 obtain ⟨t,ht,e⟩:=D5 hl
 rcases hv t ht with h | h
 ·have h1:=s8 xs _ hn hx
  have h2:=Cf m (jR ts yL a).2 p
  have h3:=Dx (ts:=ts) (yL:=yL) a
  rw [e] at h3
  omega
 ·have h6:=s8 xs [0,1,2,3,4,5] hn fun x hxm=>by
   have hk:=hx x hxm
   unfold mT at hk
   split at hk
   ·obtain ⟨r,hr,_,rfl⟩:=uz.1 hk
    obtain ⟨y,hy,rfl⟩:=Hd hr
    rw [e] at hy
    have h0:=h y hy
    have h2:∀ v∈fQ a.2 y,0<=v/\v<6:=fun v hv'=>by
     unfold fQ at hv'
     obtain ⟨c,_,rfl⟩:=fm.1 hv'
     exact As h0 _
    have h3:∀ v∈dZ (fQ a.2 y) (l9 a.2 yL),0<=v/\v<6:=fun v hv'=>by
     unfold dZ at hv'
     obtain ⟨c,_,rfl⟩:=fm.1 hv'
     exact As h2 _
    have h4:=As h3 p.length
    simp only [cp,pq,sA]
    omega
   ·cases hk
  exact Nat.le_trans h6 (by decide)
theorem MI (q:QFor ts n yK yL) (hv:DSv ts) {p:yP} (hp:p.length<n):(bq ts yL yK p).1.length<=7:=by
 have hol:=q.ol
 have hb:=(oi q.os).2 (yL.getD p.length 0) (by rw [bR oa];exact bC _)
 obtain ⟨a,ha,hva⟩:=q.cov (yL.getD p.length 0) hb.1 oa
 obtain ⟨i,hi,rfl⟩:=ip ha
 have hs:tH yL yK p.length i=true:=by unfold tH;rw [kC hi];exact ba hva
 have hk:∀ x∈(bq ts yL yK p).1,x∈mT (jR ts yL (cH yK i)).1 (jR ts yL (cH yK i)).2 (pV (cH yK i).2 yL p):=fun x hx=>zm q hp hi hs hx
 exact MW hv (q.af _ (mI hi)).1 (wL ((km q).asc p)) hk
theorem IU (q:QFor ts n yK yL) (hv:DSv ts):∀ (m:Nat) (p:yP),p.length+m<=n->(bO (bq ts yL yK) m p).1.length<=7 ^ m
 | 0,p,_=>by simp [bO]
 | m+1,p,h=>by
  have h1:=mN (g:=fun v=>(bO (bq ts yL yK) m (p++[v])).1) (fun v=>IU q hv m _ (by rw [cj,bU];omega)) (bq ts yL yK p).1
  have h2:=ny (7 ^ m) (MI q hv (p:=p) oa)
  show ((bq ts yL yK p).1.flatMap fun v=>(bO (bq ts yL yK) m (p++[v])).1).length<=_
  rw [rN];omega
theorem ye (i:Nat):mg ts yL yK i []=(jR ts yL (cH yK i)).2.length:=by
 unfold mg fz pV ov
 simp
theorem BE (q:QFor ts n yK yL) {i:Nat} (hi:i<yK.length) (h0:mg ts yL yK i []=0):(bO (bq ts yL yK) n []).1=[]:=by
 refine List.eq_nil_iff_forall_not_mem.2 fun r hr=>?_
 obtain ⟨_,h1,h2⟩:=q.al _ (mI hi)
 have hvm:(cH yK i).2[0]∈(cH yK i).2:=bC h1
 obtain ⟨b0,b1⟩:=h2 _ hvm
 have hs:=oi q.os
 have hvo:=wy hs.1 q.ol (fun x hx=>by have:=hs.2 x hx;omega) _ b0 b1
 obtain ⟨k,hk,e⟩:=ip hvo
 have hol:=q.ol
 have hin:=Fp hr k oa
 have hrl:r.length=0+n:=Io hr
 rw [fN,fh] at hin
 have htl:(r.take k).length=k:=by rw [cq];omega
 have hh:tH yL yK (r.take k).length i=true:=by
  unfold tH
  rw [htl,bR hk,e]
  exact ba hvm
 have h:=zm q oa hi hh hin
 rw [ye,li] at h0
 unfold atV mT at h
 rw [h0] at h
 split at h
 ·obtain ⟨_,h3,_⟩:=uz.1 h
  cases h3
 ·cases h
theorem Dj (q:QFor ts n yK yL) (hd:DSm ts) {i:Nat} (hi:i<yK.length):mg ts yL yK i []<=10:=by
 rw [ye]
 obtain ⟨t,ht,e⟩:=D5 (q.af _ (mI hi)).1
 have h1:=Dx (ts:=ts) (yL:=yL) (cH yK i)
 have h2:=(hd.2 t ht).2.1
 rw [e] at h1
 omega
theorem Hw (q:QFor ts n yK yL) (hd:DSm ts) (hv:DSv ts) {out:yP} (hq:QB ((n:Int),yK,out)):(bO (bq ts yL yK) n []).1.length<=4000:=by
 have h5:=q.n5
 have g:I0 (n:Int) yK:=⟨q.a4,fun a ha=>⟨(q.al a ha).2.1,(q.al a ha).2.2⟩,q.cov⟩
 rcases hq g (by show (n:Int)<=5;omega) with h | ⟨h5,hp⟩
 ·dsimp only at h
  have h1:=IU q hv n [] (by simp)
  have h2:7 ^ n<=7 ^ 4:=nT (by decide) oa
  omega
 ·dsimp only at h5 hp
  have hn:n=5:=by omega
  by_cases he:∃ i,i<yK.length/\mg ts yL yK i []=0
  ·obtain ⟨i,hi,h0⟩:=he
   rw [BE q hi h0]
   exact dB _
  ·have hlt:∀ i∈[0,1,3],i<yK.length:=by rw [hp];decide
   have C:Cov yK n [0,1,3] 1:=⟨by decide,hlt,fun v v0 v1=>by
    have:v=0\/v=1\/v=2\/v=3\/v=4:=by omega
    rw [hp]
    rcases this with rfl | rfl | rfl | rfl | rfl <;> decide⟩
   have h:=ET q C (fun i hi=>by
    have:mg ts yL yK i []≠0:=fun h0=>he ⟨i,hlt i hi,h0⟩
    omega) (bY n)
   have b0:=Dj q hd (hlt 0 (by simp))
   have b1:=Dj q hd (hlt 1 (by simp))
   have b3:=Dj q hd (hlt 3 (by simp))
   rw [Nat.pow_one] at h
   have hm:=q8 b0 (q8 b1 b3)
   have e:prN ([0,1,3].map fun i=>mg ts yL yK i [])=mg ts yL yK 0 []*(mg ts yL yK 1 []*(mg ts yL yK 3 []*1)):=rfl
   rw [e,po] at h
   exact Nat.le_trans h (Nat.le_trans hm (by decide))
theorem HK (q:QFor ts n yK yL) {L:List Nat} (hL:∀ i∈L,i<yK.length) (hs:∀ i,i<yK.length->1<=l8 ts yK i):wd ts yL yK L []:=by
 intro i hi
 have hil:=hL i hi
 have h1:=hs i hil
 rw [ye]
 obtain ⟨e,_⟩:=nK q (mI hil)
 unfold l8 at h1
 rw [e] at h1
 dsimp only at h1
 have hr:=bC (show 0<(dP 20 (cS (cH yK i).2 (cl ts (cH yK i).1).1.2)).length by omega)
 exact xu (Bp 20 _ _ (fm.2 ⟨_,hr,rfl⟩))
theorem L5 (q:QFor ts n yK yL):∀ v:Nat,v<n->∃ j,j<yK.length/\((v:Nat):Int)∈(cH yK j).2:=fun v hv=>by
 obtain ⟨a,ha,h⟩:=q.cov v oa oa
 obtain ⟨j,hj,rfl⟩:=ip ha
 exact ⟨j,hj,by rw [kC hj];exact h⟩
end
def m9 (ts:List bA) (yK:List bl):yP:=(List.range' 0 yK.length).map fun i:Nat=>(l8 ts yK i:Int)
theorem FV (ts:List bA) (yK:List bl):(m9 ts yK).length=yK.length:=by unfold m9;simp
section
variable {N n:Nat} {ts:List bA} {yK:List bl} {out yL:yP}
theorem HA (q:QFor ts n yK yL):∀ v∈m9 ts yK,0<=v/\v<=16:=fun v hv=>by
 unfold m9 at hv
 obtain ⟨i,hi,rfl⟩:=fm.1 hv
 have:=D4 q (i:=i) (by simp at hi;omega)
 omega
theorem MN (q:QFor ts n yK yL) (k:Nat->Nat):prN ((wtL k (List.range' 0 yK.length)).map fun i=>mg ts yL yK i [])<=prN ((List.range' 0 yK.length).map fun i=>l8 ts yK i ^ k i):=by
 rw [GJ]
 exact Ay fun i hi=>xZ (IG q (by simp at hi;omega)) _
theorem Mo (hN:1073741824<=N) (q:QFor ts n yK yL) {x:dq} (hx:lY N n yK x) (hs:∀ i,i<yK.length->1<=l8 ts yK i) {m:Nat} (hm:m<=n) :
  gv N (m9 ts yK) x (((bO (bq ts yL yK) m []).1.length:Nat):Int)=some true:=by
 obtain ⟨d,k,d1,d3,hk,ex,C⟩:=xn hN q.n5 q.a1 q.a4 hx
 exact K9 hN q.a4 (fun i hi=>D4 q hi) hk d1 d3 ex (Nat.le_trans (ET q C (HK q C.lt hs) hm) (MN q k))
theorem Jh (q:QFor ts n yK yL) (h:okQ ts (n:Int) yK out yL=true) (hl:(bO (bq ts yL yK) n []).1.length<=4000) :
  mf ts (n:Int) yK out yL (n:Int)=(((n:Int),(bO (bq ts yL yK) n []).1),true)/\(tm ts (n:Int) yK out yL).1=((n:Int),(bO (bq ts yL yK) n []).1)/\(tm ts (n:Int) yK out yL).2.2=true:=by
 have hf:nm (n:Int) (bO (bq ts yL yK) n [])=(((n:Int),(bO (bq ts yL yK) n []).1),(bO (bq ts yL yK) n []).2,true):=by
  unfold nm
  rw [ba oa,ah]
 refine ⟨?_,?_,?_⟩
 ·unfold mf
  rw [h,show inR (n:Int) 0 (n:Int)=true from cA.2 oa,show ((n:Nat):Int).toNat=n from rfl,hf];rfl
 ·unfold tm
  rw [h,ah]
  cases he:rW (bJ ts yL yK) with
  | true =>
   unfold rW at he
   rw [List.any_eq_true] at he
   obtain ⟨t,ht,h0⟩:=he
   obtain ⟨a,ha,rfl⟩:=fm.1 ht
   obtain ⟨i,hi,rfl⟩:=ip ha
   rw [dN] at h0
   rw [BE q hi (by rw [ye,kC hi];exact h0)];rfl
  | false =>
   rw [ak,show ((n:Nat):Int).toNat=n from rfl,hf]
 ·unfold tm
  rw [h,ah]
  cases he:rW (bJ ts yL yK) with
  | true=>rfl
  | false =>
   rw [ak,show ((n:Nat):Int).toNat=n from rfl,hf]
theorem vb (hM:1073742848<=N) {a:yP} (ha:iy a):∃ ts r o k,jr N a=some (ts,r,o,k)/\JSm ts r o/\JSv ts r:=by
 obtain ⟨h,e⟩:=Gc (N:=N) oa ha
 obtain ⟨ts,r,o,q,g,e2,hc,hj,hv⟩:=CQ hM ha (h:=h) Nf
 obtain ⟨x,q2,g2,e3,b0,b1,_,_⟩:=dp (N:=N) ha (h:=g) (n:=7) hc
 have b1:=b1 (by decide)
 unfold jr
 rw [e,bs]
 dsimp only
 rw [e2,bs]
 dsimp only
 rw [e3,bs]
 dsimp only
 rw [dO oa oa,bs]
 exact ⟨_,_,_,_,rfl,hj,hv⟩
end
theorem vx {N:Nat} {z1 z5 z8:Int} {z2 z6 z9:be} {z4:dq} {z7:Bool} {xs:yP} (hl:xs.length<=1000):∀ (c i yN:Nat) (b:Bool),i+c=xs.length->c<yN ->
  ∃ b',dW N yN z1 z2 xs z4 z5 z6 z7 z8 z9 b (i:Int)=some (b',(xs.length:Int))/\(b'=false->b=false/\∀ j,i<=j->j<xs.length->xs.getD j 0≠0):=by
 intro c
 induction c with
 | zero =>
  intro i yN b hi hf
  obtain ⟨k,rfl⟩:∃ k,yN=k+1:=⟨yN-1,oa⟩
  have he:i=xs.length:=by omega
  subst he
  rw [dW,bf oa,ak]
  exact ⟨b,rfl,fun h=>⟨h,fun j h1 h2=>absurd h2 oa⟩⟩
 | succ c ih =>
  intro i yN b hi hf
  obtain ⟨k,rfl⟩:∃ k,yN=k+1:=⟨yN-1,oa⟩
  rw [dW,ba oa,ah]
  cases b with
  | true =>
   rw [ah,ad1 oa,bs]
   obtain ⟨b',e,h⟩:=ih (i+1) k true oa oa
   exact ⟨b',e,fun hb=>absurd (h hb).1 (by decide)⟩
  | false =>
   have hix:i<xs.length:=by omega
   rw [ak,bc hix,bs,ad1 oa,bs]
   obtain ⟨b',e,h⟩:=ih (i+1) k (xs[i] == 0) oa oa
   refine ⟨b',e,fun hb=>⟨rfl,fun j h1 h2=>?_⟩⟩
   obtain ⟨h3,h4⟩:=h hb
   rcases Nat.eq_or_lt_of_le h1 with rfl | hlt
   ·rw [bR h2]
    intro h0
    rw [h0] at h3
    exact absurd h3 (by decide)
   ·exact h4 j hlt h2
theorem xK {N:Nat} (hM:1073742848<=N) {x0:yP} (_:(ua (fun _=>True) 9223372036854775807) x0) (g0:∀ v∈x0,0<=v/\v<=255):lZ N x0=some true:=by
 have hN:1073741824<=N:=by omega
 unfold lZ wm
 rw [bs]
 by_cases hb:(1048576:Int)<(x0.length:Int)
 ·rw [ba hb];rfl
 ·rw [bf hb,ak]
  have hc:iy x0:=⟨oa,fun v hv=>g0 v hv⟩
  obtain ⟨ts,⟨n,ats,out⟩,o,k,e1,hj,hv⟩:=vb hM hc
  have d1:=hj.1.ok;have d2:=hj.2.1.atoms;have d3:=hj.2.1.out;have d4:=hj.o
  rw [e1,bs]
  dsimp only at d2 d3 ⊢
  have hp:=Ix (ts:=ts) (n:=n) (yK:=ats) (out:=out) (yL:=o) (k:=k)
  rw [qB hM d1 d2 d3 d4,bs,vN hM d1 d2 d3 d4,bs,bne_self_eq_false,ak,ph hN hp hp,bs,ba rfl,ah]
  cases ht:(mf ts n ats out o k).2 with
  | false=>rfl
  | true =>
   rw [ah]
   have hpk:okQ ts n ats out o=true/\inR k 0 n=true:=by
    unfold mf at ht
    cases h1:okQ ts n ats out o <;> cases h2:inR k 0 n <;> rw [h1,h2] at ht <;> first | exact ⟨rfl,rfl⟩ | cases ht
   obtain ⟨h,hk⟩:=hpk
   obtain ⟨m,rfl,q,hqq⟩:=AX h
   have hk2:=cA.1 hk
   obtain ⟨j,rfl⟩:∃ j:Nat,k=(j:Int):=⟨k.toNat,oa⟩
   have hf:jI ts (m:Int) ats out=true:=by
    unfold okQ at h
    rw [b9] at h
    exact h.1
   have e2:=De hM q d1 d2 d3 hf
   have hlen:=FV ts ats
   have h4:=q.a4
   obtain ⟨w,ew,hw⟩:=Di hN d2 d3 hqq (L5 q) hlen (HA q)
   have hl:=Hw q hj.1 hv.1 hv.2
   obtain ⟨f1,f2,f3⟩:=Jh q h hl
   have hW:=(rM (km q) q.n5).1
   obtain ⟨b',eb,hbz⟩:=vx (N:=N) (z1:=(mf ts (m:Int) ats out o (j:Int)).1.1) (z2:=(mf ts (m:Int) ats out o (j:Int)).1.2) (z4:=w) (z5:=(m:Int)) (z6:=(bO (bq ts o ats) m []).1) (z7:=true) (z8:=(m:Int)) (z9:=(bO (bq ts o ats) m []).1) (xs:=m9 ts ats) oa ats.length 0 N false oa oa
   have eb':dW N N (mf ts (m:Int) ats out o (j:Int)).1.1 (mf ts (m:Int) ats out o (j:Int)).1.2 (m9 ts ats) w (m:Int) (bO (bq ts o ats) m []).1 true (m:Int) (bO (bq ts o ats) m []).1 false 0=some (b',((m9 ts ats).length:Int)):=eb
   rw [e2,bs]
   dsimp only
   show ((lH N (m:Int) ats out (m9 ts ats)).bind _)=_
   rw [ew,bs,qB hM d1 d2 d3 d4,bs,f1,vU hM d1 d2 d3 d4,bs,f2]
   dsimp only
   show ((dW N N (mf ts (m:Int) ats out o (j:Int)).1.1 (mf ts (m:Int) ats out o (j:Int)).1.2 (m9 ts ats) w (m:Int) (bO (bq ts o ats) m []).1 true (m:Int) (bO (bq ts o ats) m []).1 false 0).bind _)=_
   rw [eb',bs,lpB]
   dsimp only
   rw [ah,ph hN hW hW,bs,ba rfl,ah]
   cases b' with
   | true=>rfl
   | false =>
    obtain ⟨_,hz⟩:=hbz rfl
    have hs:∀ i,i<ats.length->1<=l8 ts ats i:=fun i hi=>by
     have:=hz i (dB _) oa
     rw [bR oa] at this
     have e:(m9 ts ats)[i]'oa=(l8 ts ats i:Int):=by unfold m9;simp
     rw [e] at this
     omega
    have hjn:j<=m:=by omega
    have h3:=Mo hN q hw hs hjn
    have e3:(mf ts (m:Int) ats out o (j:Int)).1.2=(bO (bq ts o ats) j []).1:=by
     unfold mf nm at ht ⊢
     rw [h,hk,show ((j:Nat):Int).toNat=j from rfl] at ht ⊢
     cases h5:decide (((bO (bq ts o ats) j []).1.length:Int)<=4000) with
     | true=>rfl
     | false=>rw [h5] at ht;cases ht
    rw [ak,e3]
    show ((gv N (m9 ts ats) w (((bO (bq ts o ats) j []).1.length:Nat):Int)).bind _)=_
    rw [h3,bs]
section
variable {P:Program} {n:Nat} {Q Q':Exit->Env->World->Prop} {K:Env->World->Prop} {KQ:Env->Prop} {e:Env} {w w0:World} {c y:Code} {x:Exit} {ops:Array Oper} {rest:List Oper}
variable {d:Nat} {op:Op} {ty:TypeId} {pos:String} {af:Array Edge} {o z1 z2 z3:Operand} {v:Value} {q1:Oper}
theorem Hp {x:Operand} {t ft:TypeId} {k off:Nat} {fs:Array Field} {f:Field} (h1:P.underlying t=some (.struct fs)) (h2:fs[k]? = some f) (h3:f.offset=off) (h4:f.type=ft) [hT:PlainT P ft] {cs:List Value} (hx:ev e x=.agg cs.toArray) {c:Value} (hc:cs[off]? = some c):PV P ⟨d,.field t x k,ty,pos,af,none⟩ e w c:=fun w' _=>by
 obtain ⟨dd,hd,hk⟩:=hT.h
 subst h3;subst h4
 have hagg:(isAgg f.type).run P w'=.ok false w':=by
  unfold isAgg
  rw [dn,gc hd w']
  cases dd <;> simp_all
 unfold execOp
 simp [hx,Instr.field,gc h1,h2,asAgg,part,dn,hagg,hc]
def RdF {α:Type} (w0 W:World) (F:List Nat) (R:Rep α) (cs:List Value) (x:α):Prop:=R.rd w0 cs x\/∃ f,R.own W cs x f/\∀ b∈f,b∈F
theorem RdF.up {α:Type} {R:Rep α} {W W':World} {F F':List Nat} {cs:List Value} {x:α} (h:RdF w0 W F R cs x) (he:∀ b∈F,W'.heap[b]? = W.heap[b]?) (hs:∀ b∈F,b∈F'):RdF w0 W' F' R cs x:=by
 rcases h with h | ⟨f,h1,h2⟩
 ·exact .inl h
 ·exact .inr ⟨f,R.own_ext h1 (fun b hb=>he b (h2 b hb)),fun b hb=>hs b (h2 b hb)⟩
theorem dt {p:Prop} [Decidable p] (h:decide p=true:=by rfl):p:=qU h
theorem oB {α β:Type} {C:Prop} {o:Option α} {f:α->Option β} {r:β} (h:o.bind f=some r) (k:∀ x,o=some x->f x=some r->C):C:=by
 obtain ⟨x,h1,h2⟩:=ob h
 exact k x h1 h2
theorem oF {α:Type} {C:Prop} {c:Bool} {x y:Option α} {r:α} (h:(bif c then x else y)=some r) (k1:c=true->x=some r->C) (k2:c=false->y=some r->C):C:=by
 rcases oif h with ⟨h1,h2⟩ | ⟨h1,h2⟩
 ·exact k1 h1 h2
 ·exact k2 h1 h2
theorem oI {α:Type} {a b:α} (h:some a=some b):a=b:=dz h
theorem nn {α:Type} {x:α} (h:none=some x):False:=nomatch h
theorem cR {α:Type} {a b:α} (h:a=b) (f:α->Value):Ending.returned (f a)=Ending.returned (f b):=by rw [h]
theorem sP {α:Type} {a b:α} (h:a=b) (f:α->List Asn) (S:Sat w0 w (f a)):Sat w0 w (f b):=by rw [<- h];exact S
abbrev pt (b o:Nat):Value:=.pointer (some ⟨b,o,none⟩)
theorem sg (h:∀ Q':Exit->Env->World->Prop,(∀ x e w,thn (fun e w=>CW P n y Q e w) Q x e w->Q' x e w)->CW P n c Q' e w):CW P n (.seq c y) Q e w:=Hu (AG h)
theorem sR {id:Nat} {l:List Oper} (h:∀ Q':Exit->Env->World->Prop,(∀ x e w,thn (fun e w=>CW P n y Q e w) Q x e w->Q' x e w)->EL P n l.toArray (fun e w=>Q' .normal e w) l e w):CW P n (.seq (.region id l.toArray false) y) Q e w:=Hu (AG fun Q' q=>ae (h Q' q))
theorem gn (h:∀ Q':Exit->Env->World->Prop,(∀ x e w,Q x e w->Q' x e w)->CW P n c Q' e w):CW P n c Q e w:=AG h
theorem bg {i:Nat} (h:∀ Q':Exit->Env->World->Prop,(∀ x e w,inb i Q x e w->Q' x e w)->CW P n c Q' e w):CW P n (.block i c) Q e w:=If (AG h)
theorem hq {f:Exit->Env->World->Prop} (h:∀ x e w,f x e w->Q' x e w) (k:f x e w):Q' x e w:=h _ _ _ k
theorem tn (h:∀ x e w,thn K Q x e w->Q' x e w) (k:K e w):Q' .normal e w:=h _ _ _ k
theorem tr (h:∀ x e w,thn K Q x e w->Q' x e w) (k:Q .ret e w):Q' .ret e w:=h _ _ _ k
theorem tx {i:Nat} (h:∀ x e w,thn K Q x e w->Q' x e w) (k:Q (.exit i) e w):Q' (.exit i) e w:=h _ _ _ k
theorem bn {i:Nat} (h:∀ x e w,inb i Q x e w->Q' x e w) (k:Q .normal e w):Q' .normal e w:=h _ _ _ k
theorem br {i:Nat} (h:∀ x e w,inb i Q x e w->Q' x e w) (k:Q .ret e w):Q' .ret e w:=h _ _ _ k
theorem bS {i:Nat} (h:∀ x e w,inb i Q x e w->Q' x e w) (k:Q .normal e w):Q' (.exit i) e w:=h _ _ _ (M1 k)
theorem en (h:∀ x e w,thn K Q x e w->Q' x e w) (k:K e w):EL P n ops (fun e w=>Q' .normal e w) [] e w:=ag (h _ _ _ k)
theorem sn (h:∀ x e w,thn K Q x e w->Q' x e w) (k:K e w):CW P n .skip Q' e w:=bk (h _ _ _ k)
theorem pa (v:Value) (hK:EL P n ops K rest (upd e d v) w) (hx:ev e o=v:=by exact rfl) (hd:d<n:=by decide):EL P n ops K (⟨some d,.assign o,ty,pos,af,none⟩ :: rest) e w:=rH (gh hx) hd hK
theorem pm (v:Value) (hK:EL P n ops K rest (upd e d v) w) (hx:ev e o=v:=by exact rfl) (hd:d<n:=by decide):EL P n ops K (⟨some d,.move o,ty,pos,af,none⟩ :: rest) e w:=rH (bi hx) hd hK
theorem pM (v:Value) (hx:ev e o=v) (hK:EL P n ops K rest (upd e d v) w) (hd:d<n:=by decide):EL P n ops K (⟨some d,.move o,ty,pos,af,none⟩ :: rest) e w:=rH (bi hx) hd hK
theorem pe (v:Value) (hp:PV P ⟨some d,op,ty,pos,af,none⟩ e w v) (hK:EL P n ops K rest (upd e d v) w) (hd:d<n:=by decide):EL P n ops K (⟨some d,op,ty,pos,af,none⟩ :: rest) e w:=rH hp hd hK
theorem qe (v:Value) (hp:PV P ⟨some d,op,ty,pos,af,none⟩ e w v) (hK:QL P n ops w KQ rest (upd e d v)) (hd:d<n:=by decide):QL P n ops w KQ (⟨some d,op,ty,pos,af,none⟩ :: rest) e:=yn hp hd hK
theorem qm (v:Value) (hK:QL P n ops w KQ rest (upd e d v)) (hx:ev e o=v:=by exact rfl) (hd:d<n:=by decide):QL P n ops w KQ (⟨some d,.move o,ty,pos,af,none⟩ :: rest) e:=yn (bi hx) hd hK
theorem qM (v:Value) (hx:ev e o=v) (hK:QL P n ops w KQ rest (upd e d v)) (hd:d<n:=by decide):QL P n ops w KQ (⟨some d,.move o,ty,pos,af,none⟩ :: rest) e:=yn (bi hx) hd hK
theorem eo {j:Nat} {b b' c:Bool} (hc:c=b) (hK:EL P n ops K rest (upd e d undef) w) (h:yld ops e j=some c:=by exact rfl) (hb:(b == b')=false:=by exact rfl) (hd:d<n:=by decide):EL P n ops K (⟨some d,op,ty,pos,af,some (j,b')⟩ :: rest) e w:=L6 h hc hb hd hK
theorem qo {j:Nat} {b b' c:Bool} (hc:c=b) (hK:QL P n ops w KQ rest (upd e d undef)) (h:yld ops e j=some c:=by exact rfl) (hb:(b == b')=false:=by exact rfl) (hd:d<n:=by decide):QL P n ops w KQ (⟨some d,op,ty,pos,af,some (j,b')⟩ :: rest) e:=KK h hc hb hd hK
theorem ei {j:Nat} {b c:Bool} {dst:Option Nat} (hc:c=b) (hK:EL P n ops K (⟨dst,op,ty,pos,af,none⟩ :: rest) e w) (h:yld ops e j=some c:=by exact rfl):EL P n ops K (⟨dst,op,ty,pos,af,some (j,b)⟩ :: rest) e w:=MT h hc hK
theorem qi {j:Nat} {b c:Bool} {dst:Option Nat} (hc:c=b) (hK:QL P n ops w KQ (⟨dst,op,ty,pos,af,none⟩ :: rest) e) (h:yld ops e j=some c:=by exact rfl):QL P n ops w KQ (⟨dst,op,ty,pos,af,some (j,b)⟩ :: rest) e:=MO h hc hK
theorem ct {b:Bool} (hb:b=true) (h:CW P n c Q e w) (hc:ev e o=.bool b:=by exact rfl):CW P n (.cond o c y) Q e w:=GM hc hb h
theorem cf {b:Bool} (hb:b=false) (h:CW P n y Q e w) (hc:ev e o=.bool b:=by exact rfl):CW P n (.cond o c y) Q e w:=Hr hc hb h
theorem rB {a b:Bool} {Γ:List Asn} (h:some a=some b) (hS:Sat w0 w Γ):Ending.returned (.bool a)=.returned (.bool b)/\Ext w0 w:=⟨by rw [dz h],hS.below⟩
theorem rI {a b:Int} {Γ:List Asn} (h:some a=some b) (hS:Sat w0 w Γ):Ending.returned (.int .i64 a)=.returned (.int .i64 b)/\Ext w0 w:=⟨by rw [dz h],hS.below⟩
abbrev i_ (x:Int):Value:=.int .i64 x
abbrev n_:Value:=.slice none 0 0
theorem ec0 {f:FuncId} {args:Array Operand} {tys:Array TypeId} {vals:Array Value} {Γ:List Asn} (hg:Goes P f) (hc:Calls P f vals w fun x w'=>x=.returned v/\Ext w w') (hv:(args.toList.map (ev e)).toArray=vals) (S:Sat w0 w Γ)
  (hK:∀ w',Ext w w'->Sat w0 w' Γ->EL P n ops K rest (upd e d v) w') (hd:d<n:=by decide):EL P n ops K (⟨some d,.call ⟨.value (.func f),args,tys⟩,ty,pos,af,none⟩ :: rest) e w :=
 bz hg hc hv hd (by rintro _ w' ⟨rfl,hx⟩;exact ⟨_,rfl,hK w' hx (S.ext hx)⟩)
theorem ec1 {f:FuncId} {args:Array Operand} {tys:Array TypeId} {vals:Array Value} {Γ:List Asn} {G:Value->Value} {A:Value->Asn} (hg:Goes P f) (hc:Calls P f vals w fun x w'=>∃ v,x=.returned (G v)/\Sat w w' [A v]) (hv:(args.toList.map (ev e)).toArray=vals) (S:Sat w0 w Γ)
  (hK:∀ w' v,Ext w w'->Sat w0 w' (A v :: Γ)->EL P n ops K rest (upd e d (G v)) w') (hd:d<n:=by decide):EL P n ops K (⟨some d,.call ⟨.value (.func f),args,tys⟩,ty,pos,af,none⟩ :: rest) e w :=
 bz hg hc hv hd (by rintro _ w' ⟨v,rfl,S'⟩;exact ⟨_,rfl,hK w' v S'.below (S.zU S')⟩)
theorem aO {X:List Nat} {C:World->Prop} (i:Nat) {f:Nat} {L:Array Bool} (ho:ops[i]? = some q1)
  (h:EL P n ops (fun e' w'=>(X.contains i=true->C w')/\AL P n ops X C K f (L.setIfInBounds i true) e' w') [q1] e w) (hr:Region.ready .any ops L=[i]:=by kernel_rfl):AL P n ops X C K (f+1) L e w:=Lz i hr ho h
theorem aP {X:List Nat} {C:World->Prop} (v:Value) (i:Nat) {f:Nat} {L:Array Bool} (hi:ops[i]? = some q1) (hdst:q1.dst=some d) (hC:C w)
  (hy:SV P n ops C q1 e v) (hK:AL P n ops X C K f (L.setIfInBounds i true) (upd e d v) w) (hsel:qJ ops=true:=by kernel_rfl) (hdn:d<n:=by decide) (hf:ud ops X L i q1=true:=by kernel_rfl) (hr:(Region.ready .any ops L).contains i=true:=by kernel_rfl):AL P n ops X C K (f+1) L e w:=F3 hsel i hi hdst hdn hC hf hr hy hK
theorem ca {α β:Type} {f:α->β} {l:List α} {m:List β} (h:l.map f=m):(l.map f).toArray=m.toArray:=bh List.toArray h
theorem Sat.t1 {a0 a1:Asn} {Γ:List Asn} (h:Sat w0 w (a0 :: a1 :: Γ)):Sat w0 w (a1 :: a0 :: Γ):=h.top 1 rfl
theorem Sat.t2 {a0 a1 a2:Asn} {Γ:List Asn} (h:Sat w0 w (a0 :: a1 :: a2 :: Γ)):Sat w0 w (a2 :: a0 :: a1 :: Γ):=h.top 2 rfl
theorem Sat.t3 {a0 a1 a2 a3:Asn} {Γ:List Asn} (h:Sat w0 w (a0 :: a1 :: a2 :: a3 :: Γ)):Sat w0 w (a3 :: a0 :: a1 :: a2 :: Γ):=h.top 3 rfl
theorem Sat.t4 {a0 a1 a2 a3 a4:Asn} {Γ:List Asn} (h:Sat w0 w (a0 :: a1 :: a2 :: a3 :: a4 :: Γ)):Sat w0 w (a4 :: a0 :: a1 :: a2 :: a3 :: Γ):=h.top 4 rfl
theorem Sat.t5 {a0 a1 a2 a3 a4 a5:Asn} {Γ:List Asn} (h:Sat w0 w (a0 :: a1 :: a2 :: a3 :: a4 :: a5 :: Γ)):Sat w0 w (a5 :: a0 :: a1 :: a2 :: a3 :: a4 :: Γ):=h.top 5 rfl
theorem Sat.t6 {a0 a1 a2 a3 a4 a5 a6:Asn} {Γ:List Asn} (h:Sat w0 w (a0 :: a1 :: a2 :: a3 :: a4 :: a5 :: a6 :: Γ)):Sat w0 w (a6 :: a0 :: a1 :: a2 :: a3 :: a4 :: a5 :: Γ):=h.top 6 rfl
theorem Sat.t7 {a0 a1 a2 a3 a4 a5 a6 a7:Asn} {Γ:List Asn} (h:Sat w0 w (a0 :: a1 :: a2 :: a3 :: a4 :: a5 :: a6 :: a7 :: Γ)):Sat w0 w (a7 :: a0 :: a1 :: a2 :: a3 :: a4 :: a5 :: a6 :: Γ):=h.top 7 rfl
theorem Sat.t8 {a0 a1 a2 a3 a4 a5 a6 a7 a8:Asn} {Γ:List Asn} (h:Sat w0 w (a0 :: a1 :: a2 :: a3 :: a4 :: a5 :: a6 :: a7 :: a8 :: Γ)):Sat w0 w (a8 :: a0 :: a1 :: a2 :: a3 :: a4 :: a5 :: a6 :: a7 :: Γ):=h.top 8 rfl
theorem Sat.r0 {a0:Asn} {Γ:List Asn} (h:Sat w0 w (a0 :: Γ)):Sat w0 w (Γ):=h.rem 0 rfl
theorem Sat.r1 {a0 a1:Asn} {Γ:List Asn} (h:Sat w0 w (a0 :: a1 :: Γ)):Sat w0 w (a0 :: Γ):=h.rem 1 rfl
theorem Sat.r2 {a0 a1 a2:Asn} {Γ:List Asn} (h:Sat w0 w (a0 :: a1 :: a2 :: Γ)):Sat w0 w (a0 :: a1 :: Γ):=h.rem 2 rfl
theorem Sat.r3 {a0 a1 a2 a3:Asn} {Γ:List Asn} (h:Sat w0 w (a0 :: a1 :: a2 :: a3 :: Γ)):Sat w0 w (a0 :: a1 :: a2 :: Γ):=h.rem 3 rfl
theorem Sat.r4 {a0 a1 a2 a3 a4:Asn} {Γ:List Asn} (h:Sat w0 w (a0 :: a1 :: a2 :: a3 :: a4 :: Γ)):Sat w0 w (a0 :: a1 :: a2 :: a3 :: Γ):=h.rem 4 rfl
theorem Sat.r5 {a0 a1 a2 a3 a4 a5:Asn} {Γ:List Asn} (h:Sat w0 w (a0 :: a1 :: a2 :: a3 :: a4 :: a5 :: Γ)):Sat w0 w (a0 :: a1 :: a2 :: a3 :: a4 :: Γ):=h.rem 5 rfl
theorem Sat.r6 {a0 a1 a2 a3 a4 a5 a6:Asn} {Γ:List Asn} (h:Sat w0 w (a0 :: a1 :: a2 :: a3 :: a4 :: a5 :: a6 :: Γ)):Sat w0 w (a0 :: a1 :: a2 :: a3 :: a4 :: a5 :: Γ):=h.rem 6 rfl
theorem Sat.r7 {a0 a1 a2 a3 a4 a5 a6 a7:Asn} {Γ:List Asn} (h:Sat w0 w (a0 :: a1 :: a2 :: a3 :: a4 :: a5 :: a6 :: a7 :: Γ)):Sat w0 w (a0 :: a1 :: a2 :: a3 :: a4 :: a5 :: a6 :: Γ):=h.rem 7 rfl
theorem Sat.r8 {a0 a1 a2 a3 a4 a5 a6 a7 a8:Asn} {Γ:List Asn} (h:Sat w0 w (a0 :: a1 :: a2 :: a3 :: a4 :: a5 :: a6 :: a7 :: a8 :: Γ)):Sat w0 w (a0 :: a1 :: a2 :: a3 :: a4 :: a5 :: a6 :: a7 :: Γ):=h.rem 8 rfl
theorem Sat.r9 {a0 a1 a2 a3 a4 a5 a6 a7 a8 a9:Asn} {Γ:List Asn} (h:Sat w0 w (a0 :: a1 :: a2 :: a3 :: a4 :: a5 :: a6 :: a7 :: a8 :: a9 :: Γ)):Sat w0 w (a0 :: a1 :: a2 :: a3 :: a4 :: a5 :: a6 :: a7 :: a8 :: Γ):=h.rem 9 rfl
theorem Sat.r10 {a0 a1 a2 a3 a4 a5 a6 a7 a8 a9 a10:Asn} {Γ:List Asn} (h:Sat w0 w (a0 :: a1 :: a2 :: a3 :: a4 :: a5 :: a6 :: a7 :: a8 :: a9 :: a10 :: Γ)):Sat w0 w (a0 :: a1 :: a2 :: a3 :: a4 :: a5 :: a6 :: a7 :: a8 :: a9 :: Γ):=h.rem 10 rfl
theorem Sat.r11 {a0 a1 a2 a3 a4 a5 a6 a7 a8 a9 a10 a11:Asn} {Γ:List Asn} (h:Sat w0 w (a0 :: a1 :: a2 :: a3 :: a4 :: a5 :: a6 :: a7 :: a8 :: a9 :: a10 :: a11 :: Γ)):Sat w0 w (a0 :: a1 :: a2 :: a3 :: a4 :: a5 :: a6 :: a7 :: a8 :: a9 :: a10 :: Γ):=h.rem 11 rfl
theorem Sat.r12 {a0 a1 a2 a3 a4 a5 a6 a7 a8 a9 a10 a11 a12:Asn} {Γ:List Asn} (h:Sat w0 w (a0 :: a1 :: a2 :: a3 :: a4 :: a5 :: a6 :: a7 :: a8 :: a9 :: a10 :: a11 :: a12 :: Γ)):Sat w0 w (a0 :: a1 :: a2 :: a3 :: a4 :: a5 :: a6 :: a7 :: a8 :: a9 :: a10 :: a11 :: Γ):=h.rem 12 rfl
theorem Sat.r13 {a0 a1 a2 a3 a4 a5 a6 a7 a8 a9 a10 a11 a12 a13:Asn} {Γ:List Asn} (h:Sat w0 w (a0 :: a1 :: a2 :: a3 :: a4 :: a5 :: a6 :: a7 :: a8 :: a9 :: a10 :: a11 :: a12 :: a13 :: Γ)):Sat w0 w (a0 :: a1 :: a2 :: a3 :: a4 :: a5 :: a6 :: a7 :: a8 :: a9 :: a10 :: a11 :: a12 :: Γ):=h.rem 13 rfl
end
theorem Fs {α:Type} {R:Rep α} {w:World} (hsz:R.sz=1):∀ {xs:List α} {ccs:List Value} {f:List Nat},f7 R w ccs xs f->∃ ts:List (Value × α × List Nat),ccs=ts.map (·.1)/\xs=ts.map (·.2.1)/\f=(ts.map (·.2.2)).flatten/\∀ t∈ts,R.own w [t.1] t.2.1 t.2.2
 | [],_,_,h=>by
  obtain ⟨rfl,rfl⟩:=h
  exact ⟨[],rfl,rfl,rfl,by simp⟩
 | x :: xs,_,_,h=>by
  obtain ⟨ec,rest,f1,f2,rfl,rfl,h1,h2⟩:=h
  obtain ⟨ts,rfl,rfl,rfl,h3⟩:=Fs hsz h2
  have hl:=R.rd_len (R.own_rd h1)
  rw [hsz] at hl
  obtain ⟨c,rfl⟩:=List.length_eq_one_iff.1 hl
  refine ⟨(c,x,f1) :: ts,rfl,rfl,rfl,fun t ht=>?_⟩
  rcases cp.1 ht with rfl | ht
  ·exact h1
  ·exact h3 t ht
theorem Fn {α:Type} {R:Rep α} {w:World}:∀ {ts:List (Value × α × List Nat)},(∀ t∈ts,R.own w [t.1] t.2.1 t.2.2)->f7 R w (ts.map (·.1)) (ts.map (·.2.1)) (ts.map (·.2.2)).flatten
 | [],_=>⟨rfl,rfl⟩
 | t :: _,h=>⟨[t.1],_,t.2.2,_,rfl,rfl,h t cZ,Fn fun u hu=>h u (dy _ hu)⟩
theorem HD {α:Type} {R:Rep α} {w:World} (hsz:R.sz=1) {xs:List α} {ccs:List Value} {f:List Nat} (h:f7 R w ccs xs f) {k p:Nat} (hk:k<xs.length) (hp:p<xs.length) {a b:Value} (ha:ccs[k]? = some a) (hb:ccs[p]? = some b) :
  ∃ f',f'.Perm f/\f7 R w ((ccs.set k b).set p a) ((xs.set k xs[p]).set p xs[k]) f':=by
 obtain ⟨ts,rfl,rfl,rfl,h3⟩:=Fs hsz h
 rw [cB] at hk hp
 rw [List.getElem?_map,si hk] at ha
 rw [List.getElem?_map,si hp] at hb
 have ha:ts[k].1=a:=dz ha
 have hb:ts[p].1=b:=dz hb
 have hpm:=List.set_set_perm hk hp
 refine ⟨(((ts.set k ts[p]).set p ts[k]).map (·.2.2)).flatten,(hpm.map _).flatten,?_⟩
 have:=Fn (R:=R) (w:=w) (ts:=(ts.set k ts[p]).set p ts[k]) fun t ht=>h3 t (hpm.mem_iff.1 ht)
 rw [xT,xT,xT,xT,ha,hb] at this
 rw [jC,jC]
 exact this
def Dl {α:Type} (R:Rep α) (E:TypeId) (v:Value) (ys:List α) (p:Nat) (c:Value):Asn where
 holds w fp:=∃ g cap cur f2,v=.slice (some ⟨g,0,none⟩) ys.length cap/\w.heap[g]? = some (.cells cur E (0,0))/\ys.length<=cap/\cap<=maxLen/\cur.size=cap*R.sz/\R.sz=1/\p<ys.length/\f7 R w ((cur.toList.take ys.length).set p c) ys f2/\fp=g :: f2
 ext h he:=by
  obtain ⟨g,cap,cur,f2,h1,h2,h3,h4,h5,h6,h7,h8,rfl⟩:=h
  exact ⟨g,cap,cur,f2,h1,by rw [he g cZ];exact h2,h3,h4,h5,h6,h7,im h8 (fun b hb=>he b (dy _ hb)),rfl⟩
 lt h:=by
  obtain ⟨g,cap,cur,f2,h1,h2,h3,h4,h5,h6,h7,h8,rfl⟩:=h
  intro b hb
  rcases cp.1 hb with rfl | hb
  ·exact (ld.1 h2).1
  ·exact iT h8 b hb
section
variable {P:Program} {n:Nat} {K:Env->World->Prop} {e:Env} {w w0:World} {ops:Array Oper} {rest:List Oper} {ty:TypeId} {pos:String} {af:Array Edge}
variable {α:Type} {R:Rep α} {Γ:List Asn} {E:TypeId} {v:Value}
theorem Cw {e:Env} {K:Env->World->Prop} {x y:Operand} {t:TypeId} {z:List Value} {yO:Nat} [hz:ElemT P t z 1 yO] {A B:Asn} {g o:Nat} {c:Value} {cur:Array Value}
  (hS:Sat w0 w (A :: Γ)) (hg:w.heap[g]? = some (.cells cur E (0,0))) (ho:o<cur.size) (hx:ev e x=.pointer (some ⟨g,o,none⟩)) (hy:(ev e y).cells=[c].toArray) (h1:c.oneCell'=true)
  (hAB:∀ w' fp,A.holds w fp->fp.Nodup->w'.heap[g]? = some (.cells (cur.toList.set o c).toArray E (0,0))->(∀ x,x≠g->x<w.heap.size->w'.heap[x]? = w.heap[x]?)->∃ fp',fp'.Perm fp/\g∈fp/\B.holds w' fp')
  (hK:∀ w',Sat w0 w' (B :: Γ)->EL P n ops K rest e w'):EL P n ops K (⟨none,.store t x y,ty,pos,af,none⟩ :: rest) e w:=by
 intro a ha
 refine lO rfl fun K' hK'=>?_
 have hz:=hz.h
 cases hi:P.info? t with
 | none=>simp [hi] at hz
 | some inf =>
  simp [hi] at hz
  have hh':w.heap[g]? = some (.cells cur.toList.toArray E (0,0)):=by simpa using hg
  obtain ⟨w',hr,hnew,hc⟩:=jp (P:=P) [c] o 0 cur.toList w hh' (by simp;omega) (by simpa using h1)
  have hsz:¬ ([c].toArray.size≠inf.size):=by simp;omega
  unfold Oper.wp execOp
  simp only [ha.eval,hx,Instr.storeAt,Instr.sureAddr,storeVar,sizeOf,typeInfo,hi,hy,dn,eM,nF,dG,hsz,nW,rS,sC,hr,xV]
  refine hK' _ _ (hK w' ?_ _ ha)
  refine hS.yJ ?_
  intro fp hA hnd
  have hoth:∀ x,x≠g->x<w.heap.size->w'.heap[x]? = w.heap[x]?:=fun x hx hlt=>hc.block x hlt (by simpa using hx)
  have hnew':w'.heap[g]? = some (.cells (cur.toList.set o c).toArray E (0,0)):=by
   rw [hnew]
   have e:cur.toList.take (o+0)++[c]++cur.toList.drop (o+0+[c].length)=cur.toList.set o c:=by
    rw [List.set_eq_take_append_cons_drop,aZ (by simpa using ho)]
    simp
   rw [<- e]
  obtain ⟨fp',hp,hgm,hB⟩:=hAB w' fp hA hnd hnew' hoth
  exact ⟨fp',hB,hp.nodup_iff.2 hnd,hc.mono (by simpa using hgm),fun b hb=>.inl (hp.mem_iff.1 hb)⟩
theorem DJ {e:Env} {K:Env->World->Prop} {x y:Operand} {t:TypeId} {z:List Value} {yO:Nat} [hz:ElemT P t z 1 yO] {xs ys:List α} {g cap g1 cap1 g2 cap2:Nat} {k p:Int} {a b:α} {ca cb:Value}
  (hS:Sat w0 w (Own (aJ R E) [v] xs :: Γ)) (hv:v=.slice (some ⟨g,0,none⟩) xs.length cap) (hv1:v=.slice (some ⟨g1,0,none⟩) xs.length cap1) (hv2:v=.slice (some ⟨g2,0,none⟩) xs.length cap2) (hsz:R.sz=1) (ha:ix xs k=some a) (hb:ix xs p=some b) (hca:∀ j c,[ca][j]? = some c->w.cell? ⟨g1,k.toNat*1+j,none⟩=some c) (hcb:∀ j c,[cb][j]? = some c->w.cell? ⟨g2,p.toNat*1+j,none⟩=some c)
  (hy1:sto xs k b=some ys) (hx:ev e x=.pointer (some ⟨g,k.toNat*1,none⟩)) (hy:(ev e y).cells=[cb].toArray) (h1:cb.oneCell'=true)
  (hK:∀ w',Sat w0 w' (Dl R E v (ys.set p.toNat a) p.toNat ca :: Γ)->EL P n ops K rest e w'):EL P n ops K (⟨none,.store t x y,ty,pos,af,none⟩ :: rest) e w:=by
 obtain ⟨rfl,rfl⟩:g=g1/\cap=cap1:=by rw [hv] at hv1;simpa using hv1
 obtain ⟨rfl,rfl⟩:g=g2/\cap=cap2:=by rw [hv] at hv2;simpa using hv2
 clear hv1 hv2
 obtain ⟨k,rfl,hk,rfl⟩:=ke ha
 obtain ⟨p,rfl,hp,rfl⟩:=ke hb
 have ey:ys=xs.set k xs[p]:=by
  unfold sto at hy1;split at hy1
  ·exact (dz hy1).symm
  ·cases hy1
 subst ey hv
 simp only [jf,po] at hx hca hcb hK
 obtain ⟨fp,hv,_⟩:=hS.head
 rcases hv with ⟨_,h2,_⟩ | ⟨g',cap',cur,ccs,f2,hv,hg,k1,k2,k3,k4,k5,rfl⟩
 ·subst h2;simp at hk
 obtain ⟨rfl,rfl⟩:g=g'/\cap=cap':=by simpa using hv
 rw [hsz,po] at k4
 have hcur:xs.length<=cur.size:=by rw [k3,hsz];omega
 have at1:∀ {i:Nat} {c:Value},i<xs.length->w.cell? ⟨g,i+0,none⟩=some c->(cur.toList.take xs.length)[i]? = some c:=by
  intro i c hi h
  rw [nc w g _ cur E (0,0) hg,<- pz,mG] at h
  rw [lg,aZ hi];exact h
 have hA:=at1 hk (hca 0 ca rfl)
 have hB:=at1 hp (hcb 0 cb rfl)
 refine Cw (B:=Dl R E (.slice (some ⟨g,0,none⟩) xs.length cap) ((xs.set k xs[p]).set p xs[k]) p ca) hS hg oa hx hy h1 ?_ hK
 intro w' fp2 hA2 hnd hnew hoth
 rcases hA2 with ⟨_,h2,_⟩ | ⟨g',cap',cur',ccs',f3,hv',hg',m1,m2,m3,m4,m5,rfl⟩
 ·subst h2;simp at hk
 obtain ⟨rfl,rfl⟩:g=g'/\cap=cap':=by simpa using hv'
 obtain ⟨rfl⟩:cur'=cur:=by rw [hg] at hg';simpa using hg'.symm
 rw [hsz,po] at m4
 subst m4
 obtain ⟨f',hpm,hsw⟩:=HD hsz m5 hk hp hA hB
 refine ⟨g :: f',hpm.cons g,cZ,g,cap,_,f',by simp,hnew,by simpa using m1,m2,by simpa using m3,hsz,by simpa using hp,?_,rfl⟩
 have hgn:g∉f3:=(lR.1 hnd).1
 have e:((cur.toList.set k cb).toArray.toList.take ((xs.set k xs[p]).set p xs[k]).length).set p ca=((cur.toList.take xs.length).set k cb).set p ca:=by
  rw [gF,gF,xv]
 rw [e]
 exact im hsw fun b hb=>hoth b (fun eb=>hgn (hpm.mem_iff.1 (eb ▸ hb))) (iT m5 b (hpm.mem_iff.1 hb))
theorem DB {e:Env} {K:Env->World->Prop} {x y:Operand} {t:TypeId} {z:List Value} {yO:Nat} [hz:ElemT P t z 1 yO] {xs ys:List α} {g cap ln:Nat} {p:Int} {a:α} {ca:Value}
  (hS:Sat w0 w (Dl R E v (xs.set p.toNat a) p.toNat ca :: Γ)) (hv:v=.slice (some ⟨g,0,none⟩) ln cap) (hy1:sto xs p a=some ys) (hx:ev e x=.pointer (some ⟨g,p.toNat*1,none⟩)) (hy:(ev e y).cells=[ca].toArray) (h1:ca.oneCell'=true)
  (hK:∀ w',Sat w0 w' (Own (aJ R E) [v] ys :: Γ)->EL P n ops K rest e w'):EL P n ops K (⟨none,.store t x y,ty,pos,af,none⟩ :: rest) e w:=by
 have ey:ys=xs.set p.toNat a:=by
  unfold sto at hy1;split at hy1
  ·exact (dz hy1).symm
  ·cases hy1
 rw [<- ey] at hS
 clear ey hy1
 rw [po] at hx
 obtain ⟨fp,⟨g',cap',cur,f2,k1,k2,k3,k4,k5,k6,k7,k8,rfl⟩,_⟩:=hS.head
 subst k1
 obtain ⟨rfl,rfl,rfl⟩:g'=g/\ys.length=ln/\cap'=cap:=by simpa using hv
 rw [k6,po] at k5
 refine Cw (B:=Own (aJ R E) [.slice (some ⟨g',0,none⟩) ys.length cap'] ys) hS k2 oa hx hy h1 ?_ hK
 intro w' fp2 hA2 hnd hnew hoth
 obtain ⟨g2,cap2,cur2,f3,m1,m2,m3,m4,m5,m6,m7,m8,rfl⟩:=hA2
 obtain ⟨rfl,rfl⟩:g'=g2/\cap'=cap2:=by simpa using m1
 obtain ⟨rfl⟩:cur2=cur:=by rw [k2] at m2;simpa using m2.symm
 have hgn:g'∉f3:=(lR.1 hnd).1
 refine ⟨g' :: f3,.refl _,cZ,.inr ⟨g',cap',_,_,f3,rfl,hnew,m3,m4,by simpa using m5,rfl,?_,rfl⟩⟩
 have e:(cur.toList.set p.toNat ca).toArray.toList.take (ys.length*R.sz)=(cur.toList.take ys.length).set p.toNat ca:=by
  rw [m6,po,xv]
 rw [e]
 exact im m8 fun b hb=>hoth b (fun eb=>hgn (eb ▸ hb)) (iT m8 b hb)
end
def xh {α:Type} (w0:World) (R:Rep α):Rep α where
 sz:=R.sz
 rd w cs x:=R.rd w0 cs x\/R.rd w cs x
 own w cs x fp:=R.rd w0 cs x/\fp=[]\/R.own w cs x fp
 rd_len h:=by rcases h with h | h <;> exact R.rd_len h
 rd_one h:=by rcases h with h | h <;> exact R.rd_one h
 rd_ext h he:=h.imp id fun h=>R.rd_ext h he
 own_rd h:=h.imp (·.1) R.own_rd
 own_ext h he:=h.imp id fun h=>R.own_ext h he
 own_lt h:=by
  rcases h with h | h
  ·rw [h.2];simp
  ·exact R.own_lt h
theorem Cm {α:Type} {R:Rep α} {w w0:World} (hx:Ext w0 w):∀ {xs:List α} {ccs:List Value},rdL (xh w0 R) w ccs xs->rdL R w ccs xs
 | [],_,h=>h
 | x :: xs,_,h=>by
  obtain ⟨ec,rest,rfl,h1,h2⟩:=h
  refine ⟨ec,rest,rfl,?_,Cm hx h2⟩
  rcases h1 with h1 | h1
  ·exact R.rd_ext h1 hx
  ·exact h1
theorem Sat.unmix {α:Type} {R:Rep α} {w w0:World} {Γ:List Asn} {E:TypeId} {cs:List Value} {xs:List α} (hS:Sat w0 w Γ) (h:(aJ (xh w0 R) E).rd w cs xs):(aJ R E).rd w cs xs:=by
 obtain ⟨ao,cap,ccs,h1,h2,h3,h4,h5,h6⟩:=h
 exact ⟨ao,cap,ccs,h1,h2,h3,h4,Cm hS.below h5,h6⟩
theorem Sat.mixRo {α:Type} {R:Rep α} {w w0:World} {Γ:List Asn} {cs:List Value} {x:α} (hS:Sat w0 w Γ) (h:R.rd w0 cs x):Sat w0 w (Own (xh w0 R) cs x :: Γ):=hS.add (.inl ⟨h,rfl⟩)
theorem Sat.yF {α:Type} {R:Rep α} {w w0:World} {Γ:List Asn} {cs:List Value} {x:α} (hS:Sat w0 w (Own R cs x :: Γ)):Sat w0 w (Own (xh w0 R) cs x :: Γ):=hS.conv fun _ h=>.inr h
theorem un {P:Program} {t:TypeId} {k:IntKind} (ht:P.underlying t=some (.int k)) {cs:Array Value} {off:Nat} {c:Value} (hc:cs[off]? = some c) (w:World):(part t cs off).run P w=.ok c w:=by
 have hagg:(isAgg t).run P w=.ok false w:=by
  unfold isAgg
  rw [dn,gc ht w]
  simp
 simp [part,dn,hagg,hc]
theorem Jp {P:Program} {t:TypeId} {fs:Array Field} {f g:Field} {k1 k2:IntKind} (h1:P.underlying t=some (.struct fs)) (hfs:fs.toList=[f,g]) (n1:f.name≠ "_") (n2:g.name≠ "_") (o1:f.offset=0) (o2:g.offset=1) (t1:P.underlying f.type=some (.int k1)) (t2:P.underlying g.type=some (.int k2)) (hp:P.stoodInHeld t=false) (a b c d:Int) (w:World) :
  (Op.equalIn 10000 t (.agg #[.int .i64 a,.int .i64 b]) (.agg #[.int .i64 c,.int .i64 d])).run P w=.ok (a == c&&b == d) w:=by
 have hF:P.fieldsOf t=fs:=by unfold Program.fieldsOf;rw [h1]
 rw [run_equalIn_struct w 9999 t _ _ (by rw [hF];exact h1) hp,hF,hfs]
 unfold Op.eqFields
 rw [aZ n1]
 simp only [dn,o1]
 rw [un t1 (c:=.int .i64 a) rfl,dG,un t1 (c:=.int .i64 c) rfl,dG,run_equalIn_int w 9998 f.type .i64 k1 a c t1,dG,rS]
 cases hac:(a == c) with
 | false=>rw [aZ (by rfl),eM,lQ]
 | true =>
  rw [bb (by decide),cN]
  unfold Op.eqFields
  rw [aZ n2]
  simp only [dn,o2]
  rw [un t2 (c:=.int .i64 b) rfl,dG,un t2 (c:=.int .i64 d) rfl,dG,run_equalIn_int w 9998 g.type .i64 k2 b d t2,dG,rS]
  unfold Op.eqFields
  cases hbd:(b == d) with
  | false=>rw [aZ (by rfl),eM]
  | true=>rw [bb (by decide),eM]
theorem JK {P:Program} {e:Env} {w:World} {ty:TypeId} {pos:String} {af:Array Edge} {o:Option Nat} {x y:Operand} {t u:TypeId} {fs:Array Field} {f g:Field} {k1 k2:IntKind} (h1:P.underlying t=some (.struct fs)) (hfs:fs.toList=[f,g]) (n1:f.name≠ "_") (n2:g.name≠ "_") (o1:f.offset=0) (o2:g.offset=1) (t1:P.underlying f.type=some (.int k1)) (t2:P.underlying g.type=some (.int k2)) (hp:P.stoodInHeld t=false) (hm:P.eqGuardType P.depth t=false) {a b c d:Int} (hx:ev e x=.agg #[.int .i64 a,.int .i64 b]) (hy:ev e y=.agg #[.int .i64 c,.int .i64 d]) :
  PV P ⟨o,.binOp .neq t x y u,ty,pos,af,none⟩ e w (.bool (!(a == c&&b == d))):=fun w' _=>by
 have g1:=run_eqGuard_agg (P:=P) w' .neq t x y #[.int .i64 a,.int .i64 b] #[.int .i64 c,.int .i64 d] hm
 have g2:=run_neq_struct (P:=P) w' t #[.int .i64 a,.int .i64 b] #[.int .i64 c,.int .i64 d]
 rw [Jp h1 hfs n1 n2 o1 o2 t1 t2 hp] at g2
 unfold execOp
 simp only [hx,hy,dn,g1,g2,dG,eM]
theorem Sat.zV {α:Type} {R:Rep α} {w w0 W:World} {Γ:List Asn} {F:List Nat} {cs:List Value} {x:α} (hS:Sat w0 w (Frz W F :: Γ)) (ho:R.own W cs x F):Sat w0 w (Own R cs x :: Γ) :=
 hS.conv fun f h=>by
  obtain ⟨rfl,h2,_⟩:=h
  exact R.own_ext ho h2
class FreeR {α:Type} (R:Rep α):Prop where
 h:∀ {w w2:World} {cs:List Value} {x:α},R.rd w cs x->R.own w2 cs x []
instance:FreeR ce:=⟨fun h=>⟨h,rfl⟩⟩
instance {α β:Type} {R:Rep α} {S:Rep β} [hR:FreeR R] [hS:FreeR S]:FreeR (ta R S):=⟨fun h=>by
 obtain ⟨c1,c2,rfl,h1,h2⟩:=h
 exact ⟨c1,c2,[],[],rfl,rfl,hR.h h1,hS.h h2⟩⟩
theorem Cg {α:Type} {R:Rep α} [hR:FreeR R] {w w2:World}:∀ {xs:List α} {ccs:List Value},rdL R w ccs xs->f7 R w2 ccs xs []
 | [],_,h=>⟨h,rfl⟩
 | x :: xs,_,h=>by
  obtain ⟨ec,rest,rfl,h1,h2⟩:=h
  exact ⟨ec,rest,[],[],rfl,rfl,hR.h h1,Cg h2⟩
theorem BZ {α:Type} {R:Rep α} {w:World} {E:TypeId} {v:Value} {xs:List α} (h:(aJ R E).rd w [v] xs):∃ ao c ccs,v=.slice ao xs.length c/\(ao=none->c=0)/\rL w ao ccs/\rdL R w ccs xs:=by
 obtain ⟨ao,cap,ccs,hv,h1,h2,h3,h4,h5⟩:=h
 exact ⟨ao,cap,ccs,by simpa using hv,h3,h5,h4⟩
theorem Sat.zY {α:Type} {R:Rep α} [FreeR R] {w w0 w2:World} {Γ:List Asn} {ccs:List Value} {xs:List α} (hS:Sat w0 w Γ) (h:rdL R w2 ccs xs):Sat w0 w (tN R ccs xs :: Γ):=hS.add (Cg h)
abbrev CP_:=Calls Tryz.prog
theorem kr {p:Prop} (h:p:=by kernel_rfl):p:=h
section
variable {P:Program} {n:Nat} {Q Q':Exit->Env->World->Prop} {K:Env->World->Prop} {e:Env} {w w0:World} {c y:Code} {ops:Array Oper} {rest:List Oper} {d:Nat} {v:Value} {q1:Oper} {C:World->Prop} {l:List Asn}
theorem aQ {X:List Nat} (v:Value) (i:Nat) {f:Nat} {L:Array Bool} (hi:ops[i]? = some q1) (hdst:q1.dst=some d) (yM:∀ w,C w↔∃ G,Sat w0 w (l++G)) (hC:C w) (hy:∀ {w':World} {G:List Asn},Sat w0 w' (l++G)->PV P q1 e w' v)
  (hK:AL P n ops X C K f (L.setIfInBounds i true) (upd e d v) w) (hg:q1.guard=none:=by exact rfl) (hsel:qJ ops=true:=by kernel_rfl) (hdn:d<n:=by decide) (hf:ud ops X L i q1=true:=by kernel_rfl) (hr:(Region.ready .any ops L).contains i=true:=by kernel_rfl):AL P n ops X C K (f+1) L e w :=
 aP v i hi hdst hC (ul hg fun w' hw'=>by obtain ⟨_,S⟩:=(yM w').1 hw';exact hy S) hK hsel hdn hf hr
theorem oh {p B:Prop} {G:List Asn} (yM:∀ w,C w↔∃ G,Sat w0 w (l++G)) (S:Sat w0 w (l++G)) (k:C w->B):(p->C w)/\B:=⟨fun _=>(yM w).2 ⟨_,S⟩,k ((yM w).2 ⟨_,S⟩)⟩
theorem oc' {p B:Prop} (h:C w) (k:B):(p->C w)/\B:=⟨fun _=>h,k⟩
theorem zg (h:∀ {Q':Exit->Env->World->Prop},(∀ x e w,thn (fun e w=>CW P n y Q e w) Q x e w->Q' x e w)->CW P n c Q' e w):CW P n (.seq c y) Q e w:=sg fun _=>h
theorem zR {id:Nat} {l:List Oper} (h:∀ {Q':Exit->Env->World->Prop},(∀ x e w,thn (fun e w=>CW P n y Q e w) Q x e w->Q' x e w)->EL P n l.toArray (fun e w=>Q' .normal e w) l e w):CW P n (.seq (.region id l.toArray false) y) Q e w:=sR fun _=>h
theorem zn (h:∀ {Q':Exit->Env->World->Prop},(∀ x e w,Q x e w->Q' x e w)->CW P n c Q' e w):CW P n c Q e w:=gn fun _=>h
theorem zb {i:Nat} (h:∀ {Q':Exit->Env->World->Prop},(∀ x e w,inb i Q x e w->Q' x e w)->CW P n c Q' e w):CW P n (.block i c) Q e w:=bg fun _=>h
theorem zS (I:Nat->Env->World->Prop) (k0:Nat) (h0:I k0 e w) (hr:∀ k e w,I (k+1) e w->CW P n c (thn (fun e w=>I k e w) Q) e w) (hz:∀ e w,¬ I 0 e w:=by intro e w h;repeat (first | exact nn h | obtain ⟨_,h⟩:=h)):CW P n (.loop c) Q e w:=HW I k0 h0 hz hr
theorem rgb {id:Nat} {O:List Oper} (w0:World) (l:List Asn) (k:Nat) (h:∀ C:World->Prop,(∀ w,C w↔∃ G,Sat w0 w (l++G))->∀ w',Ext w w'->AL P n O.toArray (List.range k) C (fun e w=>Q .normal e w) O.length (Array.replicate O.length false) e w') (hm:P.follows .mixedOrders=true:=by kernel_rfl):CW P n (.region id O.toArray true) Q e w:=I6 (List.range k) _ hm fun w' hx=>h _ (fun _=>Iff.rfl) w' hx
end
abbrev R0_:=aJ ce 3
abbrev R1_:=aJ oo 9
abbrev R2_:=ta ce ce
abbrev R3_:=wi R0_ 28
abbrev R4_:=aJ R0_ 28
abbrev R5_:=ta oo R0_
abbrev R6_:=aJ R2_ 48
abbrev R7_:=ta ce R4_
abbrev R8_:=aJ R5_ 64
abbrev R9_:=aJ R6_ 44
abbrev kT:=aJ R7_ 65
abbrev tP:=ta oo R7_
abbrev cu:=aJ tP 145
end Go.Proofs.YteemghjjopdljaaGreat
