/- Plain laws: drawing queries out of a code. -/
import Derived.Test.YtdapplkijobjoaaGreatV1
namespace Go.Proofs.YtdapplkijobjoaaGreat
open Go.RowKit
abbrev mi:=Int × List aW × List Int
def QGd (q:mi):Prop:=(1≤q.1∧q.1≤5)∧(1≤q.2.1.length∧q.2.1.length≤4)∧(∀ a∈q.2.1,a.1.size≤4∧1≤a.2.length∧a.2.length≤5)∧q.2.2.length≤5
def QSm (q:mi):Prop:=(0≤q.1∧q.1≤6)∧q.2.1.length≤5∧(∀ a∈q.2.1,a.1.size≤4∧a.2.length≤5)∧q.2.2.length≤6
theorem QGd.sm {q:mi} (h:QGd q):QSm q:=⟨⟨by have:=h.1;omega,by have:=h.1;omega⟩,by have:=h.2.1;omega,fun a ha=>⟨(h.2.2.1 a ha).1,(h.2.2.1 a ha).2.2⟩,by have:=h.2.2.2;omega⟩
theorem QSm.atoms {q:mi} (h:QSm q):d8 q.2.1:=⟨by have:=h.2.1;omega,fun a ha=>⟨by have:=(h.2.2.1 a ha).1;omega,by have:=(h.2.2.1 a ha).2;omega,fun _ _=>trivial⟩⟩
theorem QSm.out {q:mi} (h:QSm q):okI q.2.2:=⟨by have:=h.2.2.2;omega,fun _ _=>trivial⟩
section
variable {N:Nat}
abbrev yM:List ByteArray:=[(⟨#[40,88,89,90,41,61,114,40,88,89,41,44,115,40,89,90,41,44,116,40,90,88,41]⟩:ByteArray),(⟨#[40,88,89,90,85,41,61,114,40,88,89,41,44,115,40,89,90,41,44,116,40,90,85,41,44,117,40,85,88,41]⟩:ByteArray),(⟨#[40,88,89,90,41,61,114,40,88,89,41,44,115,40,89,90,41]⟩:ByteArray),(⟨#[40,88,41,61,114,40,88,89,41,44,115,40,89,90,41,44,116,40,90,85,41]⟩:ByteArray),(⟨#[40,88,89,90,41,61,118,40,88,89,90,41,44,114,40,88,89,41]⟩:ByteArray),(⟨#[40,88,89,41,61,114,40,88,89,41,44,114,40,89,88,41]⟩:ByteArray),(⟨#[40,88,89,90,85,41,61,118,40,88,89,90,41,44,115,40,90,85,41,44,116,40,85,88,41]⟩:ByteArray),(⟨#[40,88,41,61,114,40,88,88,41]⟩:ByteArray),(⟨#[40,88,89,41,61,114,40,88,90,41,44,115,40,90,89,41,44,114,40,88,85,41,44,115,40,85,89,41]⟩:ByteArray),(⟨#[40,41,61,114,40,88,89,41,44,115,40,89,88,41]⟩:ByteArray),(⟨#[40,88,89,90,85,86,41,61,114,40,88,89,41,44,115,40,89,90,41,44,116,40,90,85,41,44,117,40,85,86,41]⟩:ByteArray)]
theorem AP (M:Nat):b8 (M+100) (⟨#[40,88,89,90,41,61,114,40,88,89,41,44,115,40,89,90,41,44,116,40,90,88,41]⟩:ByteArray)=some ((3,[((⟨#[114]⟩:ByteArray),[0,1]),((⟨#[115]⟩:ByteArray),[1,2]),((⟨#[116]⟩:ByteArray),[2,0])],[0,1,2]),true):=by kernel_rfl
theorem Ao (M:Nat):b8 (M+100) (⟨#[40,88,89,90,85,41,61,114,40,88,89,41,44,115,40,89,90,41,44,116,40,90,85,41,44,117,40,85,88,41]⟩:ByteArray)=some ((4,[((⟨#[114]⟩:ByteArray),[0,1]),((⟨#[115]⟩:ByteArray),[1,2]),((⟨#[116]⟩:ByteArray),[2,3]),((⟨#[117]⟩:ByteArray),[3,0])],[0,1,2,3]),true):=by kernel_rfl
theorem AK (M:Nat):b8 (M+100) (⟨#[40,88,89,90,41,61,114,40,88,89,41,44,115,40,89,90,41]⟩:ByteArray)=some ((3,[((⟨#[114]⟩:ByteArray),[0,1]),((⟨#[115]⟩:ByteArray),[1,2])],[0,1,2]),true):=by kernel_rfl
theorem AC (M:Nat):b8 (M+100) (⟨#[40,88,41,61,114,40,88,89,41,44,115,40,89,90,41,44,116,40,90,85,41]⟩:ByteArray)=some ((4,[((⟨#[114]⟩:ByteArray),[0,1]),((⟨#[115]⟩:ByteArray),[1,2]),((⟨#[116]⟩:ByteArray),[2,3])],[0]),true):=by kernel_rfl
theorem AR (M:Nat):b8 (M+100) (⟨#[40,88,89,90,41,61,118,40,88,89,90,41,44,114,40,88,89,41]⟩:ByteArray)=some ((3,[((⟨#[118]⟩:ByteArray),[0,1,2]),((⟨#[114]⟩:ByteArray),[0,1])],[0,1,2]),true):=by kernel_rfl
theorem A3 (M:Nat):b8 (M+100) (⟨#[40,88,89,41,61,114,40,88,89,41,44,114,40,89,88,41]⟩:ByteArray)=some ((2,[((⟨#[114]⟩:ByteArray),[0,1]),((⟨#[114]⟩:ByteArray),[1,0])],[0,1]),true):=by kernel_rfl
theorem Ay (M:Nat):b8 (M+100) (⟨#[40,88,89,90,85,41,61,118,40,88,89,90,41,44,115,40,90,85,41,44,116,40,85,88,41]⟩:ByteArray)=some ((4,[((⟨#[118]⟩:ByteArray),[0,1,2]),((⟨#[115]⟩:ByteArray),[2,3]),((⟨#[116]⟩:ByteArray),[3,0])],[0,1,2,3]),true):=by kernel_rfl
theorem Ac (M:Nat):b8 (M+100) (⟨#[40,88,41,61,114,40,88,88,41]⟩:ByteArray)=some ((1,[((⟨#[114]⟩:ByteArray),[0,0])],[0]),true):=by kernel_rfl
theorem Ba (M:Nat):b8 (M+100) (⟨#[40,88,89,41,61,114,40,88,90,41,44,115,40,90,89,41,44,114,40,88,85,41,44,115,40,85,89,41]⟩:ByteArray)=some ((4,[((⟨#[114]⟩:ByteArray),[0,2]),((⟨#[115]⟩:ByteArray),[2,1]),((⟨#[114]⟩:ByteArray),[0,3]),((⟨#[115]⟩:ByteArray),[3,1])],[0,1]),true):=by kernel_rfl
theorem z0 (M:Nat):b8 (M+100) (⟨#[40,41,61,114,40,88,89,41,44,115,40,89,88,41]⟩:ByteArray)=some ((2,[((⟨#[114]⟩:ByteArray),[0,1]),((⟨#[115]⟩:ByteArray),[1,0])],[]),true):=by kernel_rfl
theorem zd (M:Nat):b8 (M+100) (⟨#[40,88,89,90,85,86,41,61,114,40,88,89,41,44,115,40,89,90,41,44,116,40,90,85,41,44,117,40,85,86,41]⟩:ByteArray)=some ((5,[((⟨#[114]⟩:ByteArray),[0,1]),((⟨#[115]⟩:ByteArray),[1,2]),((⟨#[116]⟩:ByteArray),[2,3]),((⟨#[117]⟩:ByteArray),[3,4])],[0,1,2,3,4]),true):=by kernel_rfl
theorem vC (hN:1073741824≤N):∀ s∈yM,∃ q,b8 N s=some (q,true)∧QGd q:=by
 obtain ⟨M,rfl⟩:∃ M,N=M+100:=⟨N-100,by omega⟩
 intro s hs
 simp only [List.mem_cons,List.not_mem_nil,or_false] at hs
 rcases hs with rfl | rfl | rfl | rfl | rfl | rfl | rfl | rfl | rfl | rfl | rfl
 ·exact ⟨_,AP M,by unfold QGd;decide⟩
 ·exact ⟨_,Ao M,by unfold QGd;decide⟩
 ·exact ⟨_,AK M,by unfold QGd;decide⟩
 ·exact ⟨_,AC M,by unfold QGd;decide⟩
 ·exact ⟨_,AR M,by unfold QGd;decide⟩
 ·exact ⟨_,A3 M,by unfold QGd;decide⟩
 ·exact ⟨_,Ay M,by unfold QGd;decide⟩
 ·exact ⟨_,Ac M,by unfold QGd;decide⟩
 ·exact ⟨_,Ba M,by unfold QGd;decide⟩
 ·exact ⟨_,z0 M,by unfold QGd;decide⟩
 ·exact ⟨_,zd M,by unfold QGd;decide⟩
theorem m7 {a:List Int} {l:List ByteArray} (ha:dv a) {p h:Int} (hc:bW a p) (hl:0<l.length):∃ x q g,gZ N a p h l=some (x,q,g)∧x∈l∧bW a q:=by
 obtain ⟨x,q,g,e,b0,b1,_,hc'⟩:=bV (N:=N) ha (h:=h) (n:=(l.length:Int)) hc
 have b2:=b1 (by omega)
 unfold gZ
 rw [e,bs]
 dsimp only
 rw [gY b0 b2,bs]
 exact ⟨_,_,_,rfl,List.getElem_mem _,hc'⟩
theorem kZ {a:List Int} (ha:dv a) {p h n:Int} (hc:bW a p):∃ b q g,gq N a p h n=some (b,q,g)∧bW a q:=by
 obtain ⟨x,q,g,e,_,_,_,hc'⟩:=bV (N:=N) ha (h:=h) (n:=n) hc
 unfold gq
 rw [e,bs]
 exact ⟨_,_,_,rfl,hc'⟩
theorem wE {a:List Int} (ha:dv a) {z1 z7 z9 n:Int} {z2 z5 z8:List aW} {z3 z6 z10:List Int} {s:ByteArray}:∀ (d k:Nat) (acc:List Int) (p h m:Int),bW a p→m.toNat=d→m≤10→d<k→acc.length+d≤100 →
  ∃ q g vs m',fZ N k a p h z1 z2 z3 z7 z5 z6 n z8 z10 z9 s acc m=some (q,g,vs,m')∧bW a q∧vs.length=acc.length+d:=by
 intro d
 induction d with
 | zero =>
  intro k acc p h m hc hd _ hk _
  obtain ⟨k,rfl⟩:∃ g,k=g+1:=⟨k-1,by omega⟩
  rw [fZ,decide_eq_false (show ¬ 0<m by omega),cond_false]
  exact ⟨_,_,_,_,rfl,hc,by omega⟩
 | succ d ih =>
  intro k acc p h m hc hd hm hk hl
  obtain ⟨k,rfl⟩:∃ g,k=g+1:=⟨k-1,by omega⟩
  obtain ⟨x,q,g,e,_,_,_,hc'⟩:=bV (N:=N) ha (h:=h) (n:=n) hc
  rw [fZ,decide_eq_true (show 0<m by omega),cond_true,e,bs]
  dsimp only
  rw [bF (by decide) (by simp;omega),bs,ez (by omega) (by omega),bs]
  obtain ⟨q',g',vs,m',e',k1,k2⟩:=ih k (acc++[x]) q g (m-1) hc' (by omega) (by omega) (by omega) (by simp;omega)
  exact ⟨q',g',vs,m',e',k1,by simp at k2;omega⟩
theorem w5 (hN:1073741824≤N) {a:List Int} (ha:dv a) {z1 z4 n:Int} {z2 z5:List aW} {z3 z6 z7:List Int}:∀ (d k:Nat) (acc:List aW) (p h m:Int),bW a p→m.toNat=d→m≤10→d<k→acc.length+d≤100→(∀ x∈acc,x.1.size≤4∧1≤x.2.length∧x.2.length≤5) →
  ∃ q g ats m',f5 N k a p h z1 z2 z3 z4 z5 z6 n acc z7 m=some (q,g,ats,m')∧bW a q∧ats.length=acc.length+d∧∀ x∈ats,x.1.size≤4∧1≤x.2.length∧x.2.length≤5:=by
 intro d
 induction d with
 | zero =>
  intro k acc p h m hc hd _ hk _ hx
  obtain ⟨k,rfl⟩:∃ g,k=g+1:=⟨k-1,by omega⟩
  rw [f5,decide_eq_false (show ¬ 0<m by omega),cond_false]
  exact ⟨_,_,_,_,rfl,hc,by omega,hx⟩
 | succ d ih =>
  intro k acc p h m hc hd hm hk hl hx
  obtain ⟨k,rfl⟩:∃ g,k=g+1:=⟨k-1,by omega⟩
  obtain ⟨x,q,g,e,b0,b1,_,hc'⟩:=bV (N:=N) ha (h:=h) (n:=5) hc
  have b1:=b1 (by decide)
  rw [f5,decide_eq_true (show 0<m by omega),cond_true,e,bs]
  dsimp only
  have hi:x<(([(⟨#[114]⟩:ByteArray),(⟨#[115]⟩:ByteArray),(⟨#[116]⟩:ByteArray),(⟨#[117]⟩:ByteArray),(⟨#[118]⟩:ByteArray)]:List ByteArray).length:Int):=b1
  rw [gY b0 hi,bs,CA b0 (by decide) (by omega),bs]
  have ht:0≤x.tdiv 4∧x.tdiv 4≤1:=by
   rw [Int.tdiv_eq_ediv_of_nonneg b0];omega
  rw [dZ (by omega) (by omega),bs]
  have hs:∀ s∈([(⟨#[114]⟩:ByteArray),(⟨#[115]⟩:ByteArray),(⟨#[116]⟩:ByteArray),(⟨#[117]⟩:ByteArray),(⟨#[118]⟩:ByteArray)]:List ByteArray),s.size≤4:=by decide
  have hs':=hs _ (List.getElem_mem (l:=([(⟨#[114]⟩:ByteArray),(⟨#[115]⟩:ByteArray),(⟨#[116]⟩:ByteArray),(⟨#[117]⟩:ByteArray),(⟨#[118]⟩:ByteArray)]:List ByteArray)) (n:=x.toNat) (by omega))
  obtain ⟨q',g',vs,m',e',k1,k2⟩:=wE (N:=N) ha (z1:=z1) (z2:=z2) (z3:=z3) (z7:=z4) (z5:=z5) (z6:=z6) (n:=n) (z8:=acc) (z10:=z7) (z9:=m) (s:=([(⟨#[114]⟩:ByteArray),(⟨#[115]⟩:ByteArray),(⟨#[116]⟩:ByteArray),(⟨#[117]⟩:ByteArray),(⟨#[118]⟩:ByteArray)]:List ByteArray)[x.toNat]) (2+x.tdiv 4).toNat N [] q g (2+x.tdiv 4) hc' rfl (by omega) (by omega) (by simp;omega)
  rw [e',bs]
  unfold lpB
  dsimp only
  rw [bF (by decide) (by simp;omega),bs,ez (by omega) (by omega),bs]
  simp only [List.length_nil,Nat.zero_add] at k2
  obtain ⟨q2,g2,ats,m2,e2,j1,j2,j3⟩:=ih k (acc++[(_,vs)]) q' g' (m-1) k1 (by omega) (by omega) (by omega) (by simp;omega) (fun y hy=>by
   rcases List.mem_append.1 hy with h | h
   ·exact hx y h
   ·rw [List.mem_singleton] at h;rw [h]
    exact ⟨hs',by show 1≤vs.length;omega,by show vs.length≤5;omega⟩)
  exact ⟨q2,g2,ats,m2,e2,j1,by simp at j2;omega,j3⟩
theorem wQ {a:List Int} (ha:dv a) {z1 z4:Int} {n:Nat} {z2 z5 z8:List aW} {z3 z6:List Int} (hn:n≤10):∀ (d k:Nat) (acc:List Int) (p h:Int) (i:Nat),bW a p→i+d=n→d<k→acc.length≤i →
  ∃ q g out v,dX N k a p h z1 z2 z3 z4 z5 z6 (n:Int) z8 acc (i:Int)=some (q,g,out,v)∧bW a q∧out.length≤n:=by
 intro d
 induction d with
 | zero =>
  intro k acc p h i hc hd hk hl
  obtain ⟨k,rfl⟩:∃ g,k=g+1:=⟨k-1,by omega⟩
  rw [dX,decide_eq_false (show ¬ (i:Int)<(n:Int) by omega),cond_false]
  exact ⟨_,_,_,_,rfl,hc,by omega⟩
 | succ d ih =>
  intro k acc p h i hc hd hk hl
  obtain ⟨k,rfl⟩:∃ g,k=g+1:=⟨k-1,by omega⟩
  obtain ⟨b,q,g,e,hc'⟩:=kZ (N:=N) ha (h:=h) (n:=2) hc
  rw [dX,decide_eq_true (show (i:Int)<(n:Int) by omega),cond_true,e,bs]
  dsimp only
  cases b with
  | true =>
   rw [cond_true,bF (by decide) (by simp;omega),bs,ad1 (by omega),bs]
   exact ih k _ q g (i+1) hc' (by omega) (by omega) (by simp;omega)
  | false =>
   rw [cond_false,ad1 (by omega),bs]
   exact ih k _ q g (i+1) hc' (by omega) (by omega) (by omega)
theorem pr (hN:1073741824≤N) {a:List Int} (ha:dv a) {p h:Int} (hc:bW a p):∃ r q g,hY N a p h=some (r,q,g)∧bW a q∧QGd r:=by
 unfold hY
 obtain ⟨s,q,g,e,hs,hc1⟩:=m7 (N:=N) ha (h:=h) (l:=yM) hc (by decide)
 obtain ⟨r,er,hr⟩:=vC hN s hs
 rw [e,bs]
 dsimp only
 rw [er,bs]
 obtain ⟨b,q2,g2,e2,hc2⟩:=kZ (N:=N) ha (h:=g) (n:=3) hc1
 rw [e2,bs]
 dsimp only
 cases b with
 | false=>rw [cond_false];exact ⟨_,_,_,rfl,hc2,hr⟩
 | true =>
  obtain ⟨x,q3,g3,e3,b0,b1,_,hc3⟩:=bV (N:=N) ha (h:=g2) (n:=4) hc2
  have b1:=b1 (by decide)
  rw [cond_true,e3,bs]
  dsimp only
  obtain ⟨y,q4,g4,e4,c0,c1,_,hc4⟩:=bV (N:=N) ha (h:=g3) (n:=4) hc3
  have c1:=c1 (by decide)
  rw [dZ (by omega) (by omega),bs,e4,bs]
  dsimp only
  rw [dZ (by omega) (by omega),bs]
  obtain ⟨q5,g5,ats,m5,e5,hc5,l5,a5⟩:=w5 hN ha (z1:=0) (z2:=[]) (z3:=[]) (z4:=r.1) (z5:=r.2.1) (z6:=r.2.2) (n:=1+x) (z7:=[]) (1+y).toNat N [] q4 g4 (1+y) hc4 rfl (by omega) (by omega) (by simp;omega) (by simp)
  rw [e5,bs]
  unfold lpB
  dsimp only
  have hx:((x.toNat+1:Nat):Int)=1+x:=by omega
  obtain ⟨q6,g6,out,v6,e6,hc6,l6⟩:=wQ (N:=N) ha (z1:=0) (z2:=[]) (z3:=[]) (z4:=r.1) (z5:=r.2.1) (z6:=r.2.2) (n:=x.toNat+1) (z8:=ats) (by omega) (x.toNat+1) N [] q5 g5 0 hc5 (by omega) (by omega) (by simp)
  rw [hx] at e6
  have e6':dX N N a q5 g5 0 [] [] r.1 r.2.1 r.2.2 (1+x) ats [] 0=some (q6,g6,out,v6):=e6
  simp only [List.length_nil,Nat.zero_add] at l5
  have hq:QGd (1+x,ats,out):=⟨⟨by show 1≤1+x;omega,by show 1+x≤5;omega⟩,⟨by show 1≤ats.length;omega,by show ats.length≤4;omega⟩,a5,by show out.length≤5;omega⟩
  rw [e6',bs]
  dsimp only
  rw [gj hN (QSm.atoms hq.sm) (QSm.out hq.sm),bs]
  cases ff (1+x) ats out with
  | true=>rw [cond_true];exact ⟨_,_,_,rfl,hc6,hq⟩
  | false=>rw [cond_false];exact ⟨_,_,_,rfl,hc6,hr⟩
theorem wO (hN:1073741824≤N) {a:List Int} (ha:dv a) {p h:Int} (hc:bW a p):∃ r q g,kr N a p h=some (r,q,g)∧bW a q∧QSm r:=by
 obtain ⟨⟨n,ats,out⟩,q,g,e,hc1,hr⟩:=pr hN ha (h:=h) hc
 obtain ⟨x,q2,g2,e2,_,_,_,hc2⟩:=bV (N:=N) ha (h:=g) (n:=14) hc1
 unfold kr
 rw [e,bs]
 dsimp only
 rw [e2,bs]
 dsimp only
 have hn:=hr.1;have ha1:=hr.2.1;have ha2:=hr.2.2.1;have ho:=hr.2.2.2
 dsimp only at hn ha1 ha2 ho
 have hsm:=hr.sm
 cases h0:(x == 0) with
 | true =>
  rw [cond_true,dZ (by omega) (by omega),bs]
  obtain ⟨y,q3,g3,e3,hy,hc3⟩:=eN (N:=N) ha (h:=g2) (l:=[0,6,n+1]) hc2 (Nat.zero_lt_succ _)
  rw [e3,bs]
  refine ⟨_,_,_,rfl,hc3,⟨?_,hsm.2⟩⟩
  simp only [List.mem_cons,List.not_mem_nil,or_false] at hy
  show 0≤y∧y≤6
  omega
 | false =>
 rw [cond_false]
 cases h1:(x == 1) with
 | true =>
  rw [cond_true]
  obtain ⟨y,q3,g3,e3,hy,hc3⟩:=m7 (N:=N) ha (h:=g2) (l:=[ByteArray.empty,(⟨#[119]⟩:ByteArray),(⟨#[114]⟩:ByteArray)]) hc2 (by decide)
  have hys:∀ s∈[ByteArray.empty,(⟨#[119]⟩:ByteArray),(⟨#[114]⟩:ByteArray)],s.size≤4:=by decide
  rw [e3,bs,bF (by decide) (by simp;omega),bs]
  refine ⟨_,_,_,rfl,hc3,hsm.1,by show (ats++[_]).length≤5;simp;omega,fun b hb=>?_,hsm.2.2.2⟩
  rcases List.mem_append.1 hb with h | h
  ·exact hsm.2.2.1 b h
  ·rw [List.mem_singleton] at h;rw [h];exact ⟨hys y hy,by show ([0]:List Int).length≤5;decide⟩
 | false =>
 rw [cond_false]
 cases h2:(x == 2) with
 | true =>
  rw [cond_true]
  obtain ⟨y,q3,g3,e3,b0,b1,_,hc3⟩:=bV (N:=N) ha (h:=g2) (n:=6) hc2
  have b1:=b1 (by decide)
  rw [e3,bs]
  dsimp only
  rw [ez (by omega) (by omega),bs,bF (by decide) (by simp;omega),bs]
  exact ⟨_,_,_,rfl,hc3,hsm.1,hsm.2.1,hsm.2.2.1,by show (out++[_]).length≤6;simp;omega⟩
 | false =>
 rw [cond_false]
 have hl:0<ats.length:=by omega
 have i0:ix ats 0=some ats[0]:=aR hl
 have hm0:=ha2 _ (List.getElem_mem hl)
 cases h3:(x == 3) with
 | true =>
  have s0:sto ats 0 (ats[0].1,[])=some (ats.set 0 (ats[0].1,[])):=iH hl
  rw [cond_true,i0,bs,s0,bs]
  refine ⟨_,_,_,rfl,hc2,hsm.1,by show (ats.set 0 _).length≤5;rw [List.length_set];omega,fun b hb=>?_,hsm.2.2.2⟩
  rcases List.mem_or_eq_of_mem_set hb with h | h
  ·exact hsm.2.2.1 b h
  ·rw [h];exact ⟨hm0.1,Nat.zero_le _⟩
 | false =>
 rw [cond_false]
 cases h4:(x == 4) with
 | true =>
  obtain ⟨y,q3,g3,e3,hy,hc3⟩:=eN (N:=N) ha (h:=g2) (l:=[(-1),5]) hc2 (by decide)
  have hl1:0<ats[0].2.length:=by omega
  have i1:ix ats[0].2 0=some ats[0].2[0]:=aR hl1
  have s1:sto ats[0].2 0 y=some (ats[0].2.set 0 y):=iH hl1
  have s0:sto ats 0 (ats[0].1,ats[0].2.set 0 y)=some (ats.set 0 (ats[0].1,ats[0].2.set 0 y)):=iH hl
  rw [cond_true,i0,bs,e3,bs,i1,bs,s1,bs,s0,bs]
  refine ⟨_,_,_,rfl,hc3,hsm.1,by show (ats.set 0 _).length≤5;rw [List.length_set];omega,fun b hb=>?_,hsm.2.2.2⟩
  rcases List.mem_or_eq_of_mem_set hb with h | h
  ·exact hsm.2.2.1 b h
  ·rw [h];exact ⟨hm0.1,by show (ats[0].2.set 0 y).length≤5;rw [List.length_set];exact hm0.2.2⟩
 | false =>
 rw [cond_false]
 exact ⟨_,_,_,rfl,hc2,hsm⟩
end
def TSm (t:aU):Prop:=t.1.size≤5∧t.2.2.length≤10∧∀ r∈t.2.2,r.length≤6
def DSm (ts:List aU):Prop:=ts.length≤6∧∀ t∈ts,TSm t
theorem DSm.ok {ts:List aU} (h:DSm ts):lI ts:=⟨by have:=h.1;omega,fun t ht=>by
 obtain ⟨h1,h2,h3⟩:=h.2 t ht
 exact ⟨by omega,by omega,fun r hr=>⟨by have:=h3 r hr;omega,fun _ _=>trivial⟩⟩⟩
theorem zb:∀ (n:Nat) (l:List Int),l.length<n→∃ v:Nat,v<n∧(v:Int)∉l:=by
 intro n
 induction n with
 | zero=>intro l h;omega
 | succ n ih =>
  intro l h
  by_cases hm:(n:Int)∈l
  ·have hl:=List.length_erase_of_mem hm
   have hp:=List.length_pos_of_mem hm
   obtain ⟨v,h1,h2⟩:=ih (l.erase (n:Int)) (by omega)
   exact ⟨v,by omega,fun hv=>h2 ((List.mem_erase_of_ne (by omega)).2 hv)⟩
  ·exact ⟨n,by omega,hm⟩
section
variable {N:Nat}
abbrev kw:List ByteArray:=[(⟨#[114]⟩:ByteArray),(⟨#[115]⟩:ByteArray),(⟨#[116]⟩:ByteArray),(⟨#[117]⟩:ByteArray),(⟨#[118]⟩:ByteArray)]
theorem xF {n m y:Int} {rows:aI} {s:ByteArray} (hs:s.size≤5) (hn:n≤5) (hy:y≤10) (hl:(rows.length:Int)≤y) (hr:∀ r∈rows,(r.length:Int)=n∧∀ v∈r,0≤v∧v<m):TSm (s,(n,rows)) :=
 ⟨hs,by show rows.length≤10;omega,fun r h=>by have:=(hr r h).1;omega⟩
theorem BQ (hM:1073742848≤N) {a:List Int} (ha:dv a) {z:List aU} {m:Int} (hm:0<m∧m≤100):∀ (d k:Nat) (acc:List aU) (p h:Int) (i:Nat),bW a p→i+d=5→d<k→acc.length=i→(∀ t∈acc,TSm t) →
  ∃ q g ts v,fR N k a p h z m acc kw (kw.length:Int) (i:Int)=some (q,g,ts,v)∧bW a q∧ts.length=5∧∀ t∈ts,TSm t:=by
 intro d
 induction d with
 | zero =>
  intro k acc p h i hc hd hk hl ht
  obtain ⟨k,rfl⟩:∃ g,k=g+1:=⟨k-1,by omega⟩
  rw [fR,decide_eq_false (show ¬ (i:Int)<(kw.length:Int) by show ¬ (i:Int)<5;omega),cond_false]
  exact ⟨_,_,_,_,rfl,hc,by omega,ht⟩
 | succ d ih =>
  intro k acc p h i hc hd hk hl ht
  obtain ⟨k,rfl⟩:∃ g,k=g+1:=⟨k-1,by omega⟩
  have hi:i<kw.length:=by show i<5;omega
  have hs:∀ s∈kw,s.size≤5:=by decide
  have hs':=hs _ (List.getElem_mem hi)
  rw [fR,decide_eq_true (show (i:Int)<(kw.length:Int) by omega),cond_true,aR hi,bs]
  obtain ⟨y,q,g,e,hy,hc1⟩:=eN (N:=N) ha (h:=h) (l:=[3,6,9]) hc (by decide)
  have hyb:0≤y∧y≤10:=by
   simp only [List.mem_cons,List.not_mem_nil,or_false] at hy
   omega
  cases eqS kw[i] (⟨#[118]⟩:ByteArray) with
  | true =>
   obtain ⟨rows,q2,g2,e2,hc2,r1,r2⟩:=n4 hM ha (h:=g) (n:=3) (m:=m) (y:=y) hc1 hm (by decide) (by omega)
   rw [cond_true,e,bs]
   dsimp only
   rw [e2,bs]
   dsimp only
   rw [bF (by decide) (by simp;omega),bs,ad1 (by omega),bs]
   refine ih k _ q2 g2 (i+1) hc2 (by omega) (by omega) (by simp;omega) fun t h=>?_
   rcases List.mem_append.1 h with h | h
   ·exact ht t h
   ·rw [List.mem_singleton] at h;rw [h];exact xF hs' (by decide) hyb.2 r1 r2
  | false =>
   obtain ⟨rows,q2,g2,e2,hc2,r1,r2⟩:=n4 hM ha (h:=g) (n:=2) (m:=m) (y:=y) hc1 hm (by decide) (by omega)
   rw [cond_false,e,bs]
   dsimp only
   rw [e2,bs]
   dsimp only
   rw [bF (by decide) (by simp;omega),bs,ad1 (by omega),bs]
   refine ih k _ q2 g2 (i+1) hc2 (by omega) (by omega) (by simp;omega) fun t h=>?_
   rcases List.mem_append.1 h with h | h
   ·exact ht t h
   ·rw [List.mem_singleton] at h;rw [h];exact xF hs' (by decide) hyb.2 r1 r2
theorem sd {ts:List aU} {i:Nat} {t:aU} (h:∀ t∈ts,TSm t) (ht:TSm t):∀ u∈ts.set i t,TSm u:=fun u hu=>by
 rcases List.mem_or_eq_of_mem_set hu with h' | h'
 ·exact h u h'
 ·rw [h'];exact ht
theorem l8 {α:Type} {xs:List α} {i:Int} {y:α} (h0:0≤i) (h:i<xs.length):sto xs i y=some (xs.set i.toNat y):=by
 obtain ⟨k,rfl⟩:=Int.eq_ofNat_of_zero_le h0
 exact iH (by omega)
theorem tz (hM:1073742848≤N) {a:List Int} (ha:dv a) {p h:Int} (hc:bW a p):∃ ts q g,j5 N a p h=some (ts,q,g)∧bW a q∧ts.length=5∧∀ t∈ts,TSm t:=by
 unfold j5
 obtain ⟨m,q,g,e,hm,hc1⟩:=eN (N:=N) ha (h:=h) (l:=[2,3,4,6]) hc (by decide)
 have hmb:0<m∧m≤100:=by
  simp only [List.mem_cons,List.not_mem_nil,or_false] at hm
  omega
 rw [e,bs]
 dsimp only
 obtain ⟨q2,g2,ts,v,e2,hc2,hl,ht⟩:=BQ hM ha (z:=[]) hmb 5 N [] q g 0 hc1 rfl (by omega) rfl (by simp)
 have e2':fR N N a q g [] m [] kw (kw.length:Int) 0=some (q2,g2,ts,v):=e2
 rw [e2',bs]
 unfold lpB
 dsimp only
 obtain ⟨b,q3,g3,e3,hc3⟩:=kZ (N:=N) ha (h:=g2) (n:=8) hc2
 rw [e3,bs]
 dsimp only
 cases b with
 | false=>rw [cond_false];exact ⟨_,_,_,rfl,hc3,hl,ht⟩
 | true =>
  obtain ⟨x,q4,g4,e4,b0,b1,_,hc4⟩:=bV (N:=N) ha (h:=g3) (n:=5) hc3
  have b1:=b1 (by decide)
  have hx:x<(ts.length:Int):=by omega
  have hm:=ht _ (List.getElem_mem (show x.toNat<ts.length by omega))
  rw [cond_true,e4,bs]
  dsimp only
  rw [gY b0 hx,bs,l8 b0 hx,bs]
  exact ⟨_,_,_,rfl,hc4,by rw [List.length_set];exact hl,sd ht ⟨hm.1,Nat.zero_le _,fun r hr=>by cases hr⟩⟩
theorem tQ.t {r:Int × aI} {s:ByteArray} (hs:s.size≤5) (k:tQ r):TSm (s,r):=⟨hs,by show r.2.length≤10;have:=k.2.1;omega,fun w hw=>(k.2.2 w hw).1⟩
theorem xa (hM:1073742848≤N) {a:List Int} (ha:dv a) {p h:Int} (hc:bW a p):∃ ts q g,kf N a p h=some (ts,q,g)∧bW a q∧DSm ts:=by
 have hN:1073741824≤N:=by omega
 obtain ⟨ts,q,g,e,hc1,hl,ht⟩:=tz hM ha (h:=h) hc
 obtain ⟨x,q2,g2,e2,b0,b1,_,hc2⟩:=bV (N:=N) ha (h:=g) (n:=5) hc1
 have b1:=b1 (by decide)
 obtain ⟨y,q3,g3,e3,_,_,_,hc3⟩:=bV (N:=N) ha (h:=g2) (n:=14) hc2
 have hx:x<(ts.length:Int):=by omega
 have hm:=ht _ (List.getElem_mem (show x.toNat<ts.length by omega))
 unfold kf
 rw [e,bs]
 dsimp only
 rw [e2,bs]
 dsimp only
 rw [e3,bs]
 dsimp only
 cases h0:(y == 0) with
 | true =>
  obtain ⟨s,q4,g4,e4,hs,hc4⟩:=m7 (N:=N) ha (h:=g3) (l:=[ByteArray.empty,(⟨#[82]⟩:ByteArray),(⟨#[97,98,99,100,101]⟩:ByteArray),(⟨#[97]⟩:ByteArray),(⟨#[122]⟩:ByteArray)]) hc3 (by decide)
  have hss:∀ s∈[ByteArray.empty,(⟨#[82]⟩:ByteArray),(⟨#[97,98,99,100,101]⟩:ByteArray),(⟨#[97]⟩:ByteArray),(⟨#[122]⟩:ByteArray)],s.size≤5:=by decide
  rw [cond_true,e4,bs,gY b0 hx,bs,l8 b0 hx,bs]
  exact ⟨_,_,_,rfl,hc4,by rw [List.length_set];omega,sd ht ⟨hss s hs,hm.2⟩⟩
 | false =>
 rw [cond_false]
 cases h1:(y == 1) with
 | true =>
  obtain ⟨r,q4,g4,e4,hc4,hr⟩:=xg hM ha (h:=g3) hc3
  rw [cond_true,e4,bs,gY b0 hx,bs,l8 b0 hx,bs]
  exact ⟨_,_,_,rfl,hc4,by rw [List.length_set];omega,sd ht (hr.t hm.1)⟩
 | false =>
 rw [cond_false]
 cases h2:(y == 2) with
 | true =>
  rw [cond_true,gY b0 hx,bs,bF (by decide) (by simp;omega),bs]
  refine ⟨_,_,_,rfl,hc3,by simp;omega,fun t h=>?_⟩
  rcases List.mem_append.1 h with h | h
  ·exact ht t h
  ·rw [List.mem_singleton] at h;rw [h];exact hm
 | false =>
 rw [cond_false]
 cases h3:(y == 3) with
 | true =>
  have es:slc ts 0 x=some ((ts.take x.toNat).drop 0):=by
   have:=jk (xs:=ts) (lo:=0) (hi:=x.toNat) (by omega) (by omega)
   rwa [show ((x.toNat:Nat):Int)=x by omega] at this
  rw [cond_true,es,bs]
  refine ⟨_,_,_,rfl,hc3,by rw [List.drop_zero,List.length_take];omega,fun t h=>ht t (List.mem_of_mem_take (by simpa using h))⟩
 | false =>
 rw [cond_false]
 exact ⟨_,_,_,rfl,hc3,by omega,ht⟩
theorem vy (hM:1073742848≤N) {a:List Int} (ha:dv a) {p h:Int} (hc:bW a p):∃ ts r q g,jG N a p h=some (ts,r,q,g)∧bW a q∧DSm ts∧QSm r:=by
 have hN:1073741824≤N:=by omega
 obtain ⟨ts,q,g,e,hc1,hl,ht⟩:=tz hM ha (h:=h) hc
 obtain ⟨r,q2,g2,e2,hc2,hr⟩:=pr hN ha (h:=g) hc1
 obtain ⟨y,q3,g3,e3,_,_,_,hc3⟩:=bV (N:=N) ha (h:=g2) (n:=24) hc2
 unfold jG
 rw [e,bs]
 dsimp only
 rw [e2,bs]
 dsimp only
 rw [e3,bs]
 dsimp only
 cases h0:(y == 0) with
 | true =>
  obtain ⟨ts2,q4,g4,e4,hc4,ht4⟩:=xa hM ha (h:=g3) hc3
  rw [cond_true,e4,bs]
  exact ⟨_,_,_,_,rfl,hc4,ht4,hr.sm⟩
 | false =>
 rw [cond_false]
 cases h1:(y == 1) with
 | true =>
  obtain ⟨r2,q4,g4,e4,hc4,hr4⟩:=wO hN ha (h:=g3) hc3
  rw [cond_true,e4,bs]
  exact ⟨_,_,_,_,rfl,hc4,⟨by omega,ht⟩,hr4⟩
 | false =>
 rw [cond_false]
 exact ⟨_,_,_,_,rfl,hc3,⟨by omega,ht⟩,hr.sm⟩
theorem wu (hN:1073741824≤N) {a acc:List Int} {p h:Int} {n v:Nat} (hn:n≤5) (hacc:acc.length≤5) (hv:v<n) (hf:(v:Int)∉acc):∀ (d k r:Nat),r<n→(r+d=v∨r+d=v+n)→d≤n→d<k→∃ x:Int,eY N k a p h (n:Int) acc (r:Int)=some x∧0≤x∧x<n:=by
 intro d
 induction d with
 | zero =>
  intro k r hr hd _ hk
  obtain ⟨k,rfl⟩:∃ g,k=g+1:=⟨k-1,by omega⟩
  have:r=v:=by omega
  subst this
  have hneg:¬ 0≤cd acc (r:Int):=fun h=>hf (kH.1 h)
  rw [eY,ir hN (by omega),bs,decide_eq_false hneg,cond_false]
  exact ⟨_,rfl,by omega,by omega⟩
 | succ d ih =>
  intro k r hr hd hdn hk
  obtain ⟨k,rfl⟩:∃ g,k=g+1:=⟨k-1,by omega⟩
  rw [eY,ir hN (by omega),bs]
  by_cases hq:0≤cd acc (r:Int)
  ·rw [decide_eq_true hq,cond_true,ad1 (by omega),bs,kp (by omega),bs]
   by_cases hw:r+1=n
   ·have e:(((r+1:Nat):Int)).tmod (n:Int)=((0:Nat):Int):=by rw [hw,Int.tmod_self];rfl
    rw [e]
    exact ih k 0 (by omega) (by omega) (by omega) (by omega)
   ·have e:(((r+1:Nat):Int)).tmod (n:Int)=((r+1:Nat):Int):=Int.tmod_eq_of_lt (by omega) (by omega)
    rw [e]
    exact ih k (r+1) (by omega) (by omega) (by omega) (by omega)
  ·rw [decide_eq_false hq,cond_false]
   exact ⟨_,rfl,by omega,by omega⟩
theorem xm (hN:1073741824≤N) {a:List Int} (ha:dv a) {n:Nat} (hn:n≤5):∀ (d k:Nat) (acc:List Int) (p h:Int),bW a p→acc.length+d=n→d<k→(∀ v∈acc,0≤v∧v<n) →
  ∃ q g out,fX N k a p h (n:Int) acc=some (q,g,out)∧bW a q∧out.length=n∧∀ v∈out,0≤v∧v<n:=by
 intro d
 induction d with
 | zero =>
  intro k acc p h hc hd hk hv
  obtain ⟨k,rfl⟩:∃ g,k=g+1:=⟨k-1,by omega⟩
  rw [fX,decide_eq_false (by omega),cond_false]
  exact ⟨_,_,_,rfl,hc,by omega,hv⟩
 | succ d ih =>
  intro k acc p h hc hd hk hv
  obtain ⟨k,rfl⟩:∃ g,k=g+1:=⟨k-1,by omega⟩
  obtain ⟨x,q,g,e,b0,b1,_,hc1⟩:=bV (N:=N) ha (h:=h) (n:=(n:Int)) hc
  have b1:=b1 (by omega)
  obtain ⟨v,hv1,hv2⟩:=zb n acc (by omega)
  obtain ⟨r,rfl⟩:=Int.eq_ofNat_of_zero_le b0
  obtain ⟨y,e2,y0,y1⟩:=wu hN (a:=a) (p:=q) (h:=g) hn (by omega) hv1 hv2 (if r≤v then v-r else v+n-r) N r (by omega) (by split <;> omega) (by split <;> omega) (by split <;> omega)
  rw [fX,decide_eq_true (by omega),cond_true,e,bs]
  dsimp only
  have e2':eY N N a q g (n:Int) acc ((r:Nat):Int)=some y:=e2
  rw [e2',bs]
  unfold lpB
  dsimp only
  rw [bF (by decide) (by simp;omega),bs]
  refine ih k _ q g hc1 (by simp;omega) (by omega) fun w hw=>?_
  rcases List.mem_append.1 hw with h | h
  ·exact hv w h
  ·rw [List.mem_singleton] at h;rw [h];exact ⟨y0,y1⟩
theorem us (hN:1073741824≤N) {a:List Int} (ha:dv a) {p h:Int} {n:Nat} (hn:n≤5) (hc:bW a p):∃ out q g,iU N a p h (n:Int)=some (out,q,g)∧bW a q∧out.length=n:=by
 obtain ⟨q,g,out,e,h1,h2,_⟩:=xm hN ha hn n N [] p h hc (by simp) (by omega) (by simp)
 unfold iU
 rw [e,bs]
 exact ⟨_,_,_,rfl,h1,h2⟩
theorem tJ (hN:1073741824≤N) {a:List Int} (ha:dv a) {p h n:Int} {ats:List aW} {o:List Int} (hc:bW a p):∃ out q g,iE N a p h n ats o=some (out,q,g)∧bW a q∧out.length≤5:=by
 unfold iE
 have hi:∃ m:Nat,imx 0 (imn 5 n)=(m:Int)∧m≤5:=by
  have h1:0≤imx 0 (imn 5 n)∧imx 0 (imn 5 n)≤5:=by
   unfold imx imn
   split <;> split at*<;> omega
  exact ⟨(imx 0 (imn 5 n)).toNat,by omega,by omega⟩
 obtain ⟨m,em,hm⟩:=hi
 obtain ⟨out,q,g,e,hc1,hl⟩:=us hN ha (h:=h) hm hc
 rw [em,e,bs]
 dsimp only
 by_cases h0:(0:Int)<(out.length:Int)
 ·obtain ⟨b,q2,g2,e2,hc2⟩:=kZ (N:=N) ha (h:=g) (n:=14) hc1
  rw [decide_eq_true h0,cond_true,e2,bs]
  dsimp only
  cases b with
  | false=>rw [cond_false];exact ⟨_,_,_,rfl,hc2,by omega⟩
  | true =>
   obtain ⟨x,q3,g3,e3,_,_,_,hc3⟩:=bV (N:=N) ha (h:=g2) (n:=6) hc2
   rw [cond_true,e3,bs,gY (by decide) h0,bs,l8 (by decide) h0,bs]
   exact ⟨_,_,_,rfl,hc3,by rw [List.length_set];omega⟩
 ·rw [decide_eq_false h0,cond_false];exact ⟨_,_,_,rfl,hc1,by rw [hl];exact hm⟩
def JSm (ts:List aU) (r:mi) (o:List Int):Prop:=DSm ts∧QSm r∧o.length≤5
theorem JSm.o {ts:List aU} {r:mi} {o:List Int} (h:JSm ts r o):okI o:=⟨by have:=h.2.2;omega,fun _ _=>trivial⟩
theorem tZ (hM:1073742848≤N) {a:List Int} (ha:dv a) {p h:Int} (hc:bW a p):∃ ts r o q g,jj N a p h=some (ts,r,o,q,g)∧bW a q∧JSm ts r o:=by
 obtain ⟨ts,r,q,g,e,hc1,ht,hr⟩:=vy hM ha (h:=h) hc
 unfold jj
 rw [e,bs]
 dsimp only
 obtain ⟨o,q2,g2,e2,hc2,hl⟩:=tJ (N:=N) (by omega) ha (h:=g) (n:=r.1) (ats:=r.2.1) (o:=r.2.2) hc1
 rw [e2,bs]
 exact ⟨_,_,_,_,_,rfl,hc2,ht,hr,hl⟩
theorem CO {a:List Int}:bW a 0:=⟨Int.le_refl _,by omega⟩
theorem oL (hM:1073742848≤N) {a:List Int} (ha:dv a):∃ ts r o,fq N a=some (ts,r,o)∧JSm ts r o:=by
 obtain ⟨h,e⟩:=rX (N:=N) (by omega) ha
 obtain ⟨ts,r,o,q,g,e2,_,hj⟩:=tZ hM ha (h:=h) CO
 unfold fq
 rw [e,bs]
 dsimp only
 rw [e2,bs]
 exact ⟨_,_,_,rfl,hj⟩
end
theorem sT {f:Nxt}:∀ {m:Nat} {p0 s r:List Int},r∈(be f m p0).1→s.length<m→r.take (p0++s).length=p0++s→∃ h:(p0++s).length<r.length,r[(p0++s).length]∈(f (p0++s)).1
 | 0,_,_,_,_,hs,_=>absurd hs (Nat.not_lt_zero _)
 | m+1,p0,s,r,hr,hs,ht=>by
  obtain ⟨v,hv,hr⟩:=List.mem_flatMap.1 hr
  obtain ⟨s',e,hl⟩:=j7 hr
  cases s with
  | nil =>
   subst e
   simp only [List.append_nil]
   refine ⟨by simp,?_⟩
   have:(p0++[v]++s')[p0.length]'(by simp)=v:=by simp
   rw [this];exact hv
  | cons w s =>
   have hw:w=v:=by
    subst e
    have h1:=congrArg (fun l:List Int=>l[p0.length]?) ht
    simp only [List.length_append,List.length_cons,List.append_assoc] at h1
    rw [List.getElem?_take_of_lt (by omega)] at h1
    simpa using h1.symm
   subst hw
   have e2:p0++w :: s=p0++[w]++s:=by simp
   rw [e2] at ht ⊢
   exact sT hr (by simp at hs;omega) ht
theorem tm {f g:Nxt} {n:Nat} (h:∀ p:List Int,p.length<n→(f p).1=(g p).1):∀ (m:Nat) (p:List Int),p.length+m≤n→(be f m p).1=(be g m p).1
 | 0,_,_=>rfl
 | m+1,p,hp=>by
  show (f p).1.flatMap (fun v=>(be f m (p++[v])).1)=(g p).1.flatMap fun v=>(be g m (p++[v])).1
  rw [h p (by omega)]
  congr 1
  funext v
  exact tm h m _ (by simp;omega)
theorem sx {ts:List aU} {n:Nat} {atoms:List aW} {order:List Int} (q:QFor ts n atoms order):(be (bh ts order atoms) n []).1=(be (ru ts order atoms) n []).1 :=
 tm (n:=n) (fun p hp=>uS ((g8 q).asc p) ((y2 q).asc p) (CI q hp)) n [] (by simp)
section
variable {N:Nat}
theorem oW (hM:1073742848≤N) {a:List Int} (ha:dv a):∃ ts r o,fU N a=some (ts,r,o)∧JSm ts r o:=by
 obtain ⟨ts,r,o,e,hj⟩:=oL hM ha
 unfold fU
 rw [e,bs]
 exact ⟨_,_,_,rfl,hj⟩
end
theorem lk {ts:List aU} {n:Nat} {atoms:List aW} {order:List Int} (q:QFor ts n atoms order) {v:Int} (h0:0≤v) (h1:v<n):v∈order:=by
 apply Classical.byContradiction
 intro hn
 obtain ⟨h2,h3⟩:=eT q.os
 have:=jF n (v :: order) (List.nodup_cons.2 ⟨hn,h2⟩) (fun x hx=>by
  rcases List.mem_cons.1 hx with rfl | h
  ·exact ⟨h0,h1⟩
  ·have:=h3 x h;omega)
 rw [List.length_cons,q.ol] at this
 omega
theorem xe {ts:List aU} {n:Nat} {atoms:List aW} {order:List Int} (q:QFor ts n atoms order) (he:iQ (cg ts order atoms)=true):(be (ru ts order atoms) n []).1=[]:=by
 refine List.eq_nil_iff_forall_not_mem.2 fun r hr=>?_
 unfold iQ cg at he
 rw [List.any_eq_true] at he
 obtain ⟨t,ht,h0⟩:=he
 rw [decide_eq_true_eq] at h0
 obtain ⟨a,ha,rfl⟩:=List.mem_map.1 ht
 obtain ⟨i,hi,rfl⟩:=List.getElem_of_mem ha
 obtain ⟨h1,h2,h3⟩:=q.al _ ha
 have hv:=h3 _ (List.getElem_mem (show 0<atoms[i].2.length by omega))
 obtain ⟨l,hl,el⟩:=List.getElem_of_mem (lk q hv.1 hv.2)
 have hol:=q.ol
 obtain ⟨s,e,hs⟩:=j7 hr
 have hrl:r.length=n:=by rw [e];exact hs
 have hpl:(r.take l).length=l:=by rw [List.length_take];omega
 obtain ⟨w1,w2⟩:=sT (p0:=[]) (s:=r.take l) hr (by omega) (by rw [List.nil_append,hpl])
 obtain ⟨x,w2⟩:∃ x,x∈(ru ts order atoms (r.take l)).1:=⟨_,by simpa using w2⟩
 have k:=mU (ls:=dV ts order atoms (r.take l)) (B:=16) fun l hl=>(gm q l hl).1
 have hin:atV ts order atoms (r.take l) i∈dV ts order atoms (r.take l):=by
  unfold dV
  rw [hpl]
  refine List.mem_map.2 ⟨i,jN.2 ⟨hi,?_⟩,rfl⟩
  rw [ba hl,el,fh hi]
  exact List.getElem_mem _
 have hx:=k.2.1 _ w2 _ hin
 unfold atV at hx
 rw [fh hi] at hx
 have hlen:=tu (gh ts order atoms[i]).1 (gh ts order atoms[i]).2 (ko atoms[i].2 order (r.take l))
 have:=List.length_pos_of_mem hx
 omega
def gD (order r:List Int) (v:Int):Int:=r.getD (cd order v).toNat 0
def dD (ts:List aU) (a:aW):aI:=(b9 ts a.1).1.2
def mM (ts:List aU) (atoms:List aW) (f:Int→Int):Prop:=∀ a∈atoms,a.2.map f∈dD ts a
theorem j0 {vs:List Int} {v:Int} (h:v∈vs):∃ j:Nat,cd vs v=(j:Int)∧∃ hj:j<vs.length,vs[j]=v:=by
 rcases ku vs v with ⟨h1,_⟩ | ⟨j,hj,e,e2,_⟩
 ·exact absurd h h1
 ·exact ⟨j,e2,hj,e⟩
theorem qI {vs:List Int} {f:Int→Int} {j:Nat} (h:j<vs.length):(vs.map f).getD j 0=f vs[j]:=by
 rw [ba (by rw [List.length_map];exact h),List.getElem_map]
theorem ov (vars:List Int):∀ (l out:List Int),l.Nodup→(∀ v∈l,v∈vars→cd vars v∉out)→l.foldl (dM vars) out=out++(l.filter fun v=>decide (v∈vars)).map (cd vars)
 | [],out,_,_=>by simp
 | v :: l,out,hn,ho=>by
  obtain ⟨n1,n2⟩:=List.nodup_cons.1 hn
  rw [List.foldl_cons]
  by_cases hv:v∈vars
  ·have e:dM vars out v=out++[cd vars v]:=by
    unfold dM
    rw [decide_eq_true (kH.2 hv),decide_eq_false (ho v List.mem_cons_self hv)];rfl
   rw [e,ov vars l _ n2 (fun w hw hwv hm=>by
    rcases List.mem_append.1 hm with h | h
    ·exact ho w (List.mem_cons_of_mem _ hw) hwv h
    ·rw [List.mem_singleton] at h
     obtain ⟨j,e1,hj,e2⟩:=j0 hwv
     obtain ⟨k,e3,hk,e4⟩:=j0 hv
     have:j=k:=by omega
     subst this
     rw [e2] at e4;subst e4;exact n1 hw),List.filter_cons,if_pos (by simpa using hv)]
   simp
  ·have e:dM vars out v=out:=by
    unfold dM
    rw [decide_eq_false (fun h=>hv (kH.1 h))];rfl
   rw [e,ov vars l _ n2 (fun w hw=>ho w (List.mem_cons_of_mem _ hw)),List.filter_cons,if_neg (by simpa using hv)]
theorem oU {vs order x:List Int} (hn:order.Nodup):dC (db vs x) (hX vs order)=(order.filter fun v=>decide (v∈bf vs)).map fun v=>x.getD (cd vs v).toNat 0:=by
 unfold hX
 rw [ov _ _ _ hn (by simp),List.nil_append]
 unfold dC
 rw [List.map_map]
 refine List.map_congr_left fun v hv=>?_
 rw [List.mem_filter,decide_eq_true_eq] at hv
 obtain ⟨j,e1,hj,e2⟩:=j0 hv.2
 show (db vs x).getD (cd (bf vs) v).toNat 0=_
 unfold db
 rw [e1,Int.toNat_natCast,qI hj,e2]
theorem uq {ts:List aU} {order:List Int} {a:aW} {t:List Int}:t∈(gh ts order a).2↔∃ x∈dD ts a,gL a.2 x=true∧t=dC (db a.2 x) (hX a.2 order):=by
 unfold gh dD
 dsimp only
 rw [iu,List.mem_map]
 constructor
 ·rintro ⟨y,hy,rfl⟩
  rw [iu] at hy
  unfold cm at hy
  obtain ⟨x,hx,rfl⟩:=List.mem_map.1 hy
  rw [List.mem_filter] at hx
  exact ⟨x,hx.1,hx.2,rfl⟩
 ·rintro ⟨x,h1,h2,rfl⟩
  refine ⟨_,(iu _ _ _).2 (List.mem_map.2 ⟨x,List.mem_filter.2 ⟨h1,h2⟩,rfl⟩),rfl⟩
theorem uO {vs order r:List Int} (hn:order.Nodup):∀ m,m≤order.length→fj vs order r m=((order.take m).filter fun v=>decide (v∈vs)).map (gD order r)
 | 0,_=>rfl
 | m+1,h=>by
  rw [iT,uO hn m (by omega),List.take_succ_eq_append_getElem (by omega),List.filter_append,List.map_append,ba (by omega)]
  by_cases hv:order[m]∈vs
  ·rw [decide_eq_true hv,cond_true,List.filter_cons,if_pos (by simpa using hv)]
   simp only [List.filter_nil,List.map_cons,List.map_nil]
   unfold gD
   rw [mt hn,Int.toNat_natCast]
  ·rw [decide_eq_false hv,cond_false,List.filter_cons,if_neg (by simpa using hv)]
   simp
theorem wV {vs x:List Int} (h:gL vs x=true) {i:Nat} (hi:i<vs.length):x.getD (cd vs vs[i]).toNat 0=x.getD i 0:=by
 unfold gL mX at h
 rw [List.all_eq_true] at h
 have:=h i (by simp;omega)
 unfold pE at this
 rw [decide_eq_true_eq,ba hi] at this
 exact this
theorem xc {vs x:List Int} (h:∀ i (hi:i<vs.length),x.getD (cd vs vs[i]).toNat 0=x.getD i 0):gL vs x=true:=by
 unfold gL mX
 rw [List.all_eq_true]
 intro i hi
 have hi:i<vs.length:=by simpa using hi
 unfold pE
 rw [decide_eq_true_eq,ba hi]
 exact h i hi
section
variable {ts:List aU} {n:Nat} {atoms:List aW} {order:List Int}
theorem jP (q:QFor ts n atoms order):order.Nodup:=(eT q.os).1
theorem qQ (q:QFor ts n atoms order) {a:aW} {r:List Int} (hr:r.length=n):ko a.2 order r=(order.filter fun v=>decide (v∈bf a.2)).map (gD order r):=by
 unfold ko
 have hb:=(eT q.os).2
 have h5:=q.n5
 rw [uO (jP q) _ (by rw [q.ol,hr];exact Nat.le_refl _),hr,← q.ol,List.take_length]
 congr 1
 refine List.filter_congr fun v hv=>?_
 rw [decide_eq_decide,iv]
 have:=hb v hv
 exact ⟨fun h=>⟨by omega,h⟩,fun h=>h.2⟩
theorem kK (q:QFor ts n atoms order) {a:aW} (ha:a∈atoms) {x:List Int} (hx:x∈dD ts a):x.length=a.2.length∧aZ x=true:=by
 obtain ⟨h1,h2⟩:=q.af a ha
 obtain ⟨_,h4⟩:=qz h1 h2
 obtain ⟨i,hi,rfl⟩:=List.getElem_of_mem hx
 exact h4 i hi
theorem uT (q:QFor ts n atoms order) {a:aW} (ha:a∈atoms) {r:List Int} (hr:r.length=n):ko a.2 order r∈(gh ts order a).2↔a.2.map (gD order r)∈dD ts a:=by
 have hnd:=jP q
 obtain ⟨hl5,hl1,hv⟩:=q.al a ha
 have hF:∀ v∈a.2,v∈order.filter fun v=>decide (v∈bf a.2):=fun v hm=>by
  have h5:=q.n5
  have:=hv v hm
  rw [List.mem_filter,decide_eq_true_eq,iv]
  exact ⟨lk q this.1 this.2,by omega,hm⟩
 have hF2:∀ v,v∈(order.filter fun v=>decide (v∈bf a.2))→v∈a.2:=fun v hm=>by
  rw [List.mem_filter,decide_eq_true_eq,iv] at hm
  exact hm.2.2
 rw [uq,qQ q hr]
 constructor
 ·rintro ⟨x,hx,hf,e⟩
  rw [oU hnd,List.map_inj_left] at e
  have hxl:=(kK q ha hx).1
  have:a.2.map (gD order r)=x:=by
   refine List.ext_getElem (by rw [List.length_map,hxl]) fun i h1 h2=>?_
   have hi:i<a.2.length:=by rw [← hxl];exact h2
   rw [List.getElem_map,e _ (hF _ (List.getElem_mem hi)),wV hf hi,ba h2]
  rw [this];exact hx
 ·intro hx
  have key:∀ v∈a.2,(a.2.map (gD order r)).getD (cd a.2 v).toNat 0=gD order r v:=fun v hm=>by
   obtain ⟨j,e1,hj,e2⟩:=j0 hm
   rw [e1,Int.toNat_natCast,qI hj,e2]
  refine ⟨_,hx,xc fun i hi=>?_,?_⟩
  ·rw [key _ (List.getElem_mem hi),qI hi]
  ·rw [oU hnd]
   exact List.map_congr_left fun v hm=>(key v (hF2 v hm)).symm
theorem qq {f:Nxt}:∀ {m:Nat} {p r:List Int},r∈(be f m p).1↔∃ s,r=p++s∧s.length=m∧∀ l (h:l<s.length),s[l]∈(f (p++s.take l)).1
 | 0,p,r=>by
  constructor
  ·intro h;exact ⟨[],by rw [List.append_nil];exact List.mem_singleton.1 h,rfl,fun l h=>absurd h (Nat.not_lt_zero _)⟩
  ·rintro ⟨s,rfl,hs,_⟩
   rw [List.length_eq_zero_iff.1 hs,List.append_nil];exact List.mem_singleton.2 rfl
 | m+1,p,r=>by
  constructor
  ·intro h
   obtain ⟨v,hv,h⟩:=List.mem_flatMap.1 h
   obtain ⟨s,rfl,hs,hl⟩:=qq.1 h
   refine ⟨v :: s,by simp,by simp [hs],fun l h=>?_⟩
   cases l with
   | zero=>simpa using hv
   | succ l =>
    have:=hl l (by simpa using h)
    simpa using this
  ·rintro ⟨s,rfl,hs,hl⟩
   cases s with
   | nil=>simp at hs
   | cons v s =>
    have h0:=hl 0 (by simp)
    rw [List.take_zero,List.append_nil] at h0
    refine List.mem_flatMap.2 ⟨v,h0,qq.2 ⟨s,by simp,by simpa using hs,fun l h=>?_⟩⟩
    have:=hl (l+1) (by simpa using h)
    simpa using this
theorem sV (q:QFor ts n atoms order) {p:List Int} (hp:p.length<n) {x:Int}:x∈(bh ts order atoms p).1↔∀ i,i<atoms.length→order.getD p.length 0∈(eJ atoms i).2→x∈atV ts order atoms p i:=by
 have ha:=rk q hp
 have k1:=nU (ls:=dV ts order atoms p) (B:=16) fun l hl=>(gm q l hl).1
 have hm:(∀ l∈dV ts order atoms p,x∈l)↔∀ i,i<atoms.length→order.getD p.length 0∈(eJ atoms i).2→x∈atV ts order atoms p i:=by
  unfold dV
  constructor
  ·intro h i hi hv
   exact h _ (List.mem_map.2 ⟨i,jN.2 ⟨hi,hv⟩,rfl⟩)
  ·intro h l hl
   obtain ⟨i,hi,rfl⟩:=List.mem_map.1 hl
   exact h i (jN.1 hi).1 (jN.1 hi).2
 rw [← hm]
 exact ⟨fun h=>k1.2.1 x h,fun h=>k1.2.2.2.2 ha x h⟩
theorem tq {vs order r:List Int}:∀ {l m:Nat},l≤m→m≤r.length→fj vs order (r.take m) l=fj vs order r l
 | 0,_,_,_=>rfl
 | l+1,m,h,hm=>by
  rw [iT,iT,tq (by omega) hm,ba (xs:=r.take m) (by rw [List.length_take];omega),ba (xs:=r) (by omega),List.getElem_take]
theorem uM {vs order r:List Int}:∀ {l m:Nat},l≤m→∃ t,fj vs order r m=fj vs order r l++t
 | l,0,h=>by
  obtain rfl:l=0:=by omega
  exact ⟨[],by simp⟩
 | l,m+1,h=>by
  by_cases e:l=m+1
  ·subst e;exact ⟨[],by simp⟩
  ·obtain ⟨t,ht⟩:=uM (vs:=vs) (order:=order) (r:=r) (show l≤m by omega)
   rw [iT,ht]
   cases decide (order.getD m 0∈vs)
   ·exact ⟨t,rfl⟩
   ·exact ⟨t++[r.getD m 0],by simp⟩
theorem th {vs order r:List Int}:∀ {m:Nat},fj vs order r m≠[]→∃ l,l<m∧order.getD l 0∈vs∧fj vs order r m=fj vs order r l++[r.getD l 0]
 | 0,h=>absurd rfl h
 | m+1,h=>by
  rw [iT] at h ⊢
  by_cases hv:order.getD m 0∈vs
  ·rw [decide_eq_true hv,cond_true];exact ⟨m,by omega,hv,rfl⟩
  ·rw [decide_eq_false hv,cond_false] at h ⊢
   obtain ⟨l,h1,h2,h3⟩:=th h
   exact ⟨l,by omega,h2,h3⟩
theorem un (q:QFor ts n atoms order) {a:aW} (ha:a∈atoms) {t:List Int} (ht:t∈(gh ts order a).2):(t.length:Int)=(gh ts order a).1:=by
 obtain ⟨_,_,h3,_⟩:=nV q ha
 obtain ⟨_,_,_,h4⟩:=bJ h3
 obtain ⟨i,hi,rfl⟩:=List.getElem_of_mem ht
 exact (h4 i hi).1
theorem lz (q:QFor ts n atoms order) {r:List Int}:r∈(be (bh ts order atoms) n []).1↔r.length=n∧mM ts atoms (gD order r):=by
 have hol:=q.ol
 have step:∀ {r:List Int},r.length=n→((∀ l (h:l<r.length),r[l]∈(bh ts order atoms (r.take l)).1)↔∀ a∈atoms,ko a.2 order r∈(gh ts order a).2):=by
  intro r hr
  have own:∀ {l:Nat} (vs:List Int),l≤n→ko vs order (r.take l)=fj vs order r l:=fun {l} vs hl=>by
   unfold ko
   rw [List.length_take,Nat.min_eq_left (by omega),tq (Nat.le_refl _) (by omega)]
  have full:∀ vs:List Int,ko vs order r=fj vs order r n:=fun vs=>by unfold ko;rw [hr]
  constructor
  ·intro h a ha
   obtain ⟨i,hi,rfl⟩:=List.getElem_of_mem ha
   rw [full]
   have hne:fj atoms[i].2 order r n≠[]:=fun e=>by
    have h2:=qQ q (a:=atoms[i]) hr
    rw [full,e] at h2
    obtain ⟨_,h1,hv⟩:=q.al _ ha
    have h3:=hv _ (List.getElem_mem (show 0<atoms[i].2.length by omega))
    have h5:=q.n5
    have h4:atoms[i].2[0]'(by omega)∈order.filter fun v=>decide (v∈bf atoms[i].2):=by
     rw [List.mem_filter,decide_eq_true_eq,iv]
     exact ⟨lk q h3.1 h3.2,by omega,List.getElem_mem _⟩
    have:=congrArg List.length h2
    rw [List.length_map] at this
    have h6:=List.length_pos_of_mem h4
    simp at this
    omega
   obtain ⟨l,h1,h2,h3⟩:=th hne
   have hk:=(sV q (p:=r.take l) (by rw [List.length_take];omega)).1 (h l (by omega)) i hi (by rw [List.length_take,Nat.min_eq_left (by omega),fh hi];exact h2)
   unfold atV at hk
   rw [fh hi,own _ (by omega)] at hk
   unfold kc at hk
   split at hk
   ·obtain ⟨t,ht,e1,e2⟩:=o4.1 hk
    have htl:=un q ha ht
    have hown:=qQ q (a:=atoms[i]) hr
    rw [full] at hown
    have hlen:(fj atoms[i].2 order r n).length=t.length:=by
     obtain ⟨x,_,_,e5⟩:=uq.1 ht
     rw [oU (jP q)] at e5
     rw [hown,e5,List.length_map,List.length_map]
    have:fj atoms[i].2 order r n=t:=by
     rw [h3] at hlen ⊢
     rw [List.length_append] at hlen
     refine List.ext_getElem (by rw [List.length_append];exact hlen) fun j j1 j2=>?_
     by_cases hj:j<(fj atoms[i].2 order r l).length
     ·rw [List.getElem_append_left hj]
      have:=List.getElem_of_eq e1.symm (i:=j) hj
      rw [this,List.getElem_take]
     ·have hj':j=(fj atoms[i].2 order r l).length:=by simp at j1;omega
      subst hj'
      rw [List.getElem_append_right (Nat.le_refl _)]
      simp only [Nat.sub_self,List.getElem_cons_zero]
      rw [ba (by omega)] at e2 ⊢
      exact e2
    rw [this];exact ht
   ·cases hk
  ·intro h l hl
   refine (sV q (by rw [List.length_take];omega)).2 fun i hi hv=>?_
   rw [List.length_take,Nat.min_eq_left (by omega),fh hi] at hv
   have ha:=List.getElem_mem hi
   have ht:=h _ ha
   rw [full] at ht
   have htl:=un q ha ht
   unfold atV
   rw [fh hi,own _ (by omega)]
   obtain ⟨t,e⟩:=uM (vs:=atoms[i].2) (order:=order) (r:=r) (show l+1≤n by omega)
   rw [iT,decide_eq_true hv,cond_true,List.append_assoc] at e
   have hlt:(fj atoms[i].2 order r l).length<(fj atoms[i].2 order r n).length:=by rw [e];simp
   unfold kc
   rw [if_pos (by omega),o4]
   refine ⟨_,ht,by rw [e];simp,?_⟩
   rw [e,ba (xs:=_++_) (by simp),List.getElem_append_right (Nat.le_refl _)]
   simp only [Nat.sub_self,List.cons_append,List.nil_append,List.getElem_cons_zero]
   rw [ba (by omega)]
 rw [qq]
 constructor
 ·rintro ⟨s,e,hs,hl⟩
  rw [List.nil_append] at e
  subst e
  refine ⟨hs,fun a ha=>(uT q ha hs).1 ((step hs).1 (fun l h=>?_) a ha)⟩
  have:=hl l h
  rwa [List.nil_append] at this
 ·rintro ⟨hr,hb⟩
  refine ⟨r,rfl,hr,fun l h=>?_⟩
  rw [List.nil_append]
  exact (step hr).2 (fun a ha=>(uT q ha hr).2 (hb a ha)) l h
end
def at0 (b:List Int) (v:Int):Int:=b.getD v.toNat 0
def iN (vs t:List Int):Nat→Nat→List Int→Option (List Int)
 | 0,_,row=>some row
 | m+1,k,row=>if at0 row (vs.getD k 0)=-1∨at0 row (vs.getD k 0)=t.getD k 0 then iN vs t m (k+1) (row.set (vs.getD k 0).toNat (t.getD k 0)) else none
def l8V (ts:List aU):List aW→List Int→aI
 | [],row=>[row]
 | a :: l,row=>(dD ts a).flatMap fun t=>match iN a.2 t a.2.length 0 row with | some row'=>l8V ts l row' | none=>[]
def lu (row b:List Int):Prop:=b.length=row.length∧∀ v:Int,0≤v→v<row.length→at0 row v≠-1→at0 b v=at0 row v
theorem Ax {row:List Int} {v w x:Int} (hv:0≤v) (hvl:v<row.length) (hw:0≤w):at0 (row.set v.toNat x) w=if w=v then x else at0 row w:=by
 unfold at0
 by_cases h:w=v
 ·subst h
  rw [if_pos rfl,List.getD_eq_getElem?_getD,List.getElem?_set_self (by omega),Option.getD_some]
 ·rw [if_neg h,List.getD_eq_getElem?_getD,List.getElem?_set_ne (by omega),List.getD_eq_getElem?_getD]
theorem ti {vs t:List Int} (hl:t.length=vs.length) (ht:∀ x∈t,0≤x):∀ (m k:Nat) (row:List Int),k+m=vs.length→(∀ v∈vs,0≤v∧v<(row.length:Int)) →
  match iN vs t m k row with
  | none=>∀ b,lu row b→¬ ∀ j,k≤j→j<k+m→at0 b (vs.getD j 0)=t.getD j 0
  | some row'=>row'.length=row.length∧(∀ b,lu row' b↔lu row b∧∀ j,k≤j→j<k+m→at0 b (vs.getD j 0)=t.getD j 0)∧∀ v:Int,0≤v→(at0 row' v=-1↔at0 row v=-1∧∀ j,k≤j→j<k+m→vs.getD j 0≠v):=by
 intro m
 induction m with
 | zero =>
  intro k row _ _
  unfold iN
  exact ⟨rfl,fun b=>⟨fun h=>⟨h,fun j h1 h2=>by omega⟩,fun h=>h.1⟩,fun v _=>⟨fun h=>⟨h,fun j h1 h2=>by omega⟩,fun h=>h.1⟩⟩
 | succ m ih =>
  intro k row hk hb
  have hkv:k<vs.length:=by omega
  obtain ⟨hv0,hv1⟩:=hb _ (List.getElem_mem hkv)
  have ev:vs.getD k 0=vs[k]:=ba hkv
  have et:t.getD k 0=t[k]'(by omega):=ba (by omega)
  have ht0:=ht _ (List.getElem_mem (show k<t.length by omega))
  unfold iN
  rw [ev,et]
  by_cases hc:at0 row vs[k]=-1∨at0 row vs[k]=t[k]
  ·rw [if_pos hc]
   have hset:∀ w:Int,0≤w→at0 (row.set (vs[k]).toNat (t[k]'(by omega))) w=if w=vs[k] then t[k]'(by omega) else at0 row w:=fun w hw=>Ax hv0 hv1 hw
   have hcom:∀ b,lu (row.set (vs[k]).toNat (t[k]'(by omega))) b↔lu row b∧at0 b vs[k]=t[k]'(by omega):=fun b=>by
    unfold lu
    rw [List.length_set]
    constructor
    ·rintro ⟨h1,h2⟩
     have h3:at0 b vs[k]=t[k]'(by omega):=by
      have:=h2 vs[k] hv0 hv1 (by rw [hset _ hv0,if_pos rfl];omega)
      rwa [hset _ hv0,if_pos rfl] at this
     refine ⟨⟨h1,fun w w0 w1 hw=>?_⟩,h3⟩
     by_cases e:w=vs[k]
     ·subst e
      rcases hc with hc | hc
      ·exact absurd hc hw
      ·rw [hc];exact h3
     ·have:=h2 w w0 w1 (by rw [hset _ w0,if_neg e];exact hw)
      rwa [hset _ w0,if_neg e] at this
    ·rintro ⟨⟨h1,h2⟩,h3⟩
     refine ⟨h1,fun w w0 w1 hw=>?_⟩
     rw [hset _ w0] at hw ⊢
     by_cases e:w=vs[k]
     ·rw [if_pos e,e];exact h3
     ·rw [if_neg e] at hw ⊢;exact h2 w w0 w1 hw
   have hall:∀ (P:Nat→Prop),(∀ j,k≤j→j<k+(m+1)→P j)↔P k∧∀ j,k+1≤j→j<k+1+m→P j:=fun P =>
    ⟨fun h=>⟨h k (Nat.le_refl _) (by omega),fun j h1 h2=>h j (by omega) (by omega)⟩,fun h j h1 h2=>by
     by_cases e:j=k
     ·subst e;exact h.1
     ·exact h.2 j (by omega) (by omega)⟩
   have hi:=ih (k+1) (row.set (vs[k]).toNat (t[k]'(by omega))) (by omega) (fun v hv=>by rw [List.length_set];exact hb v hv)
   cases he:iN vs t m (k+1) (row.set (vs[k]).toNat (t[k]'(by omega))) with
   | none =>
    rw [he] at hi
    intro b hbc hj
    rw [hall] at hj
    rw [ev,et] at hj
    exact hi b ((hcom b).2 ⟨hbc,hj.1⟩) hj.2
   | some row' =>
    rw [he] at hi
    obtain ⟨i1,i2,i3⟩:=hi
    refine ⟨by rw [i1,List.length_set],fun b=>?_,fun v hv=>?_⟩
    ·rw [i2,hcom,hall,ev,et];exact and_assoc
    ·rw [i3 v hv,hset v hv,hall,ev]
     by_cases e:v=vs[k]
     ·subst e
      rw [if_pos rfl]
      exact ⟨fun h=>by have:=h.1;omega,fun h=>absurd rfl h.2.1⟩
     ·rw [if_neg e]
      exact ⟨fun h=>⟨h.1,fun e2=>e e2.symm,h.2⟩,fun h=>⟨h.1,h.2.2⟩⟩
  ·rw [if_neg hc]
   intro b hbc hj
   have h1:=hj k (Nat.le_refl _) (by omega)
   rw [ev,et] at h1
   have h2:=hbc.2 vs[k] hv0 hv1 (fun e=>hc (.inl e))
   exact hc (.inr (by rw [← h2];exact h1))
theorem vM {vs t b:List Int} (hl:t.length=vs.length):vs.map (at0 b)=t↔∀ j,0≤j→j<0+vs.length→at0 b (vs.getD j 0)=t.getD j 0:=by
 constructor
 ·rintro rfl j _ h
  rw [ba (xs:=vs) (by omega),qI (by omega)]
 ·intro h
  refine List.ext_getElem (by rw [List.length_map,hl]) fun j h1 h2=>?_
  have hj:j<vs.length:=by omega
  have:=h j (Nat.zero_le _) (by omega)
  rw [ba hj,ba h2] at this
  rw [List.getElem_map];exact this
theorem yw {ts:List aU}:∀ {l:List aW} {row b:List Int},(∀ a∈l,(∀ v∈a.2,0≤v∧v<(row.length:Int))∧∀ x∈dD ts a,x.length=a.2.length∧∀ y∈x,0≤y) →
  (b∈l8V ts l row↔(lu row b∧∀ v:Int,0≤v→v<row.length→at0 row v=-1→(∀ a∈l,v∉a.2)→at0 b v=-1)∧mM ts l (at0 b))
 | [],row,b,_=>by
  unfold l8V
  rw [List.mem_singleton]
  constructor
  ·rintro rfl
   exact ⟨⟨⟨rfl,fun _ _ _ _=>rfl⟩,fun v _ _ h _=>h⟩,fun a ha=>absurd ha (by simp)⟩
  ·rintro ⟨⟨⟨h1,h2⟩,h3⟩,_⟩
   refine List.ext_getElem h1 fun i i1 i2=>?_
   have e:∀ (r:List Int) (h:i<r.length),at0 r (i:Int)=r[i]:=fun r h=>by unfold at0;rw [Int.toNat_natCast,ba h]
   by_cases hm:at0 row (i:Int)=-1
   ·have:=h3 (i:Int) (by omega) (by omega) hm (by simp)
    rw [e _ i1] at this
    rw [e _ i2] at hm
    rw [this,hm]
   ·have:=h2 (i:Int) (by omega) (by omega) hm
    rwa [e _ i1,e _ i2] at this
 | a :: l,row,b,hok=>by
  obtain ⟨ha,hr⟩:=hok a List.mem_cons_self
  unfold l8V
  rw [List.mem_flatMap]
  have key:∀ t∈dD ts a,(b∈(match iN a.2 t a.2.length 0 row with | some row'=>l8V ts l row' | none=>[])↔a.2.map (at0 b)=t∧((lu row b∧∀ v:Int,0≤v→v<row.length→at0 row v=-1→(∀ a'∈a :: l,v∉a'.2)→at0 b v=-1)∧mM ts l (at0 b))):=fun t ht=>by
   obtain ⟨hl,h0⟩:=hr t ht
   have hs:=ti hl h0 a.2.length 0 row (by omega) ha
   cases he:iN a.2 t a.2.length 0 row with
   | none =>
    rw [he] at hs
    constructor
    ·intro h;cases h
    ·rintro ⟨h1,⟨h2,_⟩,_⟩
     exact absurd ((vM hl).1 h1) (hs b h2)
   | some row' =>
    rw [he] at hs
    obtain ⟨s1,s2,s3⟩:=hs
    show b∈l8V ts l row'↔_
    rw [yw (fun a' h'=>by rw [s1];exact hok a' (List.mem_cons_of_mem _ h')),s2,← vM hl,s1]
    have hv:∀ v:Int,0≤v→((∀ j,0≤j→j<0+a.2.length→a.2.getD j 0≠v)↔v∉a.2):=fun v _=>by
     constructor
     ·intro h hm
      obtain ⟨j,hj,e⟩:=List.getElem_of_mem hm
      exact h j (Nat.zero_le _) (by omega) (by rw [ba hj];exact e)
     ·intro h j _ hj e
      rw [ba (by omega)] at e
      exact h (by rw [← e];exact List.getElem_mem _)
    constructor
    ·rintro ⟨⟨⟨h1,h2⟩,h3⟩,h4⟩
     refine ⟨h2,⟨h1,fun v v0 v1 e hno=>h3 v v0 v1 ((s3 v v0).2 ⟨e,(hv v v0).2 (hno a List.mem_cons_self)⟩) fun a' h'=>hno a' (List.mem_cons_of_mem _ h')⟩,h4⟩
    ·rintro ⟨h2,⟨h1,h3⟩,h4⟩
     refine ⟨⟨⟨h1,h2⟩,fun v v0 v1 e hno=>?_⟩,h4⟩
     obtain ⟨e1,e2⟩:=(s3 v v0).1 e
     exact h3 v v0 v1 e1 fun a' h'=>by
      rcases List.mem_cons.1 h' with rfl | h'
      ·exact (hv v v0).1 e2
      ·exact hno a' h'
  constructor
  ·rintro ⟨t,ht,hb⟩
   obtain ⟨h1,h2,h3⟩:=(key t ht).1 hb
   refine ⟨h2,fun a' h'=>?_⟩
   rcases List.mem_cons.1 h' with rfl | h'
   ·rw [h1];exact ht
   ·exact h3 a' h'
  ·rintro ⟨h2,h3⟩
   exact ⟨_,h3 a List.mem_cons_self,(key _ (h3 a List.mem_cons_self)).2 ⟨rfl,h2,fun a' h'=>h3 a' (List.mem_cons_of_mem _ h')⟩⟩
theorem uf {ts:List aU}:∀ {l:List aW} {row:List Int},(∀ a∈l,(dD ts a).length≤16)→(l8V ts l row).length≤16 ^ l.length
 | [],_,_=>Nat.le_refl _
 | a :: l,row,h=>by
  unfold l8V
  have h2:=jw (g:=fun t=>match iN a.2 t a.2.length 0 row with | some row'=>l8V ts l row' | none=>[]) (k:=16 ^ l.length) (fun t=>by
   cases iN a.2 t a.2.length 0 row with
   | none=>exact Nat.zero_le _
   | some row'=>exact uf fun a' h'=>h a' (List.mem_cons_of_mem _ h')) (dD ts a)
  refine Nat.le_trans h2 ?_
  rw [List.length_cons,Nat.pow_succ,Nat.mul_comm (16 ^ l.length)]
  exact Nat.mul_le_mul_right _ (h a List.mem_cons_self)
section
variable {ts:List aU} {n:Nat} {atoms:List aW} {order:List Int}
theorem ul {x:List Int} (h:aZ x=true):∀ y∈x,0≤y:=fun y hy=>by
 unfold aZ at h
 rw [List.all_eq_true] at h
 exact (cT.1 (h y hy)).1
theorem nY (q:QFor ts n atoms order):∀ a∈atoms,(dD ts a).length≤16:=fun a ha=>qY (q.af a ha).1
theorem nl (q:QFor ts n atoms order) {b:List Int}:b∈l8V ts atoms (List.replicate n (-1))↔b.length=n∧mM ts atoms (at0 b):=by
 rw [yw (fun a ha=>⟨by rw [List.length_replicate];exact (q.al a ha).2.2,fun x hx=>⟨(kK q ha hx).1,ul (kK q ha hx).2⟩⟩)]
 have hrep:∀ v:Int,0≤v→v<(n:Int)→at0 (List.replicate n (-1)) v=-1:=fun v h0 h1=>by
  unfold at0
  rw [ba (by rw [List.length_replicate];omega),List.getElem_replicate]
 constructor
 ·rintro ⟨⟨h1,_⟩,h3⟩
  exact ⟨by have:=h1.1;rwa [List.length_replicate] at this,h3⟩
 ·rintro ⟨h1,h2⟩
  refine ⟨⟨⟨by rw [List.length_replicate];exact h1,fun v v0 v1 e=>?_⟩,fun v v0 v1 _ hno=>?_⟩,h2⟩
  ·rw [List.length_replicate] at v1
   exact absurd (hrep v v0 v1) e
  ·rw [List.length_replicate] at v1
   obtain ⟨a,ha,hv⟩:=q.cov v v0 v1
   exact absurd hv (hno a ha)
theorem xI (q:QFor ts n atoms order) {f:Int→Int} (h:mM ts atoms f) {v:Int} (v0:0≤v) (v1:v<n):0≤f v∧f v≤99:=by
 obtain ⟨a,ha,hv⟩:=q.cov v v0 v1
 have:=(kK q ha (h a ha)).2
 unfold aZ at this
 rw [List.all_eq_true] at this
 exact cT.1 (this _ (List.mem_map.2 ⟨v,hv,rfl⟩))
theorem mM.congr (q:QFor ts n atoms order) {f g:Int→Int} (h:mM ts atoms f) (e:∀ v:Int,0≤v→v<n→f v=g v):mM ts atoms g:=fun a ha=>by
 have hv:=(q.al a ha).2.2
 have:a.2.map g=a.2.map f:=List.map_congr_left fun v hm=>(e v (hv v hm).1 (hv v hm).2).symm
 rw [this];exact h a ha
def gb (n:Nat) (order r:List Int):List Int:=(eG n).map (gD order r)
def f7 (order b:List Int):List Int:=order.map (at0 b)
theorem wb {n i:Nat} (h:i<(eG n).length):(eG n)[i]=(i:Int):=by simp [eG]
theorem vc {b:List Int} {i:Nat} (h:i<(f7 order b).length):(f7 order b)[i]=at0 b (order[i]'(by simpa [f7] using h)):=by simp [f7]
theorem yG {r:List Int} {i:Nat} (h:i<(gb n order r).length):(gb n order r)[i]=gD order r (i:Int):=by simp [gb,wb]
theorem tw {r:List Int} {v:Int} (v0:0≤v) (v1:v<(n:Int)):at0 (gb n order r) v=gD order r v:=by
 unfold at0 gb
 rw [qI (by rw [kL];omega),wb]
 congr 1;omega
theorem oE (q:QFor ts n atoms order) {b:List Int} {v:Int} (v0:0≤v) (v1:v<(n:Int)):gD order (f7 order b) v=at0 b v:=by
 obtain ⟨j,e1,hj,e2⟩:=j0 (lk q v0 v1)
 unfold gD f7
 rw [e1,Int.toNat_natCast,qI hj,e2]
theorem jI (q:QFor ts n atoms order) {r:List Int} (hr:r.length=n):f7 order (gb n order r)=r:=by
 have hol:=q.ol
 refine List.ext_getElem (by unfold f7;rw [List.length_map,hol,hr]) fun i h1 h2=>?_
 have hi:i<order.length:=by omega
 have hb:=(eT q.os).2 _ (List.getElem_mem hi)
 rw [vc,tw hb.1 (by omega)]
 unfold gD
 rw [mt (jP q) hi,Int.toNat_natCast,ba h2]
theorem lG (q:QFor ts n atoms order) {b:List Int} (hb:b.length=n):gb n order (f7 order b)=b:=by
 refine List.ext_getElem (by unfold gb;rw [List.length_map,kL,hb]) fun i h1 h2=>?_
 rw [yG,oE q (by omega) (by omega)]
 unfold at0
 rw [Int.toNat_natCast,ba h2]
theorem kt {α β:Type} {f:α→β}:∀ {l:List α},l.Nodup→(∀ x∈l,∀ y∈l,f x=f y→x=y)→(l.map f).Nodup
 | [],_,_=>List.nodup_nil
 | x :: l,h,hf=>by
  obtain ⟨h1,h2⟩:=List.nodup_cons.1 h
  rw [List.map_cons,List.nodup_cons]
  refine ⟨fun hm=>?_,kt h2 fun y hy z hz=>hf y (List.mem_cons_of_mem _ hy) z (List.mem_cons_of_mem _ hz)⟩
  obtain ⟨y,hy,e⟩:=List.mem_map.1 hm
  have:=hf y (List.mem_cons_of_mem _ hy) x List.mem_cons_self e
  exact h1 (by rw [← this];exact hy)
theorem wa (q:QFor ts n atoms order) {r:List Int} (hr:r∈(be (bh ts order atoms) n []).1):gb n order r∈l8V ts atoms (List.replicate n (-1)):=by
 obtain ⟨h1,h2⟩:=(lz q).1 hr
 exact (nl q).2 ⟨by unfold gb;rw [List.length_map,kL],h2.congr q fun v v0 v1=>(tw v0 v1).symm⟩
theorem vS (q:QFor ts n atoms order) {b:List Int} (hb:b∈l8V ts atoms (List.replicate n (-1))):f7 order b∈(be (bh ts order atoms) n []).1:=by
 obtain ⟨h1,h2⟩:=(nl q).1 hb
 exact (lz q).2 ⟨by unfold f7;rw [List.length_map,q.ol],h2.congr q fun v v0 v1=>(oE q v0 v1).symm⟩
theorem vo (q:QFor ts n atoms order) {S:aI} (hS:S.Nodup) (hm:∀ b,b∈S↔b∈l8V ts atoms (List.replicate n (-1))):S.length=(be (bh ts order atoms) n []).1.length:=by
 have hW:=fM (iw (g8 q) q.n5).2.2
 refine Nat.le_antisymm ?_ ?_
 ·have h1:=kt (f:=f7 order) hS fun x hx y hy e=>by
   have e1:=lG q ((nl q).1 ((hm x).1 hx)).1
   have e2:=lG q ((nl q).1 ((hm y).1 hy)).1
   rw [← e1,← e2,e]
  have:=lR _ _ h1 fun x hx=>by
   obtain ⟨b,hb,rfl⟩:=List.mem_map.1 hx
   exact vS q ((hm b).1 hb)
  rwa [List.length_map] at this
 ·have h1:=kt (f:=gb n order) hW fun x hx y hy e=>by
   have e1:=jI q ((lz q).1 hx).1
   have e2:=jI q ((lz q).1 hy).1
   rw [← e1,← e2,e]
  have:=lR _ _ h1 fun x hx=>by
   obtain ⟨b,hb,rfl⟩:=List.mem_map.1 hx
   exact (hm _).2 (wa q hb)
  rwa [List.length_map] at this
end
theorem vn {n:Int} {rows:aI} (h0:0≤n∧n≤5) (hl:rows.length≤1048576) (hf:∀ r∈rows,(r.length:Int)=n∧aZ r=true):io n rows=bif decide ((bN 20 rows).length≤4000) then ((n,bN 20 rows),true) else kY:=by
 have hfit:kR n rows=true:=by
  unfold kR
  rw [List.all_eq_true]
  intro r hr
  rw [Bool.and_eq_true,decide_eq_true_eq]
  exact hf r hr
 unfold io
 rw [hfit,Bool.true_and]
 by_cases h:(bN 20 rows).length≤4000
 ·rw [decide_eq_true h,pv h0 h (fun r hr=>hf r ((iu _ _ _).1 hr)) (iV 20 rows (by omega))]
 ·rw [decide_eq_false h]
  cases hv:bi n (bN 20 rows) with
  | false=>rfl
  | true=>exact absurd (bJ hv).2.2.1 h
def jo (ts:List aU) (n:Int) (atoms:List aW):aI:=l8V ts atoms (List.replicate n.toNat (-1))
def xl (ts:List aU) (n:Int) (atoms:List aW) (out:List Int):Int × aI :=
 bif eF ts n atoms out then (bif decide ((bN 20 (jo ts n atoms)).length≤4000) then (n,bN 20 (jo ts n atoms)) else (0,[])) else (0,[])
theorem CN {ts:List aU} {n:Int} {atoms:List aW} {out:List Int} (h:eF ts n atoms out=true):∃ m:Nat,n=(m:Int)∧QFor ts m atoms (eG m):=by
 have hq:=h
 unfold eF at hq
 rw [Bool.and_eq_true] at hq
 obtain ⟨n1,n5,_,_⟩:=mI hq.1
 obtain ⟨m,e,q⟩:=vY h (order:=eG n.toNat) (by rw [kL];omega) (by have:=zJ n.toNat;rwa [show ((n.toNat:Nat):Int)=n by omega] at this)
 subst e
 exact ⟨m,rfl,q⟩
theorem s8 {ts:List aU} {n:Nat} {atoms:List aW} {order:List Int} (q:QFor ts n atoms order) {b:List Int} (hb:b∈jo ts n atoms):(b.length:Int)=n∧aZ b=true:=by
 obtain ⟨h1,h2⟩:=(nl q).1 hb
 refine ⟨by omega,?_⟩
 unfold aZ
 rw [List.all_eq_true]
 intro y hy
 obtain ⟨i,hi,rfl⟩:=List.getElem_of_mem hy
 have:=xI q h2 (v:=(i:Int)) (by omega) (by omega)
 unfold at0 at this
 rw [Int.toNat_natCast,ba hi] at this
 exact cT.2 this
theorem o9 {ts:List aU} {n:Nat} {atoms:List aW} {order:List Int} (q:QFor ts n atoms order):(jo ts n atoms).length≤65536:=by
 have h:=uf (ts:=ts) (l:=atoms) (row:=List.replicate n (-1)) (nY q)
 have h4:=q.a4
 have:16 ^ atoms.length≤16 ^ 4:=Nat.pow_le_pow_right (by decide) h4
 exact Nat.le_trans h this
section
variable {N:Nat}
theorem yU {ts:List aU} {n idx arity:Int} {atoms:List aW} {out row0:List Int} {acc rel:aI} {i a:Nat} {rec:(List (ByteArray × (Int × List (List Int))))→Int→(List (ByteArray × List Int))→(List Int)→Int→(List Int)→Option (List (List Int))} (hi:i<rel.length) (ha:a<atoms.length) (hid:idx=(a:Int)) (har:arity=(atoms[a].2.length:Int)) (hl:rel[i].length=atoms[a].2.length) (h5:atoms[a].2.length≤1000) :
  ∀ (m k f:Nat) (row:List Int),k+m=atoms[a].2.length→m+1<f→(∀ v∈atoms[a].2,0≤v∧v<(row.length:Int)) →
  (∀ row',iN atoms[a].2 rel[i] m k row=some row'→dJ rec N f idx row0 ts n atoms out acc arity rel (i:Int) row true (k:Int)=some (row',true,arity)) ∧
  (iN atoms[a].2 rel[i] m k row=none→∃ r j,dJ rec N f idx row0 ts n atoms out acc arity rel (i:Int) row true (k:Int)=some (r,false,j)):=by
 intro m
 induction m with
 | zero =>
  intro k f row hk hf _
  obtain ⟨f,rfl⟩:∃ g,f=g+1:=⟨f-1,by omega⟩
  refine ⟨fun row' h=>?_,fun h=>by unfold iN at h;cases h⟩
  unfold iN at h
  obtain rfl:=Option.some.inj h
  rw [dJ,decide_eq_false (by omega),cond_false,show (k:Int)=arity by omega]
 | succ m ih =>
  intro k f row hk hf hb
  obtain ⟨f,rfl⟩:∃ g,f=g+1:=⟨f-1,by omega⟩
  have hkv:k<atoms[a].2.length:=by omega
  have hkt:k<rel[i].length:=by omega
  obtain ⟨hv0,hv1⟩:=hb _ (List.getElem_mem hkv)
  have hb':∀ x,∀ v∈atoms[a].2,0≤v∧v<((row.set (atoms[a].2[k]).toNat x).length:Int):=fun x v hv=>by rw [List.length_set];exact hb v hv
  have eo:row[(atoms[a].2[k]).toNat]'(by omega)=at0 row atoms[a].2[k]:=by unfold at0;rw [ba]
  rw [dJ,decide_eq_true (show (k:Int)<arity by omega),cond_true,cond_true,hid,aR ha,bs,aR hkv,bs,gY hv0 hv1,bs,eo]
  have ih':=ih (k+1) f (row.set (atoms[a].2[k]).toNat rel[i][k]) (by omega) (by omega) (hb' _)
  rw [hid] at ih'
  unfold iN
  rw [ba hkv,ba hkt]
  by_cases h1:at0 row atoms[a].2[k]=-1
  ·rw [show (at0 row atoms[a].2[k] == -1)=true by rw [h1];rfl,cond_true,aR hi,bs,aR hkt,bs,bs,l8 hv0 hv1,bs,ad1 (by omega),bs,if_pos (.inl h1)]
   exact ih'
  ·rw [show (at0 row atoms[a].2[k] == -1)=false by simpa using h1,cond_false,bs,aR hi,bs,aR hkt,bs,bs,aR hkt,bs,bs,l8 hv0 hv1,bs,ad1 (by omega),bs]
   by_cases h2:at0 row atoms[a].2[k]=rel[i][k]
   ·rw [show (at0 row atoms[a].2[k] == rel[i][k])=true by simpa using h2,if_pos (.inr h2)]
    exact ih'
   ·rw [show (at0 row atoms[a].2[k] == rel[i][k])=false by simpa using h2,if_neg (fun h=>by rcases h with h | h;exact h1 h;exact h2 h)]
    refine ⟨fun row' h=>(by cases h),fun _=>?_⟩
    obtain ⟨f,rfl⟩:∃ g,f=g+1:=⟨f-1,by omega⟩
    rw [dJ]
    by_cases hlt:((k+1:Nat):Int)<arity
    ·rw [decide_eq_true hlt,cond_true,cond_false];exact ⟨_,_,rfl⟩
    ·rw [decide_eq_false hlt,cond_false];exact ⟨_,_,rfl⟩
def nZ (ts:List aU) (l:List aW) (vs row t:List Int):aI:=match iN vs t vs.length 0 row with | some row'=>l8V ts l row' | none=>[]
theorem zE {ts:List aU} {atoms:List aW} {a:Nat} (h:a<atoms.length) {row:List Int}:l8V ts (atoms.drop a) row=(dD ts atoms[a]).flatMap (nZ ts (atoms.drop (a+1)) atoms[a].2 row):=by
 rw [List.drop_eq_getElem_cons h,l8V];rfl
theorem xG {M:Nat} (hM:1073741825≤M) {ts:List aU} {n:Nat} {atoms:List aW} {order out:List Int} (q:QFor ts n atoms order) {a:Nat} (hal:a<atoms.length) {row:List Int} (hr:row.length=n)
  {rec:(List (ByteArray × (Int × List (List Int))))→Int→(List (ByteArray × List Int))→(List Int)→Int→(List Int)→Option (List (List Int))} (hrec:∀ row':List Int,row'.length=n→rec ts (n:Int) atoms out ((a+1:Nat):Int) row'=some (l8V ts (atoms.drop (a+1)) row')) {arity:Int} (har:arity=(atoms[a].2.length:Int)) :
  ∀ (d i k:Nat),i+d=(dD ts atoms[a]).length→d<k→fE rec M k (a:Int) row ts (n:Int) atoms out (((dD ts atoms[a]).take i).flatMap (nZ ts (atoms.drop (a+1)) atoms[a].2 row)) arity (dD ts atoms[a]) (i:Int)=some (l8V ts (atoms.drop a) row,((dD ts atoms[a]).length:Int)):=by
 have hm:=List.getElem_mem hal
 have h5:=q.n5
 have h4:=q.a4
 obtain ⟨hl5,hl1,hv⟩:=q.al _ hm
 have h16:(dD ts atoms[a]).length≤16:=nY q _ hm
 have hrest:∀ row',(l8V ts (atoms.drop (a+1)) row').length≤65536:=fun row'=>by
  have h:=uf (ts:=ts) (l:=atoms.drop (a+1)) (row:=row') fun a' h'=>nY q a' (List.mem_of_mem_drop h')
  have:16 ^ (atoms.drop (a+1)).length≤16 ^ 4:=Nat.pow_le_pow_right (by decide) (by rw [List.length_drop];omega)
  exact Nat.le_trans h this
 have hput:∀ t,(nZ ts (atoms.drop (a+1)) atoms[a].2 row t).length≤65536:=fun t=>by
  unfold nZ
  cases iN atoms[a].2 t atoms[a].2.length 0 row with
  | none=>exact Nat.zero_le _
  | some row'=>exact hrest row'
 have e1:ad (a:Int) 1=some ((a+1:Nat):Int):=ad1 (by omega)
 intro d
 induction d with
 | zero =>
  intro i k hi hk
  obtain ⟨k,rfl⟩:∃ g,k=g+1:=⟨k-1,by omega⟩
  rw [fE,dge (by omega),cond_false,show i=(dD ts atoms[a]).length by omega,List.take_length,zE hal]
 | succ d ih =>
  intro i k hi hk
  obtain ⟨k,rfl⟩:∃ g,k=g+1:=⟨k-1,by omega⟩
  have hil:i<(dD ts atoms[a]).length:=by omega
  have hacc:=jw hput ((dD ts atoms[a]).take i)
  rw [List.length_take] at hacc
  have hrow:=(kK q hm (List.getElem_mem hil)).1
  have ih':=ih (i+1) k (by omega) (by omega)
  rw [List.take_succ_eq_append_getElem hil,List.flatMap_append,List.flatMap_cons,List.flatMap_nil,List.append_nil] at ih'
  obtain ⟨w1,w2⟩:=yU (N:=M) (ts:=ts) (n:=(n:Int)) (out:=out) (row0:=row) (acc:=((dD ts atoms[a]).take i).flatMap (nZ ts (atoms.drop (a+1)) atoms[a].2 row)) (rec:=rec) hil hal rfl har hrow (by omega) atoms[a].2.length 0 M row (by omega) (by omega) (fun v h=>by rw [hr];exact hv v h)
  rw [fE,dlt hil,cond_true,bF (by decide) (by simp;omega),bs,List.nil_append]
  cases he:iN atoms[a].2 (dD ts atoms[a])[i] atoms[a].2.length 0 row with
  | some row' =>
   have w1':=w1 row' he
   rw [show ((0:Nat):Int)=0 from rfl] at w1'
   have hs:=ti hrow (ul (kK q hm (List.getElem_mem hil)).2) atoms[a].2.length 0 row (by omega) (fun v h=>by rw [hr];exact hv v h)
   rw [he] at hs
   have hlen:row'.length=n:=by rw [hs.1,hr]
   have ep:nZ ts (atoms.drop (a+1)) atoms[a].2 row (dD ts atoms[a])[i]=l8V ts (atoms.drop (a+1)) row':=by unfold nZ;rw [he]
   rw [ep] at ih'
   rw [w1',bs,lpB]
   show (bif true then _ else _)=_
   rw [cond_true,e1,bs,hrec row' hlen,bs,bF (by decide) (by have:=hrest row';have:min i (dD ts atoms[a]).length*65536≤16*65536:=Nat.mul_le_mul_right _ (by omega);omega),bs,ad1 (by omega),bs,ih']
  | none =>
   obtain ⟨r,j,w2'⟩:=w2 he
   rw [show ((0:Nat):Int)=0 from rfl] at w2'
   have ep:nZ ts (atoms.drop (a+1)) atoms[a].2 row (dD ts atoms[a])[i]=[]:=by unfold nZ;rw [he]
   rw [ep,List.append_nil] at ih'
   rw [w2',bs,lpB]
   show (bif false then _ else _)=_
   rw [cond_false,ad1 (by omega),bs,ih']
theorem yj (hN:1073741824≤N) {ts:List aU} {n:Nat} {atoms:List aW} {order out:List Int} (q:QFor ts n atoms order) (ht:lI ts):∀ (d a M:Nat),a+d=atoms.length→1073741826+d≤M→∀ row:List Int,row.length=n→ew M ts (n:Int) atoms out (a:Int) row=some (l8V ts (atoms.drop a) row):=by
 intro d
 induction d with
 | zero =>
  intro a M ha hM row hr
  obtain ⟨M,rfl⟩:∃ M',M=M'+1:=⟨M-1,by omega⟩
  have h5:=q.n5
  rw [ew,show ((a:Int) == (atoms.length:Int))=true by simp;omega,cond_true,bF (by decide) (by simp;omega),bs,List.drop_of_length_le (by omega)]
  rfl
 | succ d ih =>
  intro a M ha hM row hr
  obtain ⟨M,rfl⟩:∃ M',M=M'+1:=⟨M-1,by omega⟩
  have hal:a<atoms.length:=by omega
  obtain ⟨hf1,hf2⟩:=q.af _ (List.getElem_mem hal)
  have hL:=xG (M:=M) (by omega) (out:=out) q hal hr (rec:=ew M) (fun row' h=>ih (a+1) M (by omega) (by omega) row' h) hf2 (dD ts atoms[a]).length 0 M (by omega) (by have:=nY q _ (List.getElem_mem hal);omega)
  rw [List.take_zero,List.flatMap_nil,show ((0:Nat):Int)=0 from rfl] at hL
  unfold dD at hL
  rw [ew,show ((a:Int) == (atoms.length:Int))=false by simp;omega,cond_false,aR hal,bs,hP (N:=M) (by omega) ht,bs,hL,bs,lpB]
theorem xp (m:Nat) {ts:List aU} {atoms:List aW} {out:List Int} (hN:1073741824≤N) (hm:m≤1000):dn N N ts (m:Int) atoms out 0 [] []=some (List.replicate m (-1)):=by
 have key:∀ (d k j:Nat),j+d=m→d<k→dn N k ts (m:Int) atoms out 0 [] (List.replicate j (-1))=some (List.replicate m (-1)):=by
  intro d
  induction d with
  | zero =>
   intro k j hj hk
   obtain ⟨k,rfl⟩:∃ g,k=g+1:=⟨k-1,by omega⟩
   rw [dn,List.length_replicate,dge (by omega),cond_false,show j=m by omega]
  | succ d ih =>
   intro k j hj hk
   obtain ⟨k,rfl⟩:∃ g,k=g+1:=⟨k-1,by omega⟩
   rw [dn,List.length_replicate,dlt (by omega),cond_true,bF (by decide) (by simp;omega),bs,← List.replicate_succ']
   exact ih k (j+1) (by omega) (by omega)
 exact key m N 0 (by omega) (by omega)
theorem sB (hM:1073742848≤N) {ts:List aU} {n:Int} {atoms:List aW} {out:List Int} (ht:lI ts) (ha:d8 atoms) (ho:okI out):gA N ts n atoms out=some (xl ts n atoms out):=by
 have hN:1073741824≤N:=by omega
 unfold gA xl
 rw [lb hN ht ha ho,bs]
 cases h:eF ts n atoms out with
 | false=>rfl
 | true =>
  obtain ⟨m,rfl,q⟩:=CN h
  have h5:=q.n5
  have hL:=xp (N:=N) m (ts:=ts) (atoms:=atoms) (out:=out) hN (by omega)
  rw [cond_true,cond_true,hL,bs]
  unfold lpB
  dsimp only
  have hw:=yj hN (out:=out) q ht atoms.length 0 N (by omega) (by have:=q.a4;omega) (List.replicate m (-1)) (by simp)
  have hw':ew N ts (m:Int) atoms out 0 (List.replicate m (-1))=some (jo ts m atoms):=hw
  have hbl:=o9 q
  have hrow:=fun b hb=>s8 q (b:=b) hb
  rw [hw',bs,fw hM ⟨by omega,fun r hr=>⟨by have:=(hrow r hr).1;omega,fun _ _=>trivial⟩⟩,bs,vn (by omega) (by omega) hrow]
  cases decide ((bN 20 (jo ts (m:Int) atoms)).length≤4000) <;> rfl
end
section
variable {ts:List aU} {n:Int} {atoms:List aW} {out order:List Int}
theorem AW (h:(dS ts n atoms out order).2.2=true):∃ m:Nat,n=(m:Int)∧QFor ts m atoms order∧okQ ts n atoms out order=true∧(dS ts n atoms out order).1=(n,(be (bh ts order atoms) m []).1)∧(be (bh ts order atoms) m []).1.length≤4000:=by
 unfold dS at h ⊢
 cases ho:okQ ts n atoms out order with
 | false=>rw [ho] at h;cases h
 | true =>
  obtain ⟨m,rfl,q,_⟩:=tO ho
  rw [ho,cond_true] at h
  rw [cond_true]
  refine ⟨m,rfl,q,rfl,?_⟩
  cases he:iQ (cg ts order atoms) with
  | true =>
   rw [sx q,xe q he]
   exact ⟨rfl,Nat.zero_le _⟩
  | false =>
   rw [he,cond_false] at h
   rw [cond_false]
   unfold ig at h ⊢
   cases hk:decide (((be (bh ts order atoms) (m:Int).toNat []).1.length:Int)≤4000) with
   | false=>rw [hk] at h;cases h
   | true =>
    rw [decide_eq_true_eq] at hk
    exact ⟨rfl,by have:((be (bh ts order atoms) m []).1.length:Int)≤4000:=hk;omega⟩
theorem Bg (h:okQ ts n atoms out order=true):eF ts n atoms out=true:=by
 unfold okQ at h
 rw [Bool.and_eq_true] at h
 exact h.1
theorem yT {m:Nat} (q:QFor ts m atoms order) (hq:eF ts (m:Int) atoms out=true) (hl:(be (bh ts order atoms) m []).1.length≤4000) :
  xl ts (m:Int) atoms out=((m:Int),bN 20 (jo ts (m:Int) atoms))∧(bN 20 (jo ts (m:Int) atoms)).length=(be (bh ts order atoms) m []).1.length∧bi (m:Int) (bN 20 (jo ts (m:Int) atoms))=true:=by
 have hbl:=o9 q
 have ha:=iV 20 (jo ts (m:Int) atoms) (by omega)
 have hlen:=vo q (fM ha) fun b=>iu 20 _ b
 have h5:=q.n5
 refine ⟨?_,hlen,pv (by omega) (by omega) (fun r hr=>s8 q ((iu _ _ _).1 hr)) ha⟩
 unfold xl
 rw [hq,cond_true,decide_eq_true (by omega),cond_true]
end
def lH (v:Int):aN:=([v],[0])
def pot (D:List Int) (ns:List aN):Nat:=2*ns.length+2*(D.filter fun v=>decide (lH v∉ns.drop 1)).length
theorem py {α:Type} {p q:α→Bool}:∀ {l:List α},(∀ a∈l,p a=true→q a=true)→(l.filter p).length≤(l.filter q).length
 | [],_=>Nat.le_refl _
 | a :: l,h=>by
  have h1:=py (l:=l) fun b hb=>h b (List.mem_cons_of_mem _ hb)
  rw [List.filter_cons,List.filter_cons]
  cases hp:p a with
  | false =>
   rw [if_neg (by decide)]
   split
   ·rw [List.length_cons];omega
   ·exact h1
  | true =>
   rw [h a List.mem_cons_self hp,if_pos rfl,if_pos rfl,List.length_cons,List.length_cons];omega
theorem tp {α:Type} {p q:α→Bool} {v:α} (hp:p v=false) (hq:q v=true):∀ {l:List α},(∀ a∈l,p a=true→q a=true)→v∈l→(l.filter p).length+1≤(l.filter q).length
 | [],_,hv=>by cases hv
 | a :: l,h,hv=>by
  have h1:=py (p:=p) (q:=q) (l:=l) fun b hb=>h b (List.mem_cons_of_mem _ hb)
  rw [List.filter_cons,List.filter_cons]
  rcases List.mem_cons.1 hv with rfl | hv
  ·rw [hp,hq,if_neg (by decide),if_pos rfl,List.length_cons];omega
  ·have h2:=tp hp hq (l:=l) (fun b hb=>h b (List.mem_cons_of_mem _ hb)) hv
   cases hpa:p a with
   | false =>
    rw [if_neg (by decide)]
    split
    ·rw [List.length_cons];omega
    ·exact h2
   | true =>
    rw [h a List.mem_cons_self hpa,if_pos rfl,if_pos rfl,List.length_cons,List.length_cons];omega
theorem sU {ns:List aN} {x:aN}:∀ f i,jH ns x f i=none→∀ j,i≤j→j<i+f→ns.getD j ([],[])≠x
 | 0,i,_,j,h1,h2=>by omega
 | f+1,i,h,j,h1,h2=>by
  unfold jH at h
  split at h
  ·cases h
  ·rename_i hne
   by_cases e:j=i
   ·rw [e];exact hne
   ·exact sU f (i+1) h j (by omega) (by omega)
theorem uJ {ns:List aN} {x:aN} (h:1≤ns.length):(ns++[x]).drop 1=ns.drop 1++[x]:=by
 cases ns with
 | nil=>simp at h
 | cons a l=>rfl
theorem sE {D:List Int} {ns:List aN} {x:aN} (h:1≤ns.length):pot D (eW ns x).2≤pot D ns+2∧1≤(eW ns x).2.length:=by
 unfold eW
 split
 ·exact ⟨Nat.le_add_right _ _,h⟩
 ·show pot D (ns++[x])≤_∧1≤(ns++[x]).length
  refine ⟨?_,by simp⟩
  unfold pot
  rw [uJ h,List.length_append,List.length_singleton]
  have:=py (p:=fun v=>decide (lH v∉ns.drop 1++[x])) (q:=fun v=>decide (lH v∉ns.drop 1)) (l:=D) fun a _ h1=>by
   rw [decide_eq_true_eq] at h1 ⊢
   exact fun h2=>h1 (List.mem_append_left _ h2)
  omega
theorem Ab {D:List Int} {ns:List aN} {v:Int} (h:1≤ns.length) (hv:v∈D):pot D (eW ns (lH v)).2≤pot D ns:=by
 unfold eW
 split
 ·exact Nat.le_refl _
 ·rename_i hf
  have hn:=sU _ _ hf
  show pot D (ns++[lH v])≤_
  unfold pot
  rw [uJ h,List.length_append,List.length_singleton]
  have:=tp (v:=v) (p:=fun w=>decide (lH w∉ns.drop 1++[lH v])) (q:=fun w=>decide (lH w∉ns.drop 1)) (l:=D) (decide_eq_false (by simp)) (by
   rw [decide_eq_true_eq]
   intro hm
   obtain ⟨j,hj,e⟩:=List.getElem_of_mem hm
   rw [List.getElem_drop] at e
   rw [List.length_drop] at hj
   refine hn (1+j) (by omega) (by omega) ?_
   rw [List.getD_eq_getElem?_getD,List.getElem?_eq_getElem (by omega),Option.getD_some]
   exact e) (fun a _ h1=>by
   rw [decide_eq_true_eq] at h1 ⊢
   exact fun h2=>h1 (List.mem_append_left _ h2)) hv
  omega
theorem sZ {rec:List aN→List (List Int)→Int × List aN} {n d:Nat} (hdn:d<n) {rows:List (List Int)} {pre:List Int} (ha:dO rows) (hrow:∀ r∈rows,r.length=n∧r.take d=pre) {C:List Int} (hC:∀ r∈rows,r.getD d 0∈C) :
  ∀ f ns vals chs i,eh vals→(∀ v∈vals,v∈C)→(∀ v∈vals,∀ j,i≤j→j<rows.length→v<(rows.getD j []).getD d 0) →
   eh (bE rec rows d f ns vals chs i).2.1∧∀ v∈(bE rec rows d f ns vals chs i).2.1,v∈C
 | 0,ns,vals,chs,i,hv,hc,hb=>by unfold bE;exact ⟨hv,hc⟩
 | f+1,ns,vals,chs,i,hv,hc,hb=>by
  unfold bE
  split
  ·rename_i hlt
   have hgb:=j8 (d:=d) hlt
   refine sZ hdn ha hrow hC f _ _ _ _ ?_ (fun v hv'=>?_) (fun v hv' j h1 h2=>?_)
   ·refine List.pairwise_append.2 ⟨hv,List.pairwise_singleton _ _,fun a h1 b h2=>?_⟩
    rw [List.mem_singleton] at h2;subst h2
    exact hb a h1 i (Nat.le_refl _) hlt
   ·rcases List.mem_append.1 hv' with h | h
    ·exact hc v h
    ·rw [List.mem_singleton] at h;subst h
     rw [uy hlt]
     exact hC _ (List.getElem_mem hlt)
   ·rcases List.mem_append.1 hv' with h | h
    ·exact hb v h j (by omega) h2
    ·rw [List.mem_singleton] at h;subst h
     have hs:=o5 (rows:=rows) (d:=d) (v:=(rows.getD i []).getD d 0) (rows.length-i) i (by show dB rows d i<_;omega)
     have hs:(rows.getD (dB rows d i) []).getD d 0≠(rows.getD i []).getD d 0:=hs
     have l1:=pH hdn ha hrow (show i≤dB rows d i by omega) (by omega)
     have l2:=pH hdn ha hrow h1 h2
     omega
  ·exact ⟨hv,hc⟩
theorem sW:∀ {l D:List Int},l.Nodup→(∀ v∈l,v∈D)→l.length≤D.length
 | [],_,_,_=>Nat.zero_le _
 | v :: l,D,hn,hs=>by
  obtain ⟨h1,h2⟩:=List.nodup_cons.1 hn
  have hv:=hs v List.mem_cons_self
  have:=sW (l:=l) (D:=D.erase v) h2 fun w hw=>by
   have hne:w≠v:=fun e=>h1 (by rw [← e];exact hw)
   exact (List.mem_erase_of_ne hne).2 (hs w (List.mem_cons_of_mem _ hw))
  rw [List.length_erase_of_mem hv] at this
  have hp:0<D.length:=List.length_pos_of_mem hv
  rw [List.length_cons];omega
theorem pf {D:List Int} {rec:List aN→List (List Int)→Int × List aN} {n d t:Nat} (hdn:d<n) {rows:List (List Int)} {pre:List Int}
  (hr:∀ ns rs pre,1≤ns.length→rs≠[]→rs.Sublist rows→(∀ r∈rs,r.length=n∧r.take (d+1)=pre)→pot D (rec ns rs).2≤pot D ns+rs.length+2*t∧1≤(rec ns rs).2.length)
  (hrow:∀ r∈rows,r.length=n∧r.take d=pre):∀ f ns vals chs i,1≤ns.length→i≤rows.length →
  pot D (bE rec rows d f ns vals chs i).1+2*t*vals.length≤pot D ns+(rows.length-i)+2*t*(bE rec rows d f ns vals chs i).2.1.length∧1≤(bE rec rows d f ns vals chs i).1.length
 | 0,ns,vals,chs,i,h1,hi=>by
  unfold bE
  refine ⟨?_,h1⟩
  show pot D ns+2*t*vals.length≤pot D ns+(rows.length-i)+2*t*vals.length
  omega
 | f+1,ns,vals,chs,i,h1,hi=>by
  unfold bE
  split
  ·rename_i hlt
   obtain ⟨g1,g2⟩:=j8 (d:=d) hlt
   obtain ⟨q1,q2⟩:=hr ns _ _ h1 (ud (d:=d) hlt) pF (sM hdn hlt hrow)
   rw [sN g2] at q1
   obtain ⟨p1,p2⟩:=pf hdn hr hrow f (rec ns ((rows.take (dB rows d i)).drop i)).2 (vals++[(rows.getD i []).getD d 0]) (chs++[(rec ns ((rows.take (dB rows d i)).drop i)).1]) (dB rows d i) q2 g2
   refine ⟨?_,p2⟩
   rw [List.length_append,List.length_singleton,Nat.mul_add,Nat.mul_one] at p1
   omega
  ·refine ⟨?_,h1⟩
   show pot D ns+2*t*vals.length≤pot D ns+(rows.length-i)+2*t*vals.length
   omega
def tN:Nat→Nat
 | 0=>0
 | 1=>0
 | e+2=>10*tN (e+1)+1
theorem rW {D:List Int} {n:Nat} {C:Nat→List Int} (hC:∀ j,(C j).length≤10) (hD:C (n-1)=D):∀ (e d:Nat),d+(e+1)=n→∀ ns rs pre,1≤ns.length→rs≠[]→dO rs→(∀ r∈rs,r.length=n∧r.take d=pre)→(∀ r∈rs,∀ j,j<n→r.getD j 0∈C j) →
  pot D (bu (e+1) ns rs d).2≤pot D ns+rs.length+2*tN (e+1)∧1≤(bu (e+1) ns rs d).2.length
 | 0,d,hd,ns,rs,pre,h1,hne,ha,hrow,hc=>by
  obtain ⟨p1,p2⟩:=pf (D:=D) (rec:=fun ns rs=>bu 0 ns rs (d+1)) (n:=n) (d:=d) (t:=0) (by omega) (rows:=rs) (pre:=pre) (fun ns rs pre h _ _ _=>⟨by show pot D ns≤_;omega,h⟩) hrow rs.length ns [] [] 0 h1 (by omega)
  have hloop:∀ f vals chs i,(bE (fun ns rs=>bu 0 ns rs (d+1)) rs d f ns vals chs i).1=ns:=by
   intro f
   induction f with
   | zero=>intro vals chs i;rfl
   | succ f ih =>
    intro vals chs i
    unfold bE
    split
    ·exact ih _ _ _
    ·rfl
  unfold bu
  by_cases hl:rs.length=1
  ·obtain ⟨r,rfl⟩:∃ r,rs=[r]:=List.length_eq_one_iff.1 hl
   have e1:bE (fun ns rs=>bu 0 ns rs (d+1)) [r] d [r].length ns [] [] 0=(ns,lH (r.getD d 0)):=by
    show bE (fun ns rs=>bu 0 ns rs (d+1)) [r] d 1 ns [] [] 0=_
    simp [bE,lH,bu]
   rw [e1]
   have hv:r.getD d 0∈D:=by
    have:=hc r List.mem_cons_self d (by omega)
    rw [← hD]
    rw [show n-1=d by omega];exact this
   have h3:=Ab h1 hv
   have h4:=(sE (D:=D) (x:=lH (r.getD d 0)) h1).2
   exact ⟨Nat.le_trans h3 (by omega),h4⟩
  ·have h2:2≤rs.length:=by
    have:rs.length≠0:=fun h=>hne (List.length_eq_zero_iff.1 h)
    omega
   obtain ⟨q1,q2⟩:=sE (D:=D) (ns:=(bE (fun ns rs=>bu 0 ns rs (d+1)) rs d rs.length ns [] [] 0).1) (x:=(bE (fun ns rs=>bu 0 ns rs (d+1)) rs d rs.length ns [] [] 0).2) p2
   rw [hloop] at q1
   rw [hloop]
   rw [hloop] at q2
   exact ⟨Nat.le_trans q1 (by omega),q2⟩
 | e+1,d,hd,ns,rs,pre,h1,hne,ha,hrow,hc=>by
  obtain ⟨p1,p2⟩:=pf (D:=D) (rec:=fun ns rs=>bu (e+1) ns rs (d+1)) (n:=n) (d:=d) (t:=tN (e+1)) (by omega) (rows:=rs) (pre:=pre) (fun ns' rs' pre' k1 k2 k3 k4 =>
   rW hC hD e (d+1) (by omega) ns' rs' pre' k1 k2 (List.Pairwise.sublist k3 ha) k4 (fun r hr j hj=>hc r (k3.subset hr) j hj)) hrow rs.length ns [] [] 0 h1 (by omega)
  obtain ⟨a1,a2⟩:=sZ (rec:=fun ns rs=>bu (e+1) ns rs (d+1)) (n:=n) (d:=d) (by omega) ha hrow (C:=C d) (fun r hr=>hc r hr d (by omega)) rs.length ns [] [] 0 List.Pairwise.nil (by simp) (by simp)
  have a3:=sW (vT a1) a2
  have a4:=hC d
  have a5:=Nat.mul_le_mul_left (2*tN (e+1)) (Nat.le_trans a3 a4)
  show pot D (bu (e+2) ns rs d).2≤pot D ns+rs.length+2*(10*tN (e+1)+1)∧_
  unfold bu
  obtain ⟨q1,q2⟩:=sE (D:=D) (ns:=(bE (fun ns rs=>bu (e+1) ns rs (d+1)) rs d rs.length ns [] [] 0).1) (x:=(bE (fun ns rs=>bu (e+1) ns rs (d+1)) rs d rs.length ns [] [] 0).2) p2
  refine ⟨?_,q2⟩
  rw [List.length_nil,Nat.mul_zero] at p1
  omega
theorem CH:∀ {n:Nat},n≤5→tN n≤1111
 | 0,_=>by decide
 | 1,_=>by decide
 | 2,_=>by decide
 | 3,_=>by decide
 | 4,_=>by decide
 | 5,_=>by decide
 | n+6,h=>by omega
theorem xh {n:Nat} {rows:List (List Int)} (h1:1≤n) (hn5:n≤5) (hl:rows.length≤4000) (ha:dO rows) (hrow:∀ r∈rows,r.length=n) {C:Nat→List Int} (hC:∀ j,(C j).length≤10) (hc:∀ r∈rows,∀ j,j<n→r.getD j 0∈C j):(dj n rows).length≤4000:=by
 unfold dj
 by_cases h:rows=[]
 ·rw [if_pos h];show 2≤4000;omega
 ·rw [if_neg h]
  obtain ⟨e,rfl⟩:∃ e,n=e+1:=⟨n-1,by omega⟩
  have hp:=(rW (D:=C (e+1-1)) (n:=e+1) hC rfl e 0 (by omega) zN rows [] (by decide) h ha (fun r hr=>⟨hrow r hr,rfl⟩) hc).1
  have ht:=CH hn5
  have h0:pot (C (e+1-1)) zN≤22:=by
   unfold pot
   have:=List.length_filter_le (fun v=>decide (lH v∉zN.drop 1)) (C (e+1-1))
   have:=hC (e+1-1)
   have:zN.length=1:=rfl
   omega
  have h3:2*(bu (e+1) zN rows 0).2.length≤pot (C (e+1-1)) (bu (e+1) zN rows 0).2:=by unfold pot;omega
  show (bu (e+1) zN rows 0).2.length≤4000
  omega
theorem zG {ts:List aU} (h:DSm ts) (s:ByteArray):(b9 ts s).1.2.length≤10:=by
 unfold b9
 cases ms ts with
 | false=>exact Nat.zero_le _
 | true =>
  rw [cond_true]
  cases hf:ts.find? (fun t=>decide (t.1=s)) with
  | none=>exact Nat.zero_le _
  | some t=>exact (h.2 t (List.mem_of_find?_eq_some hf)).2.1
theorem xv {ts:List aU} {n:Nat} {atoms:List aW} {order:List Int} (hd:DSm ts) (q:QFor ts n atoms order):∃ C:Nat→List Int,(∀ j,(C j).length≤10)∧∀ r∈(be (bh ts order atoms) n []).1,∀ j,j<n→r.getD j 0∈C j:=by
 have key:∀ j:Nat,∃ L:List Int,L.length≤10∧(j<n→∀ r∈(be (bh ts order atoms) n []).1,r.getD j 0∈L):=fun j=>by
  by_cases hj:j<n
  ·have hjo:j<order.length:=by rw [q.ol];exact hj
   have hv:=(eT q.os).2 _ (List.getElem_mem hjo)
   obtain ⟨a,ha,hm⟩:=q.cov order[j] (by omega) (by omega)
   refine ⟨(dD ts a).map fun x=>x.getD (cd a.2 order[j]).toNat 0,by rw [List.length_map];exact zG hd a.1,fun _ r hr=>?_⟩
   obtain ⟨h1,h2⟩:=(lz q).1 hr
   refine List.mem_map.2 ⟨_,h2 a ha,?_⟩
   obtain ⟨i,e1,hi,e2⟩:=j0 hm
   rw [e1,Int.toNat_natCast,qI hi,e2]
   unfold gD
   rw [mt (jP q) hjo,Int.toNat_natCast]
  ·exact ⟨[],Nat.zero_le _,fun h=>absurd h hj⟩
 obtain ⟨C,hC⟩:=Classical.axiomOfChoice key
 exact ⟨C,fun j=>(hC j).1,fun r hr j hj=>(hC j).2 hj r hr⟩
theorem yo {ts:List aU} {n:Nat} {atoms:List aW} {order:List Int} (hd:DSm ts) (q:QFor ts n atoms order) (hl:(be (bh ts order atoms) n []).1.length≤4000):(dj n (be (bh ts order atoms) n []).1).length≤4000:=by
 obtain ⟨C,h1,h2⟩:=xv hd q
 obtain ⟨_,w2,w3⟩:=iw (g8 q) q.n5
 exact xh q.n1 q.n5 hl w3 (fun r hr=>(w2 r hr).1) h1 h2
theorem xb {ts:List aU} {n:Nat} {atoms:List aW} {order:List Int} (q:QFor ts n atoms order):d5 order=true:=by
 have h5:=q.n5
 unfold d5
 rw [q.ol,decide_eq_true (by omega),q.os];rfl
theorem rY {k:Int} (h:inR k 1 4=true):k=1∨k=2∨k=3∨k=4:=by have:=cT.1 h;omega
theorem mP:clp 0=0:=by decide
theorem zT:clp 1=1:=by decide
theorem zW:clp 1000000000=1000000000:=by decide
theorem zU {a:Int} (h:0≤a∧a≤1000000000):imn 1000000000 a=a:=by unfold imn;split <;> omega
theorem zR {a:Int} (h:0≤a):imx 0 a=a:=by unfold imx;split <;> omega
theorem wt (a b:Int):cI 1 a b=clp (clp a+clp b):=by unfold cI;rw [if_pos rfl]
theorem wZ (a b:Int):cI 2 a b=imn (clp a) (clp b):=by unfold cI;rw [if_neg (by decide),if_pos rfl]
theorem wP (a b:Int):cI 3 a b=if 0<clp a∨0<clp b then 1 else 0:=by unfold cI;rw [if_neg (by decide),if_neg (by decide),if_pos rfl]
theorem xd (a b:Int):cI 4 a b=imx (clp a) (clp b):=by unfold cI;rw [if_neg (by decide),if_neg (by decide),if_neg (by decide),if_pos rfl]
theorem Cu (a b:Int):cx 1 a b=clp (clp a*clp b):=by unfold cx;rw [if_pos (.inl rfl)]
theorem Cw (a b:Int):cx 2 a b=clp (clp a+clp b):=by unfold cx;rw [if_neg (by decide),if_pos rfl]
theorem CE (a b:Int):cx 3 a b=if 0<clp a∧0<clp b then 1 else 0:=by unfold cx;rw [if_neg (by decide),if_neg (by decide),if_pos rfl]
theorem Cx (a b:Int):cx 4 a b=clp (clp a*clp b):=by unfold cx;rw [if_pos (.inr rfl)]
theorem xy:ci 1=0:=by unfold ci;rw [if_neg (by decide)]
theorem yQ:ci 2=1000000000:=by unfold ci;rw [if_pos rfl]
theorem xJ:ci 3=0:=by unfold ci;rw [if_neg (by decide)]
theorem xD:ci 4=0:=by unfold ci;rw [if_neg (by decide)]
theorem uo {k:Int} (hk:inR k 1 4=true) (a b:Int):cI k (ci k) (cI k a b)=cI k a b:=by
 have ha:=cr a;have hb:=cr b
 rcases rY hk with rfl | rfl | rfl | rfl
 ·have h:=cr (clp a+clp b)
  rw [xy,wt,wt,mP,Int.zero_add,cv h,cv h]
 ·have h:0≤imn (clp a) (clp b)∧imn (clp a) (clp b)≤1000000000:=by unfold imn;split <;> omega
  rw [yQ,wZ,wZ,zW,cv h,zU h]
 ·rw [xJ,wP,wP]
  by_cases x:0<clp a∨0<clp b
  ·rw [if_pos x,mP,zT,if_pos (by omega)]
  ·rw [if_neg x,mP,if_neg (by omega)]
 ·have h:0≤imx (clp a) (clp b)∧imx (clp a) (clp b)≤1000000000:=by unfold imx;split <;> omega
  rw [xD,xd,xd,mP,cv h,zR h.1]
theorem zg {k:Int} (hk:inR k 1 4=true) (a b:Int):cI k (ci k) (cx k a b)=cx k a b:=by
 rcases rY hk with rfl | rfl | rfl | rfl
 ·have h:=cr (clp a*clp b)
  rw [xy,Cu,wt,mP,Int.zero_add,cv h,cv h]
 ·have h:=cr (clp a+clp b)
  rw [yQ,Cw,wZ,zW,cv h,zU h]
 ·rw [xJ,CE,wP]
  by_cases x:0<clp a∧0<clp b
  ·rw [if_pos x,mP,zT,if_pos (by omega)]
  ·rw [if_neg x,mP,if_neg (by omega)]
 ·have h:=cr (clp a*clp b)
  rw [xD,Cx,xd,mP,cv h,zR h.1]
theorem ss {k:Int} (hk:inR k 1 4=true):cI k (ci k) (fO k)=fO k:=by
 rcases rY hk with rfl | rfl | rfl | rfl <;> decide
theorem zm {k:Int} (hk:inR k 1 4=true):cI k (ci k) (ci k)=ci k:=by
 rcases rY hk with rfl | rfl | rfl | rfl <;> decide
theorem mul_zero {k:Int} (hk:inR k 1 4=true) (c:Int):cx k c (ci k)=ci k:=by
 rw [oX,BA]
 rcases rY hk with rfl | rfl | rfl | rfl <;> decide
theorem one_mul {k:Int} (hk:inR k 1 4=true) (a b:Int):cx k (fO k) (cx k a b)=cx k a b:=by rw [wz,zg hk]
def n7 (k:Int) (l:List Int):Int:=l.foldr (cx k) (fO k)
theorem xV {k:Int} (hk:inR k 1 4=true) (l:List Int):cx k (fO k) (n7 k l)=n7 k l:=by
 cases l with
 | nil=>show cx k (fO k) (fO k)=fO k;rw [wz,ss hk]
 | cons a l=>exact one_mul hk _ _
theorem ql {k:Int} (hk:inR k 1 4=true):∀ (l:List Int) (s:Int),cx k s (fO k)=s→l.foldl (cx k) s=cx k s (n7 k l)
 | [],s,hs=>hs.symm
 | a :: l,s,hs=>by
  rw [List.foldl_cons,ql hk l _ (by rw [oX,one_mul hk]),nJ];rfl
theorem wl {k:Int} (hk:inR k 1 4=true) (l:List Int):l.foldl (cx k) (fO k)=n7 k l:=by
 rw [ql hk l _ (by rw [wz,ss hk]),xV hk]
theorem wX {k:Int} {l m:List Int} (h:l.Perm m):n7 k l=n7 k m :=
 List.Perm.foldr_eq' h (fun x _ y _ z=>by rw [← nJ,oX k y x,nJ]) _
def gX (k:Int):List Int→List Int→Int
 | v :: os,x :: xs=>cx k (vW k v x) (gX k os xs)
 | _,_=>fO k
theorem lQ (k:Int):∀ (os xs:List Int),gX k os xs=n7 k (List.zipWith (vW k) os xs)
 | [],_=>rfl
 | _ :: _,[]=>rfl
 | v :: os,x :: xs=>by rw [gX,lQ k os xs];rfl
def fP (k:Int) (os:List Int) (rows:List (List Int)):Int:=rows.foldl (fun s r=>cI k s (gX k os r)) (ci k)
theorem mS {k:Int} (hk:inR k 1 4=true) {os:List Int}:∀ (rows:List (List Int)) (s:Int),cI k (ci k) s=s→rows.foldl (fun s r=>cI k s (gX k os r)) s=cI k s (fP k os rows)
 | [],s,hs=>by rw [List.foldl_nil];show s=cI k s (ci k);rw [pj,hs]
 | r :: rows,s,hs=>by
  unfold fP
  rw [List.foldl_cons,List.foldl_cons,mS hk rows _ (uo hk _ _),mS hk rows _ (uo hk _ _),← lT,← lT,pj k s (ci k),hs]
theorem zM {k:Int} (hk:inR k 1 4=true) (os:List Int) (rows:List (List Int)):cI k (ci k) (fP k os rows)=fP k os rows:=by
 have:=mS hk (os:=os) rows (ci k) (zm hk)
 exact this.symm
theorem yW {k:Int} (hk:inR k 1 4=true) (os:List Int) (a b:List (List Int)):fP k os (a++b)=cI k (fP k os a) (fP k os b):=by
 have h:=mS hk (os:=os) b (fP k os a) (zM hk os a)
 rw [← h]
 unfold fP
 rw [List.foldl_append]
theorem zC {k:Int} (hk:inR k 1 4=true) (o v:Int) (os:List Int) (rows:List (List Int)):fP k (o :: os) (rows.map (v :: ·))=cx k (vW k o v) (fP k os rows):=by
 have key:∀ (rows:List (List Int)) (s:Int),(rows.map (v :: ·)).foldl (fun s r=>cI k s (gX k (o :: os) r)) (cx k (vW k o v) s)=cx k (vW k o v) (rows.foldl (fun s r=>cI k s (gX k os r)) s):=by
  intro rows
  induction rows with
  | nil=>intro s;rfl
  | cons r rows ih =>
   intro s
   rw [List.map_cons,List.foldl_cons,List.foldl_cons]
   show List.foldl _ (cI k (cx k (vW k o v) s) (cx k (vW k o v) (gX k os r))) _=_
   rw [← BX]
   exact ih _
 have:=key rows (ci k)
 rw [mul_zero hk] at this
 exact this
theorem x6 {k:Int} {os:List Int} {a b:List (List Int)} (h:a.Perm b):fP k os a=fP k os b :=
 List.Perm.foldl_eq' h (fun x _ y _ z=>by rw [lT,lT,pj k (gX k os x)]) _
theorem AO {k:Int} (hk:inR k 1 4=true) (row:List Int):sk k row=gX k (eG row.length) row:=by
 have e:(List.range' 0 row.length).map (fun i:Nat=>vW k (i:Int) (row.getD i 0))=List.zipWith (vW k) (eG row.length) row:=by
  refine List.ext_getElem (by simp [eG]) fun i h1 h2=>?_
  have hi:i<row.length:=by simpa using h1
  rw [List.getElem_map,List.getElem_zipWith]
  simp [eG,hi]
 unfold sk
 rw [lQ,← e,← wl hk,List.foldl_map]
theorem wq {k:Int} (hk:inR k 1 4=true) {n:Nat} {rows:List (List Int)} (hr:∀ r∈rows,r.length=n):sc k rows=fP k (eG n) rows:=by
 unfold sc fP
 have key:∀ (rows:List (List Int)) (s:Int),(∀ r∈rows,r.length=n)→rows.foldl (fun s r=>cI k s (sk k r)) s=rows.foldl (fun s r=>cI k s (gX k (eG n) r)) s:=by
  intro rows
  induction rows with
  | nil=>intro s _;rfl
  | cons r rows ih =>
   intro s h
   rw [List.foldl_cons,List.foldl_cons,ih _ fun r hr=>h r (List.mem_cons_of_mem _ hr),AO hk,h r List.mem_cons_self]
 rw [← key rows _ hr]
 exact uH (fun s r=>cI k s (sk k r)) [] rows (ci k)

theorem qj {ns:List aN} (hw:WFn ns):∀ (f f':Nat) (nd:Int) (pre:List Int),nd<(f:Int)→nd<(f':Int)→0≤nd→nd<(ns.length:Int)→c5 ns f nd pre=c5 ns f' nd pre
 | 0,_,_,_,h,_,h0,_=>by omega
 | f+1,0,_,_,_,h,h0,_=>by omega
 | f+1,f'+1,nd,pre,h,h',h0,h1=>by
  obtain ⟨k,rfl⟩:=Int.eq_ofNat_of_zero_le h0
  rw [c5,c5]
  by_cases hz:(k:Int)=0
  ·rw [if_pos hz,if_pos hz]
  ·have hk:k<ns.length:=by omega
   rw [if_neg hz,if_neg hz,Int.toNat_natCast]
   refine jn _ fun j hj=>?_
   have hc:0≤(ns.getD k ([],[])).2.getD j 0∧(ns.getD k ([],[])).2.getD j 0<(k:Int):=by
    by_cases hj:j<(ns.getD k ([],[])).2.length
    ·rw [List.getD_eq_getElem?_getD,List.getElem?_eq_getElem hj,Option.getD_some]
     exact hw.2 k hk _ (List.getElem_mem hj)
    ·rw [List.getD_eq_getElem?_getD,List.getElem?_eq_none (by omega),Option.getD_none]
     omega
   exact qj hw f f' _ _ (by omega) (by omega) hc.1 (by omega)
def lM (ns:List aN) (nd:Int):List (List Int):=c5 ns ns.length nd []
theorem tC {ns:List aN} (hw:WFn ns) {i:Nat} (h1:1≤i) (hi:i<ns.length) (hl:(ns.getD i ([],[])).1.length=(ns.getD i ([],[])).2.length) :
  lM ns (i:Int)=ie (fun j=>(lM ns ((ns.getD i ([],[])).2.getD j 0)).map ((ns.getD i ([],[])).1.getD j 0 :: ·)) (ns.getD i ([],[])).1.length:=by
 obtain ⟨g,hg⟩:∃ g,ns.length=g+1:=⟨ns.length-1,by omega⟩
 unfold lM
 conv=>lhs;rw [hg,c5,if_neg (by omega),Int.toNat_natCast]
 refine jn _ fun j hj=>?_
 have hj2:j<(ns.getD i ([],[])).2.length:=by omega
 have hc:0≤(ns.getD i ([],[])).2.getD j 0∧(ns.getD i ([],[])).2.getD j 0<(i:Int):=by
  rw [List.getD_eq_getElem?_getD,List.getElem?_eq_getElem hj2,Option.getD_some]
  exact hw.2 i hi _ (List.getElem_mem hj2)
 have h2:=nR ns g ((ns.getD i ([],[])).2.getD j 0) ([]++[(ns.getD i ([],[])).1.getD j 0]) []
 rw [List.append_nil] at h2
 rw [h2,qj hw g ns.length _ [] (by omega) (by omega) hc.1 (by omega)];rfl
theorem rZ {ns:List aN} (hw:WFn ns):lM ns 0=[[]]:=by
 obtain ⟨g,hg⟩:∃ g,ns.length=g+1:=⟨ns.length-1,by have:=hw.1;omega⟩
 unfold lM
 rw [hg,c5,if_pos rfl]
def kM (k:Int) (order:List Int) (ns:List aN) (nd:Int):Int:=fP k (order.drop (order.length-(dep ns nd).toNat)) (lM ns nd)
theorem yu {k:Int} (hk:inR k 1 4=true) {order:List Int} {ns:List aN} (hw:WFn ns):kM k order ns 0=fO k:=by
 unfold kM
 rw [rZ hw]
 have:∀ os,gX k os []=fO k:=fun os=>by cases os <;> rfl
 show cI k (ci k) (gX k _ [])=_
 rw [this,ss hk]
def og (k:Int) (order:List Int) (ns:List aN) (i j:Nat):Int :=
 fP k (order.drop (order.length-(dep ns (i:Int)).toNat)) (ie (fun j=>(lM ns ((ns.getD i ([],[])).2.getD j 0)).map ((ns.getD i ([],[])).1.getD j 0 :: ·)) j)
theorem wn {k:Int} (hk:inR k 1 4=true) {order:List Int} {ns:List aN} (hw:WFn ns) {i:Nat} (h1:1≤i) (hi:i<ns.length) (ho:NodeOk ns i) (hd:dep ns (i:Int)≤(order.length:Int)) (hd0:∀ c,0≤c→c<(ns.length:Int)→0≤dep ns c) {j:Nat} (hj:j<(ns.getD i ([],[])).2.length) :
  og k order ns i (j+1)=cI k (og k order ns i j) (cx k (vW k (order.getD (order.length-(dep ns (i:Int)).toNat) 0) ((ns.getD i ([],[])).1.getD j 0)) (kM k order ns ((ns.getD i ([],[])).2.getD j 0))):=by
 have hc:(ns.getD i ([],[])).2.getD j 0=(ns.getD i ([],[])).2[j]:=by rw [List.getD_eq_getElem?_getD,List.getElem?_eq_getElem hj,Option.getD_some]
 have hm:(ns.getD i ([],[])).2.getD j 0∈(ns.getD i ([],[])).2:=by rw [hc];exact List.getElem_mem hj
 have hb:=hw.2 i hi _ hm
 have hdc:=ho.chs _ hm
 have hs:=jM hw h1 hi
 rw [← hdc] at hs
 have hp:=hd0 ((ns.getD i ([],[])).2.getD j 0) hb.1 (by omega)
 unfold og
 show fP k _ (ie _ j++_)=_
 rw [yW hk]
 congr 1
 unfold kM
 generalize dep ns ((ns.getD i ([],[])).2.getD j 0)=D at hs hp
 have e:order.drop (order.length-(dep ns (i:Int)).toNat)=order.getD (order.length-(dep ns (i:Int)).toNat) 0 :: order.drop (order.length-D.toNat):=by
  have hlt:order.length-(dep ns (i:Int)).toNat<order.length:=by omega
  rw [List.drop_eq_getElem_cons hlt,show order.length-(dep ns (i:Int)).toNat+1=order.length-D.toNat by omega,List.getD_eq_getElem?_getD,List.getElem?_eq_getElem hlt,Option.getD_some]
 conv=>lhs;rw [e]
 rw [zC hk]
theorem ya {k:Int} {order:List Int} {ns:List aN} (hw:WFn ns) {i:Nat} (h1:1≤i) (hi:i<ns.length) (ho:NodeOk ns i):og k order ns i (ns.getD i ([],[])).2.length=kM k order ns (i:Int):=by
 unfold og kM
 rw [tC hw h1 hi ho.lens,ho.lens]
theorem u7 {ns:List aN} (hw:WFn ns):∀ (m:Nat) (c:Int),c<(m:Int)→0≤c→c<(ns.length:Int)→0≤dep ns c
 | 0,c,h,h0,_=>by omega
 | m+1,c,h,h0,h1=>by
  obtain ⟨k,rfl⟩:=Int.eq_ofNat_of_zero_le h0
  by_cases hz:k=0
  ·subst hz;rw [show ((0:Nat):Int)=0 from rfl,mh hw];exact Int.le_refl _
  ·have hc:=li hw (show 1≤k by omega) (show k<ns.length by omega)
   rw [jM hw (by omega) (by omega)]
   have:=u7 hw m _ (show (ns.getD k ([],[])).2.getD 0 0<(m:Int) by omega) hc.1 (by omega)
   omega
theorem vZ {ns:List aN} (hw:WFn ns) (ho:iP ns):∀ (m i:Nat),i<m→i<ns.length→∃ r∈lM ns (i:Int),(r.length:Int)=dep ns (i:Int)
 | 0,i,h,_=>by omega
 | m+1,i,h,hi=>by
  by_cases hz:i=0
  ·subst hz
   rw [show ((0:Nat):Int)=0 from rfl,rZ hw,mh hw]
   exact ⟨[],List.mem_singleton.2 rfl,rfl⟩
  ·have hk:=ho i (by omega) hi
   have hc:=li hw (show 1≤i by omega) hi
   have hpos:0<(ns.getD i ([],[])).1.length:=List.length_pos_iff.2 hk.ne
   obtain ⟨c,hce⟩:=Int.eq_ofNat_of_zero_le hc.1
   obtain ⟨r,hr,hl⟩:=vZ hw ho m c (by omega) (by omega)
   rw [tC hw (by omega) hi hk.lens,jM hw (by omega) hi,hce]
   refine ⟨(ns.getD i ([],[])).1.getD 0 0 :: r,?_,by rw [List.length_cons,← hl];omega⟩
   have hin:∀ (F:Nat→List (List Int)) (n:Nat) (x:List Int),0<n→x∈F 0→x∈ie F n:=by
    intro F n x
    induction n with
    | zero=>intro h;omega
    | succ n ih =>
     intro _ hx
     unfold ie
     rw [List.mem_append]
     by_cases hn:n=0
     ·subst hn;exact .inr hx
     ·exact .inl (ih (by omega) hx)
   refine hin _ _ _ hpos ?_
   rw [hce]
   exact List.mem_map.2 ⟨r,hr,rfl⟩
theorem B9 {E:Nat} {ns:List aN} (hw:WFd E ns) (ho:iP ns) {i:Nat} (hi:i<ns.length):dep ns (i:Int)≤(E:Int):=by
 obtain ⟨r,hr,hl⟩:=vZ hw.1 ho (i+1) i (by omega) hi
 have:=hw.2 i hi ns.length hi r hr
 omega
structure FOk (n:Nat) (rows:List (List Int)) (ns:List aN):Prop where
 wf:WFn ns
 all:iP ns
 le:∀ i,i<ns.length→dep ns (i:Int)≤(n:Int)
 root:dep ns ((ns.length:Int)-1)=(n:Int)
 rows:lM ns ((ns.length:Int)-1)=rows
 z:ns.getD 0 ([],[])=([],[])
theorem yh {n:Nat} {rows:List (List Int)} (hne:rows≠[]) (ha:dO rows) (hrow:∀ r∈rows,r.length=n) (hvv:∀ r∈rows,aZ r=true):FOk n rows (dj n rows):=by
 obtain ⟨h1,h2,h3⟩:=pZ hne ha hrow hvv
 have hr0:∀ r∈rows,r.length=n∧r.take 0=[]:=fun r hr=>⟨hrow r hr,rfl⟩
 have hF:dj n rows=(bu n zN rows 0).2:=by unfold dj;rw [if_neg hne];rfl
 obtain ⟨w1,_,_⟩:=gP (E:=n) n 0 (by omega) (Nat.le_refl _) zN rows [] (nC _) hne (fM ha) hr0
 obtain ⟨hw,hr⟩:=rG (fM ha) hrow
 refine ⟨hw,h1,fun i hi=>?_,h2,hr _ (Nat.le_refl _),h3⟩
 rw [hF] at h1 hi ⊢
 exact B9 w1 h1 hi
theorem FOk.agg {k:Int} {order:List Int} {n:Nat} {rows:List (List Int)} {ns:List aN} (h:FOk n rows ns) (ho:order.length=n):kM k order ns ((ns.length:Int)-1)=fP k order rows:=by
 unfold kM
 rw [h.root,h.rows,ho,Int.toNat_natCast,Nat.sub_self,List.drop_zero]
def wL (k:Int) (order:List Int) (ns:List aN) (i:Nat):List Int:=(List.range i).map fun j:Nat=>kM k order ns (j:Int)
theorem mx (k:Int) (order:List Int) (ns:List aN) (i:Nat):(wL k order ns i).length=i:=by simp [wL]
theorem B7 {k:Int} {order:List Int} {ns:List aN} {i:Nat} {c:Int} (h0:0≤c) (h1:c<(i:Int)):(wL k order ns i).getD c.toNat 0=kM k order ns c:=by
 obtain ⟨j,rfl⟩:=Int.eq_ofNat_of_zero_le h0
 have hj:j<i:=by omega
 simp [wL,hj]
theorem Aa (k:Int) (order:List Int) (ns:List aN) (i:Nat):wL k order ns (i+1)=wL k order ns i++[kM k order ns (i:Int)]:=by unfold wL;rw [List.range_succ,List.map_append];rfl
theorem ot (ns:List aN) (i:Nat):(hJ ns i).length=i:=by simp [hJ]
section
variable {N:Nat} {n:Nat} {rows:List (List Int)} {ns:List aN} {k:Int} {order:List Int}
theorem AT {left v below:Int} (h0:1≤left) (h1:left≤(order.length:Int)) (hl:order.length≤1048576):lp N k order ns left v below=some (cx k (vW k (order.getD (order.length-left.toNat) 0) v) below):=by
 unfold lp
 have hi:order.length-left.toNat<order.length:=by omega
 rw [ez (by omega) (by omega),bs,show (order.length:Int)-left=((order.length-left.toNat:Nat):Int) by omega,aR hi,bs,iL,bs,kA,bs,ba hi]
theorem FOk.dep1 (h:FOk n rows ns) {i:Nat} (h1:1≤i) (hi:i<ns.length):1≤dep ns (i:Int)∧dep ns (i:Int)≤(n:Int):=by
 have hc:=li h.wf h1 hi
 have:=u7 h.wf ns.length _ (show (ns.getD i ([],[])).2.getD 0 0<(ns.length:Int) by omega) hc.1 (by omega)
 have:=jM h.wf h1 hi
 exact ⟨by omega,h.le i hi⟩
theorem wD (hN:1073741824≤N) (hk:inR k 1 4=true) (h:FOk n rows ns) (ho:order.length=n) (hn5:n≤5) (hnl:ns.length≤4000) {i:Nat} (h1:1≤i) (hi:i<ns.length) {z z':List Int} :
  ∀ (m j f:Nat) (l:Int),j+m=(ns.getD i ([],[])).2.length→m<f→(m=0→l=dep ns (i:Int))→(ns.getD i ([],[])).2.length≤1048576 →
   dy N f k order ns (wL k order ns i++og k order ns i j :: z) (hJ ns i++l :: z') (i:Int) (ns.getD i ([],[])).1 (ns.getD i ([],[])).2 ns (ns.length:Int) (i:Int) (ns.getD i ([],[])).2 ((ns.getD i ([],[])).2.length:Int) (j:Int) =
    some (wL k order ns i++kM k order ns (i:Int) :: z,hJ ns i++dep ns (i:Int) :: z',((ns.getD i ([],[])).2.length:Int)):=by
 have hok:=h.all i h1 hi
 have hd:=h.dep1 h1 hi
 have hl:=hok.lens
 intro m
 induction m with
 | zero =>
  intro j f l hj hf hm hL
  obtain ⟨f,rfl⟩:∃ g,f=g+1:=⟨f-1,by omega⟩
  have ej:j=(ns.getD i ([],[])).2.length:=by omega
  rw [dy,dge (by omega),cond_false,ej,ya h.wf h1 hi hok,hm rfl]
 | succ m ih =>
  intro j f l hj hf hm hL
  obtain ⟨f,rfl⟩:∃ g,f=g+1:=⟨f-1,by omega⟩
  have hjl:j<(ns.getD i ([],[])).2.length:=by omega
  have hjv:j<(ns.getD i ([],[])).1.length:=by omega
  have hmem:=List.getElem_mem hjl
  have hb:=h.wf.2 i hi _ hmem
  have hdc:=hok.chs _ hmem
  have hs:=jM h.wf h1 hi
  rw [← hdc] at hs
  have hx:(ns.getD i ([],[])).2.getD j 0=(ns.getD i ([],[])).2[j]:=ba hjl
  have hxv:(ns.getD i ([],[])).1.getD j 0=(ns.getD i ([],[])).1[j]:=ba hjv
  have hst:=wn hk (order:=order) h.wf h1 hi hok (by omega) (fun c c0 c1=>u7 h.wf ns.length c c1 c0 c1) hjl
  rw [hx,hxv] at hst
  rw [dy,dlt hjl,cond_true,aR hjl,bs,vR hb.1 (by rw [ot];exact hb.2),mq hb.1 hb.2,bs,dZ (by omega) (by omega),bs,← hs,rh (ot ns i),bs,sf (ot ns i),bs,
   rh (mx k order ns i),bs,rh (ot ns i),bs,aR hjv,bs,vR hb.1 (by rw [mx];exact hb.2),B7 hb.1 hb.2,bs,AT hd.1 (by omega) (by omega),bs,kB,bs,bs,sf (mx k order ns i),bs,ad1 (by omega),bs,← hst]
  exact ih (j+1) f (dep ns (i:Int)) (by omega) (by omega) (fun _=>rfl) hL
theorem wN (hN:1073741824≤N) (hk:inR k 1 4=true) (h:FOk n rows ns) (ho:order.length=n) (hn5:n≤5) (hnl:ns.length≤4000) (hn:okN ns):∀ (m i f:Nat),i+m=ns.length→m<f→1≤i →
  cK N f k order ns (wL k order ns i++List.replicate m 0) (hJ ns i++List.replicate m 0) ns (ns.length:Int) (i:Int)=some (wL k order ns ns.length,hJ ns ns.length,(ns.length:Int)):=by
 intro m
 induction m with
 | zero =>
  intro i f hi hf _
  obtain ⟨f,rfl⟩:∃ g,f=g+1:=⟨f-1,by omega⟩
  obtain rfl:i=ns.length:=by omega
  rw [cK,dge (by omega),cond_false,List.replicate_zero,List.append_nil,List.append_nil]
 | succ m ih =>
  intro i f hi hf h1
  obtain ⟨f,rfl⟩:∃ g,f=g+1:=⟨f-1,by omega⟩
  have hil:i<ns.length:=by omega
  have hx:ns[i]=ns.getD i ([],[]):=by simp [hil]
  obtain ⟨_,k2⟩:=uP hn hil
  rw [hx] at k2
  have hp:og k order ns i 0=ci k:=rfl
  have hne:(ns.getD i ([],[])).2.length≠0:=by
   have:=(h.all i h1 hil)
   rw [← this.lens]
   exact fun e=>this.ne (List.length_eq_zero_iff.1 e)
  have hL:=wD hN hk h ho hn5 hnl h1 hil (z:=List.replicate m 0) (z':=List.replicate m 0) (ns.getD i ([],[])).2.length 0 N 0 (by omega) (by have:=k2.1;omega) (fun e=>absurd e hne) k2.1
  rw [hp] at hL
  rw [cK,dlt hil,cond_true,aR hil,bs,show (((i:Nat):Int) == 0)=false by simp;omega,cond_false,fb,bs,List.replicate_succ,rh (mx k order ns i),bs,sf (mx k order ns i),bs,hx]
  show (Option.bind (dy N N k order ns (wL k order ns i++ci k :: List.replicate m 0) (hJ ns i++0 :: List.replicate m 0) (i:Int) (ns.getD i ([],[])).1 (ns.getD i ([],[])).2 ns (ns.length:Int) (i:Int) (ns.getD i ([],[])).2 ((ns.getD i ([],[])).2.length:Int) 0) _)=_
  rw [show (0:Int)=((0:Nat):Int) from rfl]
  rw [show (0:Int)=((0:Nat):Int) from rfl] at hL
  rw [hL,bs,lpB]
  dsimp only
  rw [ad1 (by omega),bs]
  have:=ih (i+1) f (by omega) (by omega) (by omega)
  rw [Aa,sX,List.append_assoc,List.append_assoc] at this
  exact this
theorem wo (hN:1073741824≤N) (hk:inR k 1 4=true) (h:FOk n rows ns) (ho:order.length=n) (hn5:n≤5) (hnl:ns.length≤4000) (hn:okN ns):gu N k order ns=some (wL k order ns ns.length):=by
 have hp:=h.wf.1
 obtain ⟨m,hm⟩:∃ m,ns.length=m+1:=⟨ns.length-1,by omega⟩
 have hL:=wN hN hk h ho hn5 hnl hn m 1 (N-1) (by omega) (by omega) (Nat.le_refl _)
 have e1:wL k order ns 1=[fO k]:=by
  show [kM k order ns ((0:Nat):Int)]=_
  rw [show ((0:Nat):Int)=0 from rfl,yu hk h.wf]
 have e2:hJ ns 1=[0]:=by
  show [dep ns ((0:Nat):Int)]=_
  rw [show ((0:Nat):Int)=0 from rfl,mh h.wf]
 rw [e1,e2] at hL
 have h0:(0:Int)<(ns.length:Int):=by omega
 unfold gu
 rw [wB (by decide) (by omega),bs,bs,hm,List.replicate_succ]
 have hst:cK N N k order ns (0 :: List.replicate m 0) (0 :: List.replicate m 0) ns ((m+1:Nat):Int) 0=some (wL k order ns (m+1),hJ ns (m+1),((m+1:Nat):Int)):=by
  rw [← hm]
  conv=>lhs;rw [show N=(N-1)+1 by omega]
  rw [cK,decide_eq_true h0,cond_true,ix0 (by omega),bs,show ((0:Int) == 0)=true from rfl,cond_true,iK,bs,ix0 (by simp),bs,show (0:Int)=((0:Nat):Int) from rfl,iH (by simp),bs,ad1 (by omega),bs,List.set_cons_zero,show N-1+1=N by omega]
  exact hL
 rw [hst,bs,lpB]
theorem vd (hN:1073741824≤N):gu N k order [([],[]),([],[])]=some [fO k,ci k]:=by
 have hE:∀ (M:Nat) (o l:List Int) (i:Int),dy N (M+1) k order [([],[]),([],[])] o l i [] [] [([],[]),([],[])] 2 i [] 0 0=some (o,l,0):=fun M o l i=>by rw [dy];rfl
 obtain ⟨M,rfl⟩:∃ M,N=M+3:=⟨N-3,by omega⟩
 unfold gu
 have e2:(([([],[]),([],[])]:List aN).length:Int)=2:=rfl
 rw [e2,show (mk 8 (0:Int) 2)=some [0,0] from rfl,bs,bs]
 rw [cK,show decide ((0:Int)<2)=true from rfl,cond_true,show ix ([([],[]),([],[])]:List aN) 0=some ([],[]) from rfl,bs,show ((0:Int) == 0)=true from rfl,cond_true,iK,bs,show ix ([0,0]:List Int) 0=some 0 from rfl,bs,
  show sto ([0,0]:List Int) 0 (fO k)=some [fO k,0] from rfl,bs,show ad 0 1=some 1 from rfl,bs]
 rw [cK,show decide ((1:Int)<2)=true from rfl,cond_true,show ix ([([],[]),([],[])]:List aN) 1=some ([],[]) from rfl,bs,show ((1:Int) == 0)=false from rfl,cond_false,fb,bs,show ix ([fO k,0]:List Int) 1=some 0 from rfl,bs,
  show sto ([fO k,0]:List Int) 1 (ci k)=some [fO k,ci k] from rfl,bs]
 dsimp only [List.length_nil]
 rw [show ((0:Nat):Int)=0 from rfl,hE (M+2),bs,lpB]
 dsimp only
 rw [show ad 1 1=some 2 from rfl,bs,cK,show decide ((2:Int)<2)=false from rfl,cond_false,bs,lpB]
theorem ka (hN:1073741824≤N) (h:FOk n rows ns) (ho:order.length=n) (hn5:n≤5) (hnl:ns.length≤4000) (hn:okN ns) (hok:okI order) (hv:ld order ns=true):bX N k order ns=some (bif inR k 1 4 then fP k order rows else ci k):=by
 have hp:=h.wf.1
 unfold bX
 rw [fm,bs]
 cases hk:inR k 1 4 with
 | false=>rw [cond_false,fb,bs,cond_false]
 | true =>
  have e:((ns.length:Int)-1)=((ns.length-1:Nat):Int):=by omega
  rw [cond_true,cond_true,ij hN hok hn,bs,hv,cond_true,wo hN hk h ho hn5 hnl hn,bs,mx,ez (by omega) (by omega),bs,← h.agg ho,e,aR (by rw [mx];omega),bs]
  simp [wL]
theorem lE (hN:1073741824≤N) (hok:okI order) (hv:ld order [([],[]),([],[])]=true):bX N k order [([],[]),([],[])]=some (ci k):=by
 have hn:okN [([],[]),([],[])]:=⟨by decide,fun x hx=>by
  have e:x=([],[]):=by simpa using hx
  subst e
  exact ⟨⟨Nat.zero_le _,fun _ _=>trivial⟩,⟨Nat.zero_le _,fun _ _=>trivial⟩⟩⟩
 unfold bX
 rw [fm,bs]
 cases hk:inR k 1 4 with
 | false=>rw [cond_false,fb,bs]
 | true =>
  rw [cond_true,ij hN hok hn,bs,hv,cond_true,vd hN,bs];rfl
end
theorem oa {α:Type} [DecidableEq α]:∀ {a b:List α},a.Nodup→b.Nodup→(∀ x,x∈a↔x∈b)→a.Perm b
 | [],b,_,_,h=>by
  cases b with
  | nil=>exact List.Perm.refl _
  | cons y b=>exact absurd ((h y).2 List.mem_cons_self) (by simp)
 | x :: a,b,ha,hb,h=>by
  obtain ⟨h1,h2⟩:=List.nodup_cons.1 ha
  have hx:=(h x).1 List.mem_cons_self
  refine List.Perm.trans (List.Perm.cons x (oa h2 (hb.erase x) fun y=>?_)) (List.perm_cons_erase hx).symm
  rw [List.Nodup.mem_erase_iff hb,← h y,List.mem_cons]
  constructor
  ·intro hy;exact ⟨fun e=>h1 (by rw [← e];exact hy),.inr hy⟩
  ·rintro ⟨e,e2 | hy⟩
   ·exact absurd e2 e
   ·exact hy
theorem wR {ts:List aU} {n:Nat} {atoms:List aW} {order:List Int} (q:QFor ts n atoms order):order.Perm (eG n) :=
 oa (jP q) (n6 n) fun v=>by
  rw [qR]
  constructor
  ·intro h
   have:=(eT q.os).2 v h
   omega
  ·intro h;exact lk q h.1 (by omega)
theorem vG {ts:List aU} {n:Nat} {atoms:List aW} {order:List Int} (q:QFor ts n atoms order) {k:Int} {r:List Int} (hr:r.length=n):gX k order r=gX k (eG n) (gb n order r):=by
 have e1:List.zipWith (vW k) order r=order.map fun v=>vW k v (gD order r v):=by
  have hol:=q.ol
  refine List.ext_getElem (by rw [List.length_zipWith,List.length_map];omega) fun i h1 h2=>?_
  have hi:i<order.length:=by simpa using h2
  rw [List.getElem_zipWith,List.getElem_map]
  unfold gD
  rw [mt (jP q) hi,Int.toNat_natCast,ba (by omega)]
 have e2:List.zipWith (vW k) (eG n) (gb n order r)=(eG n).map fun v=>vW k v (gD order r v):=by
  unfold gb
  refine List.ext_getElem (by simp) fun i h1 h2=>?_
  rw [List.getElem_zipWith,List.getElem_map,List.getElem_map]
 rw [lQ,lQ,e1,e2]
 exact wX ((wR q).map _)
theorem xO {ts:List aU} {n:Nat} {atoms:List aW} {order:List Int} (q:QFor ts n atoms order) {k:Int}:fP k order (be (bh ts order atoms) n []).1=fP k (eG n) (bN 20 (jo ts (n:Int) atoms)):=by
 have hbl:=o9 q
 obtain ⟨_,w2,w3⟩:=iw (g8 q) q.n5
 have e1:fP k order (be (bh ts order atoms) n []).1=fP k (eG n) ((be (bh ts order atoms) n []).1.map (gb n order)):=by
  unfold fP
  rw [List.foldl_map]
  have:∀ (l:List (List Int)) (s:Int),(∀ r∈l,r.length=n)→l.foldl (fun s r=>cI k s (gX k order r)) s=l.foldl (fun s r=>cI k s (gX k (eG n) (gb n order r))) s:=by
   intro l
   induction l with
   | nil=>intro s _;rfl
   | cons r l ih =>
    intro s h
    rw [List.foldl_cons,List.foldl_cons,vG q (h r List.mem_cons_self),ih _ fun x hx=>h x (List.mem_cons_of_mem _ hx)]
  exact this _ _ fun r hr=>(w2 r hr).1
 rw [e1]
 refine x6 (oa ?_ (fM (iV 20 _ (by omega))) fun x=>?_)
 ·refine kt (fM w3) fun x hx y hy e=>?_
  have h1:=jI q (w2 x hx).1
  have h2:=jI q (w2 y hy).1
  rw [e] at h1
  rw [← h1,h2]
 ·rw [iu,List.mem_map]
  constructor
  ·rintro ⟨r,hr,rfl⟩;exact wa q hr
  ·intro hb
   have hb:x∈l8V ts atoms (List.replicate n (-1)):=hb
   exact ⟨_,vS q hb,lG q ((nl q).1 hb).1⟩
theorem n8 {N:Nat} (hN:1073741824≤N) {a:List Int} (ha:dv a):∃ v,e8 N a=some v:=by
 obtain ⟨h,e⟩:=rX (N:=N) hN ha
 have hc:bW a 0:=⟨Int.le_refl _,by omega⟩
 obtain ⟨x,q,g,e1,_,hc1⟩:=eN (N:=N) ha (h:=h) hc (l:=[1,2,3,4,1,2,3,4,0,5]) (by decide)
 obtain ⟨y,q2,g2,e2,b0,b1,_,hc2⟩:=bV (N:=N) ha (h:=g) (n:=7) hc1
 have b1:=b1 (by decide)
 obtain ⟨z,q3,g3,e3,_,hc3⟩:=eN (N:=N) ha (h:=g2) hc2 (l:=[0,1,2,50,99,100,(-1)]) (by decide)
 unfold e8 kl
 rw [e,bs]
 dsimp only
 rw [e1,bs,bs]
 dsimp only
 rw [e2,bs]
 dsimp only
 rw [ez (by omega) (by omega),bs,e3,bs]
 exact ⟨_,rfl⟩
theorem jR {N:Nat} (hM:1073742848≤N) {x0:List Int} (_:(kd (fun _=>True) 9223372036854775807) x0) (g0:∀ v∈x0,0≤v∧v≤255):dc N x0=some true:=by
 have hN:1073741824≤N:=by omega
 unfold dc oh
 rw [bs]
 by_cases hb:(1048576:Int)<(x0.length:Int)
 ·rw [decide_eq_true hb];rfl
 ·rw [decide_eq_false hb,cond_false]
  have hc:dv x0:=⟨by omega,fun v hv=>g0 v hv⟩
  obtain ⟨ts,⟨n,ats,out⟩,o,e1,hj⟩:=oW hM hc
  obtain ⟨⟨k,v,x⟩,e2⟩:=n8 hN hc
  have d1:=hj.1.ok;have d2:=hj.2.1.atoms;have d3:=hj.2.1.out;have d4:=hj.o
  rw [e1,bs]
  dsimp only at d2 d3 ⊢
  rw [e2,bs]
  dsimp only
  have hr:=w8 (ts:=ts) (n:=n) (atoms:=ats) (out:=out) (order:=o)
  rw [pW hM d1 d2 d3 d4,bs,sB hM d1 d2 d3,bs,iL,bs,oP,bs,bne_self_eq_false,cond_false]
  unfold xj
  cases ht:(dS ts n ats out o).2.2 with
  | false=>rfl
  | true =>
   obtain ⟨m,rfl,q,ho,e3,hl⟩:=AW ht
   have hq:=Bg ho
   obtain ⟨a1,a2,a3⟩:=yT q hq hl
   obtain ⟨w1,w2,w3⟩:=iw (g8 q) q.n5
   have h5:=q.n5
   have hal:kQ m (be (bh ts o ats) m []).1:=⟨hl,fun i hi=>by rw [uy hi];exact (w2 _ (List.getElem_mem hi)).1⟩
   have p3:okN (dj m (be (bh ts o ats) m []).1):=zt h5 hal
   have h4:=yo hj.1 q hl
   have hp:=xb q
   have r1:∀ r∈(be (bh ts o ats) m []).1,r.length=m:=fun r hr=>(w2 r hr).1
   have v1:∀ r∈(be (bh ts o ats) m []).1,aZ r=true:=fun r hr=>(w2 r hr).2
   have hv:=vH w3 r1 v1 h4 hp q.ol
   have hS:fi (bN 20 (jo ts (m:Int) ats)):=⟨by omega,fun r hr=>by
    obtain ⟨i,hi,rfl⟩:=List.getElem_of_mem hr
    have:=((bJ a3).2.2.2 i hi).1
    exact ⟨by omega,fun _ _=>trivial⟩⟩
   have hag:=xO q (k:=k)
   have hSr:∀ r∈bN 20 (jo ts (m:Int) ats),r.length=m:=fun r hr=>by
    obtain ⟨i,hi,rfl⟩:=List.getElem_of_mem hr
    have:=((bJ a3).2.2.2 i hi).1
    omega
   rw [e3,cond_true,Int.toNat_natCast,a1]
   dsimp only
   rw [cond_true,lN hN hS]
   have ee:bX N k o (dj m (be (bh ts o ats) m []).1)=some (bif inR k 1 4 then fP k o (be (bh ts o ats) m []).1 else ci k):=by
    by_cases hne:(be (bh ts o ats) m []).1=[]
    ·rw [hne]
     rw [hne] at hv
     rw [show dj m []=[([],[]),([],[])] from rfl] at hv ⊢
     rw [lE hN d4 hv]
     cases inR k 1 4 <;> rfl
    ·exact ka hN (yh hne w3 r1 v1) q.ol h5 h4 p3 d4 hv
   rw [ee,bs,bs]
   unfold uG
   rw [a3,Bool.and_true]
   cases hk:inR k 1 4 with
   | false=>rw [cond_false,if_neg (by decide),beq_self_eq_true]
   | true=>rw [cond_true,if_pos rfl,wq hk hSr,hag,beq_self_eq_true]
section
variable {P:Program} {n:Nat} {Q Q':Exit→Env→World→Prop} {K:Env→World→Prop} {KQ:Env→Prop} {e:Env} {w w0:World} {c y:Code} {x:Exit} {ops:Array Oper} {rest:List Oper}
variable {d:Nat} {op:Op} {ty:TypeId} {pos:String} {af:Array Edge} {o z1 z2 z3:Operand} {v:Value} {q1:Oper}
theorem dt {p:Prop} [Decidable p] (h:decide p=true:=by rfl):p:=of_decide_eq_true h
theorem oB {α β:Type} {C:Prop} {o:Option α} {f:α→Option β} {r:β} (h:o.bind f=some r) (k:∀ x,o=some x→f x=some r→C):C:=by
 obtain ⟨x,h1,h2⟩:=ob h
 exact k x h1 h2
theorem oF {α:Type} {C:Prop} {c:Bool} {x y:Option α} {r:α} (h:(bif c then x else y)=some r) (k1:c=true→x=some r→C) (k2:c=false→y=some r→C):C:=by
 rcases oif h with ⟨h1,h2⟩ | ⟨h1,h2⟩
 ·exact k1 h1 h2
 ·exact k2 h1 h2
theorem oI {α:Type} {a b:α} (h:some a=some b):a=b:=Option.some.inj h
theorem nn {α:Type} {x:α} (h:none=some x):False:=nomatch h
theorem cR {α:Type} {a b:α} (h:a=b) (f:α→Value):Ending.returned (f a)=Ending.returned (f b):=by rw [h]
theorem sP {α:Type} {a b:α} (h:a=b) (f:α→List Asn) (S:Sat w0 w (f a)):Sat w0 w (f b):=by rw [← h];exact S
abbrev pt (b o:Nat):Value:=.pointer (some ⟨b,o,none⟩)
theorem sg (h:∀ Q':Exit→Env→World→Prop,(∀ x e w,thn (fun e w=>CW P n y Q e w) Q x e w→Q' x e w)→CW P n c Q' e w):CW P n (.seq c y) Q e w:=xY (rg h)
theorem sR {id:Nat} {l:List Oper} (h:∀ Q':Exit→Env→World→Prop,(∀ x e w,thn (fun e w=>CW P n y Q e w) Q x e w→Q' x e w)→EL P n l.toArray (fun e w=>Q' .normal e w) l e w):CW P n (.seq (.region id l.toArray false) y) Q e w:=xY (rg fun Q' q=>ai (h Q' q))
theorem gn (h:∀ Q':Exit→Env→World→Prop,(∀ x e w,Q x e w→Q' x e w)→CW P n c Q' e w):CW P n c Q e w:=rg h
theorem bg {i:Nat} (h:∀ Q':Exit→Env→World→Prop,(∀ x e w,inb i Q x e w→Q' x e w)→CW P n c Q' e w):CW P n (.block i c) Q e w:=y7 (rg h)
theorem hq {f:Exit→Env→World→Prop} (h:∀ x e w,f x e w→Q' x e w) (k:f x e w):Q' x e w:=h _ _ _ k
theorem tn (h:∀ x e w,thn K Q x e w→Q' x e w) (k:K e w):Q' .normal e w:=h _ _ _ k
theorem tr (h:∀ x e w,thn K Q x e w→Q' x e w) (k:Q .ret e w):Q' .ret e w:=h _ _ _ k
theorem tx {i:Nat} (h:∀ x e w,thn K Q x e w→Q' x e w) (k:Q (.exit i) e w):Q' (.exit i) e w:=h _ _ _ k
theorem bn {i:Nat} (h:∀ x e w,inb i Q x e w→Q' x e w) (k:Q .normal e w):Q' .normal e w:=h _ _ _ k
theorem br {i:Nat} (h:∀ x e w,inb i Q x e w→Q' x e w) (k:Q .ret e w):Q' .ret e w:=h _ _ _ k
theorem bS {i:Nat} (h:∀ x e w,inb i Q x e w→Q' x e w) (k:Q .normal e w):Q' (.exit i) e w:=h _ _ _ (CD k)
theorem en (h:∀ x e w,thn K Q x e w→Q' x e w) (k:K e w):EL P n ops (fun e w=>Q' .normal e w) [] e w:=ag (h _ _ _ k)
theorem sn (h:∀ x e w,thn K Q x e w→Q' x e w) (k:K e w):CW P n .skip Q' e w:=bb (h _ _ _ k)
theorem pa (v:Value) (hK:EL P n ops K rest (upd e d v) w) (hx:ev e o=v:=by exact rfl) (hd:d<n:=by decide):EL P n ops K (⟨some d,.assign o,ty,pos,af,none⟩ :: rest) e w:=mJ (cG hx) hd hK
theorem pm (v:Value) (hK:EL P n ops K rest (upd e d v) w) (hx:ev e o=v:=by exact rfl) (hd:d<n:=by decide):EL P n ops K (⟨some d,.move o,ty,pos,af,none⟩ :: rest) e w:=mJ (aK hx) hd hK
theorem pM (v:Value) (hx:ev e o=v) (hK:EL P n ops K rest (upd e d v) w) (hd:d<n:=by decide):EL P n ops K (⟨some d,.move o,ty,pos,af,none⟩ :: rest) e w:=mJ (aK hx) hd hK
theorem pe (v:Value) (hp:PV P ⟨some d,op,ty,pos,af,none⟩ e w v) (hK:EL P n ops K rest (upd e d v) w) (hd:d<n:=by decide):EL P n ops K (⟨some d,op,ty,pos,af,none⟩ :: rest) e w:=mJ hp hd hK
theorem qe (v:Value) (hp:PV P ⟨some d,op,ty,pos,af,none⟩ e w v) (hK:QL P n ops w KQ rest (upd e d v)) (hd:d<n:=by decide):QL P n ops w KQ (⟨some d,op,ty,pos,af,none⟩ :: rest) e:=pJ hp hd hK
theorem qm (v:Value) (hK:QL P n ops w KQ rest (upd e d v)) (hx:ev e o=v:=by exact rfl) (hd:d<n:=by decide):QL P n ops w KQ (⟨some d,.move o,ty,pos,af,none⟩ :: rest) e:=pJ (aK hx) hd hK
theorem qM (v:Value) (hx:ev e o=v) (hK:QL P n ops w KQ rest (upd e d v)) (hd:d<n:=by decide):QL P n ops w KQ (⟨some d,.move o,ty,pos,af,none⟩ :: rest) e:=pJ (aK hx) hd hK
theorem eo {j:Nat} {b b' c:Bool} (hc:c=b) (hK:EL P n ops K rest (upd e d undef) w) (h:yld ops e j=some c:=by exact rfl) (hb:(b == b')=false:=by exact rfl) (hd:d<n:=by decide):EL P n ops K (⟨some d,op,ty,pos,af,some (j,b')⟩ :: rest) e w:=BJ h hc hb hd hK
theorem qo {j:Nat} {b b' c:Bool} (hc:c=b) (hK:QL P n ops w KQ rest (upd e d undef)) (h:yld ops e j=some c:=by exact rfl) (hb:(b == b')=false:=by exact rfl) (hd:d<n:=by decide):QL P n ops w KQ (⟨some d,op,ty,pos,af,some (j,b')⟩ :: rest) e:=BM h hc hb hd hK
theorem ei {j:Nat} {b c:Bool} {dst:Option Nat} (hc:c=b) (hK:EL P n ops K (⟨dst,op,ty,pos,af,none⟩ :: rest) e w) (h:yld ops e j=some c:=by exact rfl):EL P n ops K (⟨dst,op,ty,pos,af,some (j,b)⟩ :: rest) e w:=CC h hc hK
theorem qi {j:Nat} {b c:Bool} {dst:Option Nat} (hc:c=b) (hK:QL P n ops w KQ (⟨dst,op,ty,pos,af,none⟩ :: rest) e) (h:yld ops e j=some c:=by exact rfl):QL P n ops w KQ (⟨dst,op,ty,pos,af,some (j,b)⟩ :: rest) e:=Cz h hc hK
theorem ct {b:Bool} (hb:b=true) (h:CW P n c Q e w) (hc:ev e o=.bool b:=by exact rfl):CW P n (.cond o c y) Q e w:=xB hc hb h
theorem cf {b:Bool} (hb:b=false) (h:CW P n y Q e w) (hc:ev e o=.bool b:=by exact rfl):CW P n (.cond o c y) Q e w:=yS hc hb h
theorem rB {a b:Bool} {Γ:List Asn} (h:some a=some b) (hS:Sat w0 w Γ):Ending.returned (.bool a)=.returned (.bool b)∧Ext w0 w:=⟨by rw [Option.some.inj h],hS.below⟩
theorem rI {a b:Int} {Γ:List Asn} (h:some a=some b) (hS:Sat w0 w Γ):Ending.returned (.int .i64 a)=.returned (.int .i64 b)∧Ext w0 w:=⟨by rw [Option.some.inj h],hS.below⟩
abbrev i_ (x:Int):Value:=.int .i64 x
abbrev n_:Value:=.slice none 0 0
theorem ec0 {f:FuncId} {args:Array Operand} {tys:Array TypeId} {vals:Array Value} {Γ:List Asn} (hg:Goes P f) (hc:Calls P f vals w fun x w'=>x=.returned v∧Ext w w') (hv:(args.toList.map (ev e)).toArray=vals) (S:Sat w0 w Γ)
  (hK:∀ w',Ext w w'→Sat w0 w' Γ→EL P n ops K rest (upd e d v) w') (hd:d<n:=by decide):EL P n ops K (⟨some d,.call ⟨.value (.func f),args,tys⟩,ty,pos,af,none⟩ :: rest) e w :=
 aS hg hc hv hd (by rintro _ w' ⟨rfl,hx⟩;exact ⟨_,rfl,hK w' hx (S.ext hx)⟩)
theorem ec1 {f:FuncId} {args:Array Operand} {tys:Array TypeId} {vals:Array Value} {Γ:List Asn} {G:Value→Value} {A:Value→Asn} (hg:Goes P f) (hc:Calls P f vals w fun x w'=>∃ v,x=.returned (G v)∧Sat w w' [A v]) (hv:(args.toList.map (ev e)).toArray=vals) (S:Sat w0 w Γ)
  (hK:∀ w' v,Ext w w'→Sat w0 w' (A v :: Γ)→EL P n ops K rest (upd e d (G v)) w') (hd:d<n:=by decide):EL P n ops K (⟨some d,.call ⟨.value (.func f),args,tys⟩,ty,pos,af,none⟩ :: rest) e w :=
 aS hg hc hv hd (by rintro _ w' ⟨v,rfl,S'⟩;exact ⟨_,rfl,hK w' v S'.below (S.call1 S')⟩)
theorem aO {X:List Nat} {C:World→Prop} (i:Nat) {f:Nat} {L:Array Bool} (ho:ops[i]? = some q1)
  (h:EL P n ops (fun e' w'=>(X.contains i=true→C w')∧AL P n ops X C K f (L.setIfInBounds i true) e' w') [q1] e w) (hr:Region.ready .any ops L=[i]:=by kernel_rfl):AL P n ops X C K (f+1) L e w:=BS i hr ho h
theorem aP {X:List Nat} {C:World→Prop} (v:Value) (i:Nat) {f:Nat} {L:Array Bool} (hi:ops[i]? = some q1) (hdst:q1.dst=some d) (hC:C w)
  (hy:SV P n ops C q1 e v) (hK:AL P n ops X C K f (L.setIfInBounds i true) (upd e d v) w) (hsel:k9 ops=true:=by kernel_rfl) (hdn:d<n:=by decide) (hf:mV ops X L i q1=true:=by kernel_rfl) (hr:(Region.ready .any ops L).contains i=true:=by kernel_rfl):AL P n ops X C K (f+1) L e w:=wM hsel i hi hdst hdn hC hf hr hy hK
theorem ca {α β:Type} {f:α→β} {l:List α} {m:List β} (h:l.map f=m):(l.map f).toArray=m.toArray:=congrArg List.toArray h
theorem Sat.t1 {a0 a1:Asn} {Γ:List Asn} (h:Sat w0 w (a0 :: a1 :: Γ)):Sat w0 w (a1 :: a0 :: Γ):=h.top 1 rfl
theorem Sat.t2 {a0 a1 a2:Asn} {Γ:List Asn} (h:Sat w0 w (a0 :: a1 :: a2 :: Γ)):Sat w0 w (a2 :: a0 :: a1 :: Γ):=h.top 2 rfl
theorem Sat.t3 {a0 a1 a2 a3:Asn} {Γ:List Asn} (h:Sat w0 w (a0 :: a1 :: a2 :: a3 :: Γ)):Sat w0 w (a3 :: a0 :: a1 :: a2 :: Γ):=h.top 3 rfl
theorem Sat.t4 {a0 a1 a2 a3 a4:Asn} {Γ:List Asn} (h:Sat w0 w (a0 :: a1 :: a2 :: a3 :: a4 :: Γ)):Sat w0 w (a4 :: a0 :: a1 :: a2 :: a3 :: Γ):=h.top 4 rfl
theorem Sat.t5 {a0 a1 a2 a3 a4 a5:Asn} {Γ:List Asn} (h:Sat w0 w (a0 :: a1 :: a2 :: a3 :: a4 :: a5 :: Γ)):Sat w0 w (a5 :: a0 :: a1 :: a2 :: a3 :: a4 :: Γ):=h.top 5 rfl
theorem Sat.t6 {a0 a1 a2 a3 a4 a5 a6:Asn} {Γ:List Asn} (h:Sat w0 w (a0 :: a1 :: a2 :: a3 :: a4 :: a5 :: a6 :: Γ)):Sat w0 w (a6 :: a0 :: a1 :: a2 :: a3 :: a4 :: a5 :: Γ):=h.top 6 rfl
theorem Sat.t7 {a0 a1 a2 a3 a4 a5 a6 a7:Asn} {Γ:List Asn} (h:Sat w0 w (a0 :: a1 :: a2 :: a3 :: a4 :: a5 :: a6 :: a7 :: Γ)):Sat w0 w (a7 :: a0 :: a1 :: a2 :: a3 :: a4 :: a5 :: a6 :: Γ):=h.top 7 rfl
theorem Sat.t8 {a0 a1 a2 a3 a4 a5 a6 a7 a8:Asn} {Γ:List Asn} (h:Sat w0 w (a0 :: a1 :: a2 :: a3 :: a4 :: a5 :: a6 :: a7 :: a8 :: Γ)):Sat w0 w (a8 :: a0 :: a1 :: a2 :: a3 :: a4 :: a5 :: a6 :: a7 :: Γ):=h.top 8 rfl
theorem Sat.r0 {a0:Asn} {Γ:List Asn} (h:Sat w0 w (a0 :: Γ)):Sat w0 w (Γ):=h.rem 0 rfl
theorem Sat.r1 {a0 a1:Asn} {Γ:List Asn} (h:Sat w0 w (a0 :: a1 :: Γ)):Sat w0 w (a0 :: Γ):=h.rem 1 rfl
theorem Sat.r2 {a0 a1 a2:Asn} {Γ:List Asn} (h:Sat w0 w (a0 :: a1 :: a2 :: Γ)):Sat w0 w (a0 :: a1 :: Γ):=h.rem 2 rfl
theorem Sat.r3 {a0 a1 a2 a3:Asn} {Γ:List Asn} (h:Sat w0 w (a0 :: a1 :: a2 :: a3 :: Γ)):Sat w0 w (a0 :: a1 :: a2 :: Γ):=h.rem 3 rfl
theorem Sat.r4 {a0 a1 a2 a3 a4:Asn} {Γ:List Asn} (h:Sat w0 w (a0 :: a1 :: a2 :: a3 :: a4 :: Γ)):Sat w0 w (a0 :: a1 :: a2 :: a3 :: Γ):=h.rem 4 rfl
theorem Sat.r5 {a0 a1 a2 a3 a4 a5:Asn} {Γ:List Asn} (h:Sat w0 w (a0 :: a1 :: a2 :: a3 :: a4 :: a5 :: Γ)):Sat w0 w (a0 :: a1 :: a2 :: a3 :: a4 :: Γ):=h.rem 5 rfl
theorem Sat.r6 {a0 a1 a2 a3 a4 a5 a6:Asn} {Γ:List Asn} (h:Sat w0 w (a0 :: a1 :: a2 :: a3 :: a4 :: a5 :: a6 :: Γ)):Sat w0 w (a0 :: a1 :: a2 :: a3 :: a4 :: a5 :: Γ):=h.rem 6 rfl
theorem Sat.r7 {a0 a1 a2 a3 a4 a5 a6 a7:Asn} {Γ:List Asn} (h:Sat w0 w (a0 :: a1 :: a2 :: a3 :: a4 :: a5 :: a6 :: a7 :: Γ)):Sat w0 w (a0 :: a1 :: a2 :: a3 :: a4 :: a5 :: a6 :: Γ):=h.rem 7 rfl
theorem Sat.r8 {a0 a1 a2 a3 a4 a5 a6 a7 a8:Asn} {Γ:List Asn} (h:Sat w0 w (a0 :: a1 :: a2 :: a3 :: a4 :: a5 :: a6 :: a7 :: a8 :: Γ)):Sat w0 w (a0 :: a1 :: a2 :: a3 :: a4 :: a5 :: a6 :: a7 :: Γ):=h.rem 8 rfl
theorem Sat.r9 {a0 a1 a2 a3 a4 a5 a6 a7 a8 a9:Asn} {Γ:List Asn} (h:Sat w0 w (a0 :: a1 :: a2 :: a3 :: a4 :: a5 :: a6 :: a7 :: a8 :: a9 :: Γ)):Sat w0 w (a0 :: a1 :: a2 :: a3 :: a4 :: a5 :: a6 :: a7 :: a8 :: Γ):=h.rem 9 rfl
end
abbrev R0_:=az bO 3
abbrev R1_:=az iO 9
abbrev R2_:=az R0_ 24
abbrev R3_:=mL iO R0_
abbrev R4_:=mL R0_ R0_
abbrev R5_:=mL bO R2_
abbrev R6_:=az R3_ 106
abbrev R7_:=az R4_ 70
abbrev R8_:=mL iO R5_
abbrev R9_:=az R5_ 124
abbrev bt:=az R8_ 133
abbrev T0_:=List Int
abbrev T1_:=List T0_
abbrev T2_:=List Int × List Int
abbrev T3_:=ByteArray × List Int
abbrev T4_:=Int × List T0_
abbrev T5_:=List T2_
abbrev T6_:=ByteArray × T4_
abbrev T7_:=List Int × List T2_
abbrev T8_:=List T6_
abbrev T9_:=Int × List T3_ × List Int
section
set_option maxRecDepth 100000
set_option maxHeartbeats 4000000
theorem vF {w0:World} {u0:Value} {a0:List Int} (ha0:(az u8R 5).rd w0 [u0] a0) {N:Nat} {r:Bool} (F:oh N a0=some r): Calls Tryz.prog 5 #[u0] w0 fun e w'=>e=.returned (.bool r)∧Ext w0 w' := by
 unfold oh at F;refine aH Tryz.func5 rfl rfl dt ?_;have S:=Sat.start w0;refine sR fun _ J=>pa (.bool false) (en J (sR fun _ U=>pm u0 (pe (i_ (a0.length:Int)) (au rfl ha0) (pe (.bool (decide (1048576 < (a0.length:Int)))) (bR rfl rfl) (pa (.bool (decide (1048576 < (a0.length:Int)))) (en U (aj (aE rfl rfl ?_))))))));exact rB F S
theorem oD {w0:World} {u0:Value} {a0:List Int} (ha0:(az u8R 5).rd w0 [u0] a0) {N:Nat} {r:Int × Int} (F:jq N a0=some r): Calls Tryz.prog 24 #[u0] w0 fun e w'=>∃ (q0:Nat),e=.returned (pt q0 0)∧Sat w0 w' [Box q0 88 [u0,i_ r.1,i_ r.2]] := by
 unfold jq at F;refine aH Tryz.func24 rfl rfl dt ?_;have S:=Sat.start w0;refine sR fun _ De=>pa (.pointer none) (en De (sR fun _ Df=>pm u0 (pe (i_ (a0.length:Int)) (au rfl ha0) (oB F fun CX C6 F=>pe (i_ CX) (aD rfl rfl C6) (pa (i_ CX) (en Df (sg fun _ C2=>sR fun _ Dg=>pa (i_ 0) (en Dg (bg fun _ C3=>?_)))))))));obtain ⟨Dh,hL,C1⟩:=ob F;refine aM (fun k e w=>∃ (J:Int),∃ (U:Int),e 0=u0∧e 3=i_ J∧e 4=i_ U∧Sat w0 w []∧f8 N k a0 J U=some Dh) N ?_ ?_ ?_
 ·exact ⟨CX,0,rfl,rfl,rfl,S,hL⟩
 ·rintro e w ⟨_,_,_,_,_,_,hz⟩; exact nn hz
 rintro k Dr Ds ⟨J,U,Z,CR,CQ,S,F⟩;refine gn fun _ CY=>sg fun _ CZ=>sR fun _ C4=>pM (i_ U) CQ (pM u0 Z (pe (i_ (a0.length:Int)) (au rfl ha0) (pe (.bool (decide (U < (a0.length:Int)))) (aV rfl rfl) (pm (.bool (decide (U < (a0.length:Int)))) (oF F (fun Y F=>?_) fun Y F=>?_)))))
 ·refine ei Y (pM (i_ U) CQ (ei Y (pe (.bool (decide (U < 4000))) (aV rfl rfl) (pe (.bool (decide (U < 4000))) (ax rfl Y rfl) (en C4 (oF F (fun CS F=>?_) fun CS F=>?_))))))
  ·refine ct CS (sn CZ (sg fun _ Di=>bg fun _ Dj=>ai (pM (i_ J) CR (oB F fun Dk C7 F=>pe (i_ Dk) (lx rfl rfl C7) (pM u0 Z (pM (i_ U) CQ (oB F fun C5 C8 F=>?_)))))));refine aG (wA:=w0) rfl ha0 rfl dt rfl C8 dt ?_;intro Dt Do Du C9 Da;obtain rfl:=C9;refine pe (.int .u8 C5) (ac rfl ((ak S.below Da) 0 _ rfl)) (pe (i_ (IntKind.i64.wrap C5)) (ui Tryz.underlying5 Tryz.underlying3 rfl) (oB F fun Dl Db F=>pe (i_ Dl) (aD rfl rfl Db) (oB F fun CT Dc F=>pe (i_ CT) (aD rfl rfl Dc) (pe (i_ (fG CT 1073741823)) (uY rfl rfl) (pa (i_ (fG CT 1073741823)) (ag (bn Dj (tn Di (ai (pM (i_ U) CQ (oB F fun C0 Dd F=>pe (i_ C0) (aD rfl rfl Dd) (pa (i_ C0) (en CY ?_)))))))))))));replace S:=S.keep 0;exact ⟨(fG CT 1073741823),C0,Z,rfl,rfl,S,F⟩
  refine cf CS (aL (tx CZ (tx CY ?_)));replace F:=exB F C1;refine bS C3 (tn C2 (sR fun _ Dm=>pM u0 Z (pM (i_ J) CR (pe (.agg #[u0,i_ 0,i_ J]) (bq [(0,[u0]),(2,[i_ J])] [u0,i_ 0,i_ J] (dk (aX rfl (oc ha0)) (dk rfl rfl)) rfl) ?_))));refine bD [u0,i_ 0,i_ J] rfl S dt ?_;intro Dv CU S Dp;refine pa (pt CU 0) (en Dm (aj (aE rfl rfl ?_)));have hr:=oI F;exact ⟨CU,cR hr fun r=>.pointer (some ⟨CU,0,none⟩),sP hr (fun r=>[Box CU 88 [u0,i_ r.1,i_ r.2]]) (S.keep 1)⟩
 refine eo Y (eo Y (pe (.bool false) (aB rfl Y rfl) (en C4 (cf rfl (aL (tx CZ (tx CY ?_)))))));replace F:=exB F C1;refine bS C3 (tn C2 (sR fun _ Dn=>pM u0 Z (pM (i_ J) CR (pe (.agg #[u0,i_ 0,i_ J]) (bq [(0,[u0]),(2,[i_ J])] [u0,i_ 0,i_ J] (dk (aX rfl (oc ha0)) (dk rfl rfl)) rfl) ?_))));refine bD [u0,i_ 0,i_ J] rfl S dt ?_;intro Dw CV S Dq;refine pa (pt CV 0) (en Dn (aj (aE rfl rfl ?_)));have hr:=oI F;exact ⟨CV,cR hr fun r=>.pointer (some ⟨CV,0,none⟩),sP hr (fun r=>[Box CV 88 [u0,i_ r.1,i_ r.2]]) (S.keep 1)⟩
theorem ii {w0:World} {Z:World} {G0:List Asn} {b0:Nat} {u0:Value} {a0:List Int} {a1:Int} {a2:Int} (ha0:(az u8R 5).rd Z [u0] a0) (S:Sat Z w0 (Box b0 88 [u0,i_ a1,i_ a2] :: G0)) {N:Nat} {r:Int × Int × Int} (F:fN N a0 a1 a2=some r): Calls Tryz.prog 63 #[.pointer (some ⟨b0,0,none⟩)] w0 fun e w'=>e=.returned (i_ r.1)∧Sat Z w' (Box b0 88 [u0,i_ r.2.1,i_ r.2.2] :: G0) := by
 unfold fN at F;refine aH Tryz.func63 rfl rfl dt ?_;refine sR fun _ C2=>pa (i_ 0) (en C2 (sR fun _ C3=>pm (pt b0 0) (pm (pt b0 0) (pe (pt b0 0) (cS rfl) (pe (pt b0 (0 + 2)) (ae rfl) (pe (i_ a2) (ac rfl ((S.boxAt 0 rfl) 2 _ rfl)) (pe (i_ (IntKind.i64.wrap (a2 * 6364136223846793005))) (A0 rfl rfl) (pe (i_ (IntKind.i64.wrap ((IntKind.i64.wrap (a2 * 6364136223846793005)) + 1442695040888963407))) (sQ rfl rfl) (pe (pt b0 0) (cS rfl) (pe (pt b0 (0 + 2)) (ae rfl) ?_))))))))));refine ap (S.top 0 rfl) rfl [i_ (IntKind.i64.wrap ((IntKind.i64.wrap (a2 * 6364136223846793005)) + 1442695040888963407))] rfl rfl dt (all_cons rfl rfl) ?_;intro C4 S;replace S:Sat Z C4 (Box b0 88 [u0,i_ a1,i_ (IntKind.i64.wrap ((IntKind.i64.wrap (a2 * 6364136223846793005)) + 1442695040888963407))] :: G0):=S;refine en C3 (sg fun _ C5=>?_);refine bI (by kernel_rfl) (by kernel_rfl) ?_;refine qm (pt b0 0) (qe (pt b0 0) (cS rfl) (qe (pt b0 (0 + 2)) (ae rfl) (qe (i_ (IntKind.i64.wrap ((IntKind.i64.wrap (a2 * 6364136223846793005)) + 1442695040888963407))) (ac rfl ((S.boxAt 0 rfl) 2 _ rfl)) (oB F fun J CT F=>qe (i_ J) (yP rfl rfl CT) (qm (pt b0 0) (qe (pt b0 0) (cS rfl) (qe (pt b0 (0 + 2)) (ae rfl) (qe (i_ (IntKind.i64.wrap ((IntKind.i64.wrap (a2 * 6364136223846793005)) + 1442695040888963407))) (ac rfl ((S.boxAt 0 rfl) 2 _ rfl)) (oB F fun U CU F=>qe (i_ U) (yP rfl rfl CU) (qe (i_ (jh J U)) (Ca rfl rfl) (qe (i_ (fG (jh J U) 255)) (uY rfl rfl) (qe (i_ (fG (jh J U) 255)) (cG rfl) (bj ?_)))))))))))));intro Dc CV;replace S:=S.ext CV;refine tn C5 (sg fun _ CR=>sg fun _ C6=>?_);refine bI (by kernel_rfl) (by kernel_rfl) ?_;refine qm (pt b0 0) (qe (pt b0 0) (cS rfl) (qe (pt b0 (0 + 1)) (ae rfl) (qe (i_ a1) (ac rfl ((S.boxAt 0 rfl) 1 _ rfl)) (qm (pt b0 0) (qe (pt b0 0) (cS rfl) (qe (pt b0 (0 + 0)) (ae rfl) (qe u0 (ac rfl ((S.boxAt 0 rfl) 0 _ rfl)) (qe (i_ (a0.length:Int)) (au rfl ha0) (qe (.bool (decide (a1 < (a0.length:Int)))) (aV rfl rfl) (bj ?_))))))))));intro C7 CX;replace S:=S.ext CX;refine tn C6 (oF F (fun CQ F=>?_) fun CQ F=>?_)
 ·refine ct CQ (sg fun _ C8=>?_);refine bI (by kernel_rfl) (by kernel_rfl) ?_;refine qm (i_ (fG (jh J U) 255)) (qm (pt b0 0) (qe (pt b0 0) (cS rfl) (qe (pt b0 (0 + 0)) (ae rfl) (qe u0 (ac rfl ((S.boxAt 0 rfl) 0 _ rfl)) (qm (pt b0 0) (qe (pt b0 0) (cS rfl) (qe (pt b0 (0 + 1)) (ae rfl) (qe (i_ a1) (ac rfl ((S.boxAt 0 rfl) 1 _ rfl)) (oB F fun Y CY F=>?_)))))))));refine aY (wA:=Z) rfl ha0 rfl dt rfl CY dt ?_;intro Dd Db De CZ C0;obtain rfl:=CZ;refine qe (.int .u8 Y) (ac rfl ((ak S.below C0) 0 _ rfl)) (qe (i_ (IntKind.i64.wrap Y)) (ui Tryz.underlying5 Tryz.underlying3 rfl) (qe (i_ (IntKind.i64.wrap ((fG (jh J U) 255) + (IntKind.i64.wrap Y)))) (sQ rfl rfl) (qe (i_ (fG (IntKind.i64.wrap ((fG (jh J U) 255) + (IntKind.i64.wrap Y))) 255)) (uY rfl rfl) (qe (i_ (fG (IntKind.i64.wrap ((fG (jh J U) 255) + (IntKind.i64.wrap Y))) 255)) (cG rfl) (bj ?_)))));intro Df C1;replace S:=S.ext C1;refine tn C8 (ai (pm (pt b0 0) (pm (pt b0 0) (pe (pt b0 0) (cS rfl) (pe (pt b0 (0 + 1)) (ae rfl) (pe (i_ a1) (ac rfl ((S.boxAt 0 rfl) 1 _ rfl)) (pe (i_ (IntKind.i64.wrap (a1 + 1))) (sQ rfl rfl) (pe (pt b0 0) (cS rfl) (pe (pt b0 (0 + 1)) (ae rfl) ?_)))))))));refine ap (S.top 0 rfl) rfl [i_ (IntKind.i64.wrap (a1 + 1))] rfl rfl dt (all_cons rfl rfl) ?_;intro CS S;replace S:Sat Z CS (Box b0 88 [u0,i_ (IntKind.i64.wrap (a1 + 1)),i_ (IntKind.i64.wrap ((IntKind.i64.wrap (a2 * 6364136223846793005)) + 1442695040888963407))] :: G0):=S;refine en CR (sR fun _ C9=>pm (i_ (fG (IntKind.i64.wrap ((fG (jh J U) 255) + (IntKind.i64.wrap Y))) 255)) (pa (i_ (fG (IntKind.i64.wrap ((fG (jh J U) 255) + (IntKind.i64.wrap Y))) 255)) (en C9 (aj (aE rfl rfl ?_)))));have hr:=oI F;exact ⟨(cR hr fun r=>i_ r.1 :),Eq.mp (congrArg (fun (r:Int × Int × Int)=>Sat Z CS (Box b0 88 [u0,i_ r.2.1,i_ r.2.2] :: G0)) hr :) S⟩
 refine cf CQ (sn CR (sR fun _ Da=>pm (i_ (fG (jh J U) 255)) (pa (i_ (fG (jh J U) 255)) (en Da (aj (aE rfl rfl ?_))))));have hr:=oI F;exact ⟨(cR hr fun r=>i_ r.1 :),Eq.mp (congrArg (fun (r:Int × Int × Int)=>Sat Z C7 (Box b0 88 [u0,i_ r.2.1,i_ r.2.2] :: G0)) hr :) S⟩
theorem bA {w0:World} {J:World} {G0:List Asn} {b0:Nat} {u0:Value} {a0:List Int} {a1:Int} {a2:Int} {a3:Int} (ha0:(az u8R 5).rd J [u0] a0) (S:Sat J w0 (Box b0 88 [u0,i_ a1,i_ a2] :: G0)) {N:Nat} {r:Int × Int × Int} (F:bC N a0 a1 a2 a3=some r): Calls Tryz.prog 27 #[.pointer (some ⟨b0,0,none⟩),i_ a3] w0 fun e w'=>e=.returned (i_ r.1)∧Sat J w' (Box b0 88 [u0,i_ r.2.1,i_ r.2.2] :: G0) := by
 unfold bC at F;refine aH Tryz.func27 rfl rfl dt ?_;refine sR fun _ De=>pa (i_ 0) (en De (sg fun _ CT=>sR fun _ Df=>pm (i_ a3) (pe (.bool (decide (a3 ≤ 0))) (lg rfl rfl) (en Df (oF F (fun U F=>?_) fun U F=>?_)))))
 ·refine ct U (sR fun _ Dg=>pa (i_ 0) (en Dg (aj (tr CT (aE rfl rfl ?_)))));have hr:=oI F;exact ⟨(cR hr fun r=>i_ r.1 :),Eq.mp (congrArg (fun (r:Int × Int × Int)=>Sat J w0 (Box b0 88 [u0,i_ r.2.1,i_ r.2.2] :: G0)) hr :) S⟩
 refine cf U (sn CT (sg fun _ CU=>sR fun _ Dh=>pm (i_ a3) (pe (.bool (decide (a3 ≤ 256))) (lg rfl rfl) (en Dh (oF F (fun Y F=>?_) fun Y F=>?_)))))
 ·refine ct Y (sR fun _ Di=>pm (pt b0 0) (oB F fun CV C1 F=>?_));refine aS pn (ii ha0 S C1) (ca (ah rfl rfl)) dt ?_;rintro _ CX ⟨rfl,S⟩;refine ⟨_,rfl,?_⟩;replace S:Sat J CX (Box b0 88 [u0,i_ CV.2.1,i_ CV.2.2] :: G0):=S;refine pm (i_ a3) (oB F fun CY C2 F=>pe (i_ CY) (je rfl rfl C2) (pa (i_ CY) (en Di (aj (tr CU (aE rfl rfl ?_))))));have hr:=oI F;exact ⟨(cR hr fun r=>i_ r.1 :),Eq.mp (congrArg (fun (r:Int × Int × Int)=>Sat J CX (Box b0 88 [u0,i_ r.2.1,i_ r.2.2] :: G0)) hr :) S⟩
 refine cf Y (sn CU (sR fun _ Dj=>pm (pt b0 0) (oB F fun Z C3 F=>?_)));refine aS pn (ii ha0 S C3) (ca (ah rfl rfl)) dt ?_;rintro _ Dk ⟨rfl,S⟩;refine ⟨_,rfl,?_⟩;replace S:Sat J Dk (Box b0 88 [u0,i_ Z.2.1,i_ Z.2.2] :: G0):=S;refine pa (i_ Z.1) (en Dj (sR fun _ Dl=>pm (pt b0 0) (oB F fun CQ C4 F=>?_)));refine aS pn (ii ha0 S C4) (ca (ah rfl rfl)) dt ?_;rintro _ Dm ⟨rfl,S⟩;refine ⟨_,rfl,?_⟩;replace S:Sat J Dm (Box b0 88 [u0,i_ CQ.2.1,i_ CQ.2.2] :: G0):=S;refine pa (i_ CQ.1) (en Dl (sR fun _ Dn=>pm (pt b0 0) (oB F fun CR C5 F=>?_)));refine aS pn (ii ha0 S C5) (ca (ah rfl rfl)) dt ?_;rintro _ Do ⟨rfl,S⟩;refine ⟨_,rfl,?_⟩;replace S:Sat J Do (Box b0 88 [u0,i_ CR.2.1,i_ CR.2.2] :: G0):=S;refine pa (i_ CR.1) (en Dn (sR fun _ Dp=>pm (pt b0 0) (oB F fun CS C6 F=>?_)));refine aS pn (ii ha0 S C6) (ca (ah rfl rfl)) dt ?_;rintro _ CZ ⟨rfl,S⟩;refine ⟨_,rfl,?_⟩;replace S:Sat J CZ (Box b0 88 [u0,i_ CS.2.1,i_ CS.2.2] :: G0):=S;refine pa (i_ CS.1) (en Dp (sR fun _ Dq=>pm (i_ Z.1) (oB F fun Dr C7 F=>pe (i_ Dr) (lx rfl rfl C7) (pm (i_ CQ.1) (oB F fun Ds C8 F=>pe (i_ Ds) (lx rfl rfl C8) (oB F fun Dt C9 F=>pe (i_ Dt) (aD rfl rfl C9) (pm (i_ CR.1) (oB F fun Du Da F=>pe (i_ Du) (lx rfl rfl Da) (oB F fun Dv Db F=>pe (i_ Dv) (aD rfl rfl Db) (pm (i_ CS.1) (oB F fun Dw Dc F=>pe (i_ Dw) (aD rfl rfl Dc) (pm (i_ a3) (oB F fun C0 Dd F=>pe (i_ C0) (je rfl rfl Dd) (pa (i_ C0) (en Dq (aj (aE rfl rfl ?_)))))))))))))))));have hr:=oI F;exact ⟨(cR hr fun r=>i_ r.1 :),Eq.mp (congrArg (fun (r:Int × Int × Int)=>Sat J CZ (Box b0 88 [u0,i_ r.2.1,i_ r.2.2] :: G0)) hr :) S⟩
theorem cW {w0:World} {a0:Int} {a1:Int} {a2:Int}  {N:Nat} {r:Bool} (F:c6 N a0 a1 a2=some r): Calls Tryz.prog 52 #[i_ a0,i_ a1,i_ a2] w0 fun e w'=>e=.returned (.bool r)∧Ext w0 w' := by
 unfold c6 at F;refine aH Tryz.func52 rfl rfl dt ?_;have S:=Sat.start w0;refine sR fun _ Y=>pa (.bool false) (en Y (sR fun _ U=>pm (i_ a0) (pm (i_ a1) (pe (.bool (decide (a1 ≤ a0))) (jd rfl rfl) (pm (.bool (decide (a1 ≤ a0))) (oF F (fun J F=>?_) fun J F=>?_))))))
 ·refine ei J (pm (i_ a0) (ei J (pm (i_ a2) (ei J (pe (.bool (decide (a0 ≤ a2))) (lg rfl rfl) (pe (.bool (decide (a0 ≤ a2))) (ax rfl J rfl) (pa (.bool (decide (a0 ≤ a2))) (en U (aj (aE rfl rfl ?_))))))))));exact rB F S
 refine eo J (eo J (eo J (pe (.bool false) (aB rfl J rfl) (pa (.bool false) (en U (aj (aE rfl rfl ?_)))))));exact rB F S
theorem jE {w0:World} {u0:Value} {a0:List Int} (ha0:R0_.rd w0 [u0] a0) {N:Nat} {r:Bool} (F:d9 N a0=some r): Calls Tryz.prog 70 #[u0] w0 fun e w'=>e=.returned (.bool r)∧Ext w0 w' := by
 unfold d9 at F;refine aH Tryz.func70 rfl rfl dt ?_;have S:=Sat.start w0;refine sR fun _ C5=>pa (.bool false) (en C5 (sg fun _ CU=>sR fun _ C6=>pa (i_ 0) (en C6 (bg fun _ CV=>?_))));obtain ⟨C7,hL,CT⟩:=ob F;refine aM (fun k e w=>∃ (J:Int),e 0=u0∧e 3=i_ J∧Sat w0 w []∧cF N k a0 J=some C7) N ?_ ?_ ?_
 ·exact ⟨0,rfl,rfl,S,hL⟩
 ·rintro e w ⟨_,_,_,_,hz⟩; exact nn hz
 rintro k Dg Dh ⟨J,U,Y,S,F⟩;refine gn fun _ CR=>sg fun _ CX=>sR fun _ C8=>pM (i_ J) Y (pM u0 U (pe (i_ (a0.length:Int)) (au rfl ha0) (pe (.bool (decide (J < (a0.length:Int)))) (aV rfl rfl) (en C8 (oF F (fun Z F=>?_) fun Z F=>?_)))))
 ·refine ct Z (sn CX (sg fun _ CY=>bg fun _ CZ=>sR fun _ C9=>pM u0 U (pM (i_ J) Y (oB F fun Da C0 F=>?_))));refine aG (wA:=w0) rfl ha0 rfl dt rfl C0 dt ?_;intro Di De Dj C1 C2;obtain rfl:=C1;refine pe (i_ Da) (ac rfl ((ak S.below C2) 0 _ rfl)) (oB F fun Db C3 F=>?_);refine ec0 gU (cW C3) (ca (ah rfl (ah rfl (ah rfl rfl)))) S fun Dk Df S=>?_;refine pe (.bool (!Db)) (bo rfl) (en C9 (oF F (fun CQ F=>?_) fun CQ F=>?_))
  ·refine cf (am CQ) (bb (bn CZ (tn CY (ai (pM (i_ J) Y (oB F fun CS C4 F=>pe (i_ CS) (aD rfl rfl C4) (pa (i_ CS) (en CR ?_))))))));replace S:=S.keep 0;exact ⟨CS,U,rfl,S,F⟩
  refine ct (an CQ) (sR fun _ Dc=>pa (.bool false) (en Dc (aj (br CZ (tr CY (tr CR (br CV (tr CU ?_))))))));replace F:=exL F CT;refine aE rfl rfl ?_;exact rB F S
 refine cf Z (aL (tx CX (tx CR ?_)));replace F:=exA F CT;refine bS CV (tn CU (sR fun _ Dd=>pa (.bool true) (en Dd (aj (aE rfl rfl ?_)))));exact rB F S
theorem nD {w0:World} {a0:Int} {u1:Value} {a1:List T0_} (ha1:R2_.rd w0 [u1] a1) {N:Nat} {r:Int × List T0_} (F:iI N a0 a1=some r): Calls Tryz.prog 80 #[.agg #[i_ a0,u1]] w0 fun e w'=>∃ (q0:Value),e=.returned (.agg #[i_ r.1,q0])∧Sat w0 w' [Own R2_ [q0] r.2] := by
 unfold iI at F;refine aH Tryz.func80 rfl rfl dt ?_;have S:=Sat.start w0;refine sR fun _ Dg=>?_;refine bD [i_ a0,u1] rfl S dt ?_;intro DD U S Dw;refine aQ S dt ?_;intro DE CR S Dx;refine en Dg (sR fun _ Dh=>pe (pt U (0 + 0)) (ae rfl) (pe (i_ a0) (ac rfl ((S.boxAt 1 rfl) 0 _ rfl)) (pe (.agg #[i_ a0,n_]) (bq [(0,[i_ a0])] [i_ a0,n_] (dk rfl rfl) rfl) ?_)));refine aQ S dt ?_;intro DF Y S Dy;refine ap (S.top 0 rfl) rfl [i_ a0,n_] rfl rfl dt (all_cons rfl (all_cons rfl rfl)) ?_;intro Di S;replace S:Sat w0 Di [Box Y 38 [i_ a0,n_],Box CR 38 [i_ 0,n_],Box U 38 [i_ a0,u1]]:=S;refine en Dh (sg fun _ Dj=>sR fun _ Dk=>pa (i_ 0) (en Dk (bg fun _ Dl=>?_)));replace S:=S.nil R0_ 24;obtain ⟨Dm,hL,C7⟩:=ob F;refine aM (fun k e w=>∃ (J:Value),∃ (CS:List T0_),∃ (Z:Int),e 1=pt U 0∧e 2=pt CR 0∧e 3=pt Y 0∧e 4=i_ Z∧Sat w0 w [Own R2_ [J] CS,Box Y 38 [i_ a0,J],Box CR 38 [i_ 0,n_],Box U 38 [i_ a0,u1]]∧dP N k a0 a1 0 [] a0 CS Z=some Dm) N ?_ ?_ ?_
 ·exact ⟨n_,[],0,rfl,rfl,rfl,rfl,S,hL⟩
 ·rintro e w ⟨_,_,_,_,_,_,_,_,hz⟩; exact nn hz
 rintro k DG DH ⟨J,CS,Z,CT,CU,CQ,CV,S,F⟩;refine gn fun _ C3=>sg fun _ C4=>sR fun _ Dn=>pM (i_ Z) CV (pe (pt U (0 + 1)) (ae CT) (pe u1 (ac rfl ((S.boxAt 3 rfl) 1 _ rfl)) (pe (i_ (a1.length:Int)) (au rfl ha1) (pe (.bool (decide (Z < (a1.length:Int)))) (aV rfl rfl) (en Dn (oF F (fun CX F=>?_) fun CX F=>?_))))))
 ·refine ct CX (sn C4 (sg fun _ Do=>bg fun _ Dp=>?_));obtain ⟨C,hCd⟩:∃ C:World → Prop,∀ w,C w ↔ ∃ G,Sat w0 w ([Box Y 38 [i_ a0,J],Box U 38 [i_ a0,u1]] ++ G):=⟨_,fun _=>Iff.rfl⟩;refine bL [0,1,2,3,4,5,6,7,8,9,10,11] C (by kernel_rfl) ?_;intro DI C8;replace S:=S.ext C8;replace S:=S.t3.t2;have hC:=(hCd _).2 ⟨_,S⟩;refine aP (pt Y (0 + 1)) 0 rfl rfl hC (aq rfl (fun w' hw'=>by obtain ⟨_,S⟩:=(hCd _).1 hw'; exact (ae CQ))) ?_;refine aP J 1 rfl rfl hC (aq rfl (fun w' hw'=>by obtain ⟨_,S⟩:=(hCd _).1 hw'; exact (ac rfl ((S.boxAt 0 rfl) 1 _ rfl)))) ?_;refine aP (pt U (0 + 1)) 3 rfl rfl hC (aq rfl (fun w' hw'=>by obtain ⟨_,S⟩:=(hCd _).1 hw'; exact (ae CT))) ?_;refine aP u1 4 rfl rfl hC (aq rfl (fun w' hw'=>by obtain ⟨_,S⟩:=(hCd _).1 hw'; exact (ac rfl ((S.boxAt 1 rfl) 1 _ rfl)))) ?_;refine aP (i_ Z) 5 rfl rfl hC (aq rfl (fun w' hw'=>by obtain ⟨_,S⟩:=(hCd _).1 hw'; exact (aK CV))) ?_;refine oB F fun Dq C9 F=>?_;refine fI (wA:=w0) (by kernel_rfl) 6 rfl hC (by kernel_rfl) (by kernel_rfl) rfl ha1 rfl dt rfl C9 dt ?_;intro DJ Dz DK C0 Da;obtain ⟨Dr,rfl⟩:=aw C0;refine aP Dr 7 rfl rfl hC (aq rfl (fun w' hw'=>by obtain ⟨_,S⟩:=(hCd _).1 hw'; exact (ac rfl ((ak S.below Da) 0 _ rfl)))) ?_;refine aO 2 rfl ?_;refine aT bO S dt ?_;intro DL DM S DA;refine ag ?_;replace S:=S.t2.t2;have hC:=(hCd _).2 ⟨_,S⟩;refine ⟨fun _=>hC,?_⟩;refine aO 8 rfl ?_;refine oB F fun DN Db F=>?_;obtain ⟨DB,DO,Dc,Dd,C1⟩:=cZ (S.up C0);replace S:=S.t2;replace S:=S.ints (xs:=Dq);refine aC rfl dt rfl dt S rfl (rfl.trans Dc) rfl Dd C1 Db dt ?_;intro DP C5 S;refine ag ?_;replace S:=S.t2.t2;have hC:=(hCd _).2 ⟨_,S⟩;refine ⟨fun _=>hC,?_⟩;refine aO 9 rfl ?_;refine av [C5] (aX rfl (oc (S.rdAt (R:=R0_) 2 rfl))) (by rfl) dt rfl dt S dt ?_;intro DQ Ds S DC;refine ag ?_;replace S:=S.t2.t2;have hC:=(hCd _).2 ⟨_,S⟩;refine ⟨fun _=>hC,?_⟩;refine aO 10 rfl ?_;refine oB F fun C6 De F=>?_;have C2:=S.boxRow 2 rfl;replace S:=S.t4;replace S:=S.t4;replace S:=S.one;refine aC rfl dt rfl dt S rfl rfl rfl (by simp) C2 De dt ?_;intro DR CY S;refine ag ?_;replace S:=S.t2.t2;have hC:=(hCd _).2 ⟨_,S⟩;refine ⟨fun _=>hC,?_⟩;refine aO 11 rfl ?_;refine pe (pt Y (0 + 1)) (ae CQ) (ag ?_);refine ⟨fun _=>hC,?_⟩;refine aO 12 rfl ?_;refine ap (S.top 0 rfl) rfl [CY] (aX rfl (oc (S.rdAt (R:=R2_) 2 rfl))) rfl dt (all_cons (oc (S.rdAt (R:=R2_) 2 rfl)) rfl) ?_;intro Dt S;replace S:Sat w0 Dt [Box Y 38 [i_ a0,CY],Box U 38 [i_ a0,u1],Own R2_ [CY] C6,Box Ds 24 [C5],Box CR 38 [i_ 0,n_]]:=S;refine ag ?_;refine ⟨fun h=>(nomatch (show false=true from h)),?_⟩;refine bv (by kernel_rfl) ?_;refine bn Dp (tn Do ?_);replace S:=S.r3;refine ai (pM (i_ Z) CV (oB F fun CZ Df F=>pe (i_ CZ) (aD rfl rfl Df) (pa (i_ CZ) (en C3 ?_))));replace S:=S.t1.t3.t2.t3;replace S:=S.keep 4;exact ⟨CY,C6,CZ,CT,CU,CQ,rfl,S,F⟩
 refine cf CX (aL (tx C4 (tx C3 ?_)));replace F:=exB F C7;refine bS Dl (tn Dj (sg fun _ Du=>?_));replace S:=S.r3;refine ai (pe (.agg #[i_ a0,J]) (ay (cs:=[i_ a0,J]) CQ rfl (aA (S.boxAt 1 rfl))) ?_);refine ap (S.top 2 rfl) CU [i_ a0,J] rfl rfl dt (all_cons rfl (all_cons (oc (S.rdAt (R:=R2_) 0 rfl)) rfl)) ?_;intro Dv S;replace S:Sat w0 Dv [Box CR 38 [i_ a0,J],Own R2_ [J] CS,Box Y 38 [i_ a0,J]]:=S;refine en Du (aj ?_);refine dK (cs:=[i_ a0,J]) rfl CU rfl (aA (S.boxAt 0 rfl))  ?_;replace S:=S.t1;have hr:=oI F;exact ⟨J,cR hr fun r=>.agg #[i_ r.1,J],sP hr (fun r=>[Own R2_ [J] r.2]) (S.keep 1)⟩
theorem bl {w0:World} {u0:Value} {a0:List Int} {u1:Value} {a1:List Int} (ha0:R0_.rd w0 [u0] a0) (ha1:R0_.rd w0 [u1] a1) {N:Nat} {r:Int} (F:bk N a0 a1=some r): Calls Tryz.prog 71 #[u0,u1] w0 fun e w'=>e=.returned (i_ r)∧Ext w0 w' := by
 unfold bk at F;refine aH Tryz.func71 rfl rfl dt ?_;have S:=Sat.start w0;refine sR fun _ Dw=>pa (i_ 0) (en Dw (sg fun _ CT=>sR fun _ Dx=>pa (i_ 0) (en Dx (bg fun _ CU=>?_))));obtain ⟨Dy,hL,CR⟩:=ob F;refine aM (fun k e w=>∃ (J:Int),e 0=u0∧e 1=u1∧e 5=i_ J∧Sat w0 w []∧fu N k a0 a1 J=some Dy) N ?_ ?_ ?_
 ·exact ⟨0,rfl,rfl,rfl,S,hL⟩
 ·rintro e w ⟨_,_,_,_,_,hz⟩; exact nn hz
 rintro k DR DS ⟨J,Y,Z,CQ,S,F⟩;refine gn fun _ CS=>sg fun _ C3=>sR fun _ C7=>pM (i_ J) CQ (pM u0 Y (pe (i_ (a0.length:Int)) (au rfl ha0) (pe (.bool (decide (J < (a0.length:Int)))) (aV rfl rfl) (pm (.bool (decide (J < (a0.length:Int)))) (oF F (fun U F=>?_) fun U F=>?_)))))
 ·refine ei U (pM (i_ J) CQ (ei U (pM u1 Z (ei U (pe (i_ (a1.length:Int)) (au rfl ha1) (ei U (pe (.bool (decide (J < (a1.length:Int)))) (aV rfl rfl) (pe (.bool (decide (J < (a1.length:Int)))) (ax rfl U rfl) (en C7 (oF F (fun CV F=>?_) fun CV F=>?_))))))))))
  ·refine ct CV (sn C3 (sg fun _ C4=>bg fun _ C5=>sg fun _ C8=>sg fun _ Dz=>?_));refine bI (by kernel_rfl) (by kernel_rfl) ?_;refine qM u0 Y (qM (i_ J) CQ (oB F fun C9 Dh F=>?_));refine aY (wA:=w0) rfl ha0 rfl dt rfl Dh dt ?_;intro DT DN DU Di Dj;obtain rfl:=Di;refine qe (i_ C9) (ac rfl ((ak S.below Dj) 0 _ rfl)) (qM u1 Z (qM (i_ J) CQ (oB F fun Da Dk F=>?_)));refine aY (wA:=w0) rfl ha1 rfl dt rfl Dk dt ?_;intro DV DO DW Dl Dm;obtain rfl:=Dl;refine qe (i_ Da) (ac rfl ((ak S.below Dm) 0 _ rfl)) (qe (.bool (decide (C9 < Da))) (aV rfl rfl) (bj ?_));intro DX Dn;replace S:=S.ext Dn;refine tn Dz (oF F (fun CX F=>?_) fun CX F=>?_)
   ·refine ct CX (sR fun _ DA=>pa (i_ (-1)) (en DA (aj (tr C8 (br C5 (tr C4 (tr CS (br CU (tr CT ?_)))))))));replace F:=exL F CR;refine aE rfl rfl ?_;exact rI F S
   refine cf CX (sn C8 (sg fun _ DB=>?_));refine bI (by kernel_rfl) (by kernel_rfl) ?_;refine qM u0 Y (qM (i_ J) CQ (oB F fun Db Do F=>?_));refine aY (wA:=w0) rfl ha0 rfl dt rfl Do dt ?_;intro DY DP DZ Dp Dq;obtain rfl:=Dp;refine qe (i_ Db) (ac rfl ((ak S.below Dq) 0 _ rfl)) (qM u1 Z (qM (i_ J) CQ (oB F fun Dc Dr F=>?_)));refine aY (wA:=w0) rfl ha1 rfl dt rfl Dr dt ?_;intro D0 DQ D1 Ds Dt;obtain rfl:=Ds;refine qe (i_ Dc) (ac rfl ((ak S.below Dt) 0 _ rfl)) (qe (.bool (decide (Dc < Db))) (bR rfl rfl) (bj ?_));intro D2 Du;replace S:=S.ext Du;refine tn DB (oF F (fun CY F=>?_) fun CY F=>?_)
   ·refine ct CY (sR fun _ DC=>pa (i_ 1) (en DC (aj (br C5 (tr C4 (tr CS (br CU (tr CT ?_))))))));replace F:=exL F CR;refine aE rfl rfl ?_;exact rI F S
   refine cf CY (bb (bn C5 (tn C4 (ai (pM (i_ J) CQ (oB F fun C6 Dv F=>pe (i_ C6) (aD rfl rfl Dv) (pa (i_ C6) (en CS ?_))))))));replace S:=S.keep 0;exact ⟨C6,Y,Z,rfl,S,F⟩
  refine cf CV (aL (tx C3 (tx CS ?_)));replace F:=exA F CR;refine bS CU (tn CT (sg fun _ Dd=>sR fun _ DD=>pM u0 Y (pe (i_ (a0.length:Int)) (au rfl ha0) (pM u1 Z (pe (i_ (a1.length:Int)) (au rfl ha1) (pe (.bool (decide ((a0.length:Int) < (a1.length:Int)))) (aV rfl rfl) (en DD (oF F (fun CZ F=>?_) fun CZ F=>?_))))))))
  ·refine ct CZ (sR fun _ DE=>pa (i_ (-1)) (en DE (aj (tr Dd (aE rfl rfl ?_)))));exact rI F S
  refine cf CZ (sn Dd (sg fun _ De=>sR fun _ DF=>pM u0 Y (pe (i_ (a0.length:Int)) (au rfl ha0) (pM u1 Z (pe (i_ (a1.length:Int)) (au rfl ha1) (pe (.bool (decide ((a1.length:Int) < (a0.length:Int)))) (bR rfl rfl) (en DF (oF F (fun C0 F=>?_) fun C0 F=>?_))))))))
  ·refine ct C0 (sR fun _ DG=>pa (i_ 1) (en DG (aj (tr De (aE rfl rfl ?_)))));exact rI F S
  refine cf C0 (sn De (sR fun _ DH=>pa (i_ 0) (en DH (aj (aE rfl rfl ?_)))));exact rI F S
 refine eo U (eo U (eo U (eo U (pe (.bool false) (aB rfl U rfl) (en C7 (cf rfl (aL (tx C3 (tx CS ?_)))))))));replace F:=exA F CR;refine bS CU (tn CT (sg fun _ Df=>sR fun _ DI=>pM u0 Y (pe (i_ (a0.length:Int)) (au rfl ha0) (pM u1 Z (pe (i_ (a1.length:Int)) (au rfl ha1) (pe (.bool (decide ((a0.length:Int) < (a1.length:Int)))) (aV rfl rfl) (en DI (oF F (fun C1 F=>?_) fun C1 F=>?_))))))))
 ·refine ct C1 (sR fun _ DJ=>pa (i_ (-1)) (en DJ (aj (tr Df (aE rfl rfl ?_)))));exact rI F S
 refine cf C1 (sn Df (sg fun _ Dg=>sR fun _ DK=>pM u0 Y (pe (i_ (a0.length:Int)) (au rfl ha0) (pM u1 Z (pe (i_ (a1.length:Int)) (au rfl ha1) (pe (.bool (decide ((a1.length:Int) < (a0.length:Int)))) (bR rfl rfl) (en DK (oF F (fun C2 F=>?_) fun C2 F=>?_))))))))
 ·refine ct C2 (sR fun _ DL=>pa (i_ 1) (en DL (aj (tr Dg (aE rfl rfl ?_)))));exact rI F S
 refine cf C2 (sn Dg (sR fun _ DM=>pa (i_ 0) (en DM (aj (aE rfl rfl ?_)))));exact rI F S
theorem rF (N:Nat):∀ {w0:World} {u0:Value} {a0:List T0_} (_:R2_.rd w0 [u0] a0) {r:T1_} (_:eS N a0=some r), Calls Tryz.prog 81 #[u0] w0 fun e w'=>∃ (q0:Value),e=.returned (q0)∧Ext w0 w'∧R2_.rd w' [q0] r := by
 induction N with
 | zero=>intros; exact nomatch (show none=some _ by assumption)
 | succ N ih=>
  intro w0 u0 a0 ha0 r F;refine aH Tryz.func81 rfl rfl dt ?_;have S:=Sat.start w0;refine sR fun _ If=>pa n_ (en If (sg fun _ Ff=>sR fun _ Ig=>pm u0 (pe (i_ (a0.length:Int)) (au rfl ha0) (pe (.bool (decide ((a0.length:Int) < 2))) (aV rfl rfl) (en Ig (oF F (fun DS F=>?_) fun DS F=>?_))))))
  ·refine ct DS (sR fun _ Ih=>pm u0 (pa u0 (en Ih (aj (tr Ff (aE rfl rfl ?_))))));have hr:=oI F;exact ⟨u0,cR hr fun r=>u0,S.below,Eq.mp (congrArg (fun (r:T1_)=>R2_.rd w0 [u0] r) hr :) (S.up ha0)⟩
  refine cf DS (sn Ff (sR fun _ Ii=>pm u0 (pe (i_ (a0.length:Int)) (au rfl ha0) (oB F fun DT Gc F=>pe (i_ DT) (yA rfl rfl Gc) (pa (i_ DT) (en Ii (sR fun _ Ij=>pm u0 (pm (i_ DT) (oB F fun Kq Gd F=>?_)))))))));refine dE (wA:=w0) rfl rfl ha0 (.inr ⟨rfl,rfl⟩) (.inl (congrArg some rfl)) Gd dt ?_;intro Kr EP;refine oB F fun Ik Ge F=>?_;refine aS uw (ih (S.up EP) Ge) (ca (ah rfl rfl)) dt ?_;rintro _ EA ⟨Fg,rfl,Gf,Gg⟩;refine ⟨_,rfl,?_⟩;replace S:=S.ext Gf;have Gh:Ext w0 EA:=S.below;have DU:=S.up ha0;have JH:=S.up ha0;have JI:=S.up EP;replace S:=Sat.start EA;refine pa Fg (en Ij (sR fun _ Il=>pm u0 (pm (i_ DT) (oB F fun Ks Gi F=>?_))));refine dE (wA:=EA) rfl rfl DU (.inl (congrArg some rfl)) (.inr ⟨rfl,rfl⟩) Gi dt ?_;intro Kt EQ;refine oB F fun Im Gj F=>?_;refine aS uw (ih (S.up EQ) Gj) (ca (ah rfl rfl)) dt ?_;rintro _ J ⟨Fh,rfl,Gk,Gl⟩;refine ⟨_,rfl,?_⟩;replace S:=S.ext Gk;have Gm:Ext w0 J:=(S.rebase Gh).below;have JJ:=S.up DU;have Gn:=S.up Gg;have JK:=S.up DU;have JL:=S.up EQ;replace S:=Sat.start J;refine pa Fh (en Il (sR fun _ In=>?_));refine aT (roR J R0_) S dt ?_;intro Ku Fi S JM;refine pa Fi (en In (sg fun _ Io=>bg fun _ Ip=>?_));obtain ⟨Iq,hL,Gp⟩:=ob F;refine aM (fun k e w=>∃ (CU:Value),∃ (CY:List T0_),∃ (CV:Value),∃ (CZ:List T0_),∃ (Y:Value),∃ (Z:List T0_),e 4=CU∧e 5=CV∧e 6=Y∧Sat J w [Own (az (roR J R0_) 24) [Y] Z]∧R2_.rd J [CU] CY∧R2_.rd J [CV] CZ∧aJ (eS N) N k CY CZ Z=some Iq) N ?_ ?_ ?_
  ·exact ⟨Fg,Ik,Fh,Im,Fi,[],rfl,rfl,rfl,S,Gn,Gl,hL⟩
  ·rintro e w ⟨_,_,_,_,_,_,_,_,_,_,_,_,hz⟩; exact nn hz
  rintro k Kv Ir ⟨CU,CY,CV,CZ,Y,Z,CQ,CR,U,S,CS,CT,F⟩;refine gn fun _ CX=>sg fun _ EB=>sR fun _ Fj=>pM CU CQ (pe (i_ (CY.length:Int)) (au rfl CS) (pe (.bool (decide (0 < (CY.length:Int)))) (bR rfl rfl) (pm (.bool (decide (0 < (CY.length:Int)))) (oF F (fun Dc F=>?_) fun Dc F=>?_))))
  ·refine eo Dc (eo Dc (eo Dc (pe (.bool true) (ax rfl Dc rfl) (en Fj (ct rfl (sn EB (bg fun _ Da=>sR fun _ Is=>pa (i_ 0) (en Is (sg fun _ EC=>bg fun _ ED=>sR fun _ It=>pM CU CQ (pe (i_ (CY.length:Int)) (au rfl CS) (pe (.bool ((CY.length:Int) == 0)) (bc rfl rfl) (pa (.bool ((CY.length:Int) == 0)) (en It (oF F (fun DV F=>?_) fun DV F=>?_))))))))))))))
   ·refine ct DV (ai (pa (i_ 1) (ag (bn ED (tn EC (sR fun _ Iu=>?_))))));refine aT bO S dt ?_;intro Fk Iv S JN;refine pa Iv (en Iu (sg fun _ Fl=>sg fun _ Iw=>?_));replace S:=S.r0;refine ai (pm (i_ 1) (pe (.bool (decide (0 < (1:Int)))) (bR rfl rfl) (en Iw (oF F (fun DW F=>?_) fun DW F=>?_))))
    ·refine ct DW (sR fun _ Ix=>pM CV CR (oB F fun Kw Gq F=>?_));refine aG (wA:=J) rfl CT rfl dt rfl Gq dt ?_;intro Kx JO Ky Dd Gr;obtain ⟨Dn,rfl⟩:=aw Dd;refine pe Dn (ac rfl ((ak S.below Gr) 0 _ rfl)) (pa Dn (en Ix (ai (pM CV CR (oB F fun EE Gs F=>?_)))));refine dE (wA:=J) rfl rfl CT (.inl (congrArg some rfl)) (.inr ⟨rfl,rfl⟩) Gs dt ?_;intro DX DY;refine pa DX (en Fl (sR fun _ Fm=>pM Y U (pe (i_ (Z.length:Int)) (au rfl (S.rdAt (R:=(az (roR J R0_) 24)) 0 rfl)) (pe (.bool ((Z.length:Int) == 0)) (bc rfl rfl) (pm (.bool ((Z.length:Int) == 0)) (oF F (fun C0 F=>?_) fun C0 F=>?_))))))
     ·refine eo C0 (eo C0 (eo C0 (eo C0 (eo C0 (eo C0 (eo C0 (eo C0 (eo C0 (pe (.bool true) (ax rfl C0 rfl) (en Fm (ct rfl (ai (pM Y U (pm Dn ?_))))))))))))));refine av [Dn] (aX rfl (oc Dd)) (by rfl) dt rfl dt S dt ?_;intro Kz KA S JP;refine oB F fun Iy Gt F=>?_;have EV:=S.boxRow 0 rfl;replace S:=S.t1;replace S:=S.roOne (R:=R0_) (W:=J) Dd;replace S:=S.one;refine aC rfl dt rfl dt S rfl rfl rfl (by simp) EV Gt dt ?_;intro KB Fn S;refine pa Fn (ag (bn Da (tn CX ?_)));replace S:=S.keep 1;exact ⟨CU,CY,DX,EE,Fn,Iy,CQ,rfl,rfl,S,CS,DY,F⟩
     refine ei C0 (pM Y U (ei C0 (pM Y U (ei C0 (pe (i_ (Z.length:Int)) (au rfl (S.rdAt (R:=(az (roR J R0_) 24)) 0 rfl)) (ei C0 (oB F fun Iz Gu F=>pe (i_ Iz) (cq rfl rfl Gu) (ei C0 (oB F fun KC Gv F=>?_)))))))));refine aG (wA:=Fk) rfl (S.rdAt (R:=(az (roR J R0_) 24)) 0 rfl) rfl dt rfl Gv dt ?_;intro KD JQ KE DH Dx;replace DH:R0_.rd J _ _:=DH;obtain ⟨IA,rfl⟩:=aw DH;refine ei C0 (pe IA (ac rfl (Dx 0 _ rfl)) (ei C0 (pm Dn (ei C0 (oB F fun Fo Gw F=>?_)))));refine ec0 fx (bl (S.up DH) (S.up Dd) Gw) (ca (ah rfl (ah rfl rfl))) S fun KF Gx S=>?_;have Dx:=ak Gx Dx;refine ei C0 (pe (.bool (Fo != 0)) (dA rfl rfl) (pe (.bool (Fo != 0)) (aB rfl C0 rfl) (en Fm (oF F (fun DZ F=>?_) fun DZ F=>?_))))
     ·refine ct DZ (ai (pM Y U (pm Dn ?_)));refine av [Dn] (aX rfl (oc Dd)) (by rfl) dt rfl dt S dt ?_;intro KG KH S Gy;have Dx:=ak Gy Dx;refine oB F fun IB Gz F=>?_;have EW:=S.boxRow 0 rfl;replace S:=S.t1;replace S:=S.roOne (R:=R0_) (W:=J) Dd;replace S:=S.one;refine aC rfl dt rfl dt S rfl rfl rfl (by simp) EW Gz dt ?_;intro KI Fp S;refine pa Fp (ag (bn Da (tn CX ?_)));replace S:=S.keep 1;exact ⟨CU,CY,DX,EE,Fp,IB,CQ,rfl,rfl,S,CS,DY,F⟩
     refine cf DZ (bb (bn Da (tn CX ?_)));replace S:=S.keep 1;exact ⟨CU,CY,DX,EE,Y,Z,CQ,rfl,U,S,CS,DY,F⟩
    refine cf DW (sR fun _ IC=>pM CU CQ (oB F fun KJ GA F=>?_));refine aG (wA:=J) rfl CS rfl dt rfl GA dt ?_;intro KK JR KL De GB;obtain ⟨Do,rfl⟩:=aw De;refine pe Do (ac rfl ((ak S.below GB) 0 _ rfl)) (pa Do (en IC (ai (pM CU CQ (oB F fun EF GC F=>?_)))));refine dE (wA:=J) rfl rfl CS (.inl (congrArg some rfl)) (.inr ⟨rfl,rfl⟩) GC dt ?_;intro D0 D1;refine pa D0 (en Fl (sR fun _ Fq=>pM Y U (pe (i_ (Z.length:Int)) (au rfl (S.rdAt (R:=(az (roR J R0_) 24)) 0 rfl)) (pe (.bool ((Z.length:Int) == 0)) (bc rfl rfl) (pm (.bool ((Z.length:Int) == 0)) (oF F (fun C1 F=>?_) fun C1 F=>?_))))))
    ·refine eo C1 (eo C1 (eo C1 (eo C1 (eo C1 (eo C1 (eo C1 (eo C1 (eo C1 (pe (.bool true) (ax rfl C1 rfl) (en Fq (ct rfl (ai (pM Y U (pm Do ?_))))))))))))));refine av [Do] (aX rfl (oc De)) (by rfl) dt rfl dt S dt ?_;intro KM KN S JS;refine oB F fun ID GD F=>?_;have EX:=S.boxRow 0 rfl;replace S:=S.t1;replace S:=S.roOne (R:=R0_) (W:=J) De;replace S:=S.one;refine aC rfl dt rfl dt S rfl rfl rfl (by simp) EX GD dt ?_;intro KO Fr S;refine pa Fr (ag (bn Da (tn CX ?_)));replace S:=S.keep 1;exact ⟨D0,EF,CV,CZ,Fr,ID,rfl,CR,rfl,S,D1,CT,F⟩
    refine ei C1 (pM Y U (ei C1 (pM Y U (ei C1 (pe (i_ (Z.length:Int)) (au rfl (S.rdAt (R:=(az (roR J R0_) 24)) 0 rfl)) (ei C1 (oB F fun IE GE F=>pe (i_ IE) (cq rfl rfl GE) (ei C1 (oB F fun KP GF F=>?_)))))))));refine aG (wA:=Fk) rfl (S.rdAt (R:=(az (roR J R0_) 24)) 0 rfl) rfl dt rfl GF dt ?_;intro KR JT KS DI Dy;replace DI:R0_.rd J _ _:=DI;obtain ⟨IF,rfl⟩:=aw DI;refine ei C1 (pe IF (ac rfl (Dy 0 _ rfl)) (ei C1 (pm Do (ei C1 (oB F fun Fs GG F=>?_)))));refine ec0 fx (bl (S.up DI) (S.up De) GG) (ca (ah rfl (ah rfl rfl))) S fun KT GH S=>?_;have Dy:=ak GH Dy;refine ei C1 (pe (.bool (Fs != 0)) (dA rfl rfl) (pe (.bool (Fs != 0)) (aB rfl C1 rfl) (en Fq (oF F (fun D2 F=>?_) fun D2 F=>?_))))
    ·refine ct D2 (ai (pM Y U (pm Do ?_)));refine av [Do] (aX rfl (oc De)) (by rfl) dt rfl dt S dt ?_;intro KU KV S GI;have Dy:=ak GI Dy;refine oB F fun IG GJ F=>?_;have EY:=S.boxRow 0 rfl;replace S:=S.t1;replace S:=S.roOne (R:=R0_) (W:=J) De;replace S:=S.one;refine aC rfl dt rfl dt S rfl rfl rfl (by simp) EY GJ dt ?_;intro KW Ft S;refine pa Ft (ag (bn Da (tn CX ?_)));replace S:=S.keep 1;exact ⟨D0,EF,CV,CZ,Ft,IG,rfl,CR,rfl,S,D1,CT,F⟩
    refine cf D2 (bb (bn Da (tn CX ?_)));replace S:=S.keep 1;exact ⟨D0,EF,CV,CZ,Y,Z,rfl,CR,U,S,D1,CT,F⟩
   refine cf DV (sR fun _ IH=>pM CV CR (pe (i_ (CZ.length:Int)) (au rfl CT) (pe (.bool (decide (0 < (CZ.length:Int)))) (bR rfl rfl) (pa (.bool (decide (0 < (CZ.length:Int)))) (en IH (oF F (fun D3 F=>?_) fun D3 F=>?_))))))
   ·refine ct D3 ?_;refine bI (by kernel_rfl) (by kernel_rfl) ?_;refine qM CU CQ (oB F fun KX GK F=>?_);refine aY (wA:=J) rfl CS rfl dt rfl GK dt ?_;intro KY JU KZ ER GL;obtain ⟨II,rfl⟩:=aw ER;refine qe II (ac rfl ((ak S.below GL) 0 _ rfl)) (qM CV CR (oB F fun K0 GM F=>?_));refine aY (wA:=J) rfl CT rfl dt rfl GM dt ?_;intro K3 JV K4 ES GN;obtain ⟨IJ,rfl⟩:=aw ES;refine qe IJ (ac rfl ((ak S.below GN) 0 _ rfl)) (oB F fun D4 GO F=>?_);refine c4 (i_ D4) fx (fun w' hw'=>bl (cX (S.up ER) hw') (cX (S.up ES) hw') GO) (ca (ah rfl (ah rfl rfl))) dt ?_;refine qe (i_ D4) (cG rfl) (bj ?_);intro K5 GP;replace S:=S.ext GP;refine bn ED (tn EC (sR fun _ IK=>?_));refine aT bO S dt ?_;intro Fu IL S JW;refine pa IL (en IK (sg fun _ Fv=>sg fun _ IM=>?_));replace S:=S.r0;refine ai (pm (i_ D4) (pe (.bool (decide (0 < D4))) (bR rfl rfl) (en IM (oF F (fun D5 F=>?_) fun D5 F=>?_))))
    ·refine ct D5 (sR fun _ IN=>pM CV CR (oB F fun K6 GQ F=>?_));refine aG (wA:=J) rfl CT rfl dt rfl GQ dt ?_;intro K7 JX K8 Df GR;obtain ⟨Dp,rfl⟩:=aw Df;refine pe Dp (ac rfl ((ak S.below GR) 0 _ rfl)) (pa Dp (en IN (ai (pM CV CR (oB F fun EG GS F=>?_)))));refine dE (wA:=J) rfl rfl CT (.inl (congrArg some rfl)) (.inr ⟨rfl,rfl⟩) GS dt ?_;intro D6 D7;refine pa D6 (en Fv (sR fun _ Fw=>pM Y U (pe (i_ (Z.length:Int)) (au rfl (S.rdAt (R:=(az (roR J R0_) 24)) 0 rfl)) (pe (.bool ((Z.length:Int) == 0)) (bc rfl rfl) (pm (.bool ((Z.length:Int) == 0)) (oF F (fun C2 F=>?_) fun C2 F=>?_))))))
     ·refine eo C2 (eo C2 (eo C2 (eo C2 (eo C2 (eo C2 (eo C2 (eo C2 (eo C2 (pe (.bool true) (ax rfl C2 rfl) (en Fw (ct rfl (ai (pM Y U (pm Dp ?_))))))))))))));refine av [Dp] (aX rfl (oc Df)) (by rfl) dt rfl dt S dt ?_;intro K9 La S JY;refine oB F fun IP GT F=>?_;have EZ:=S.boxRow 0 rfl;replace S:=S.t1;replace S:=S.roOne (R:=R0_) (W:=J) Df;replace S:=S.one;refine aC rfl dt rfl dt S rfl rfl rfl (by simp) EZ GT dt ?_;intro Lb Fx S;refine pa Fx (ag (bn Da (tn CX ?_)));replace S:=S.keep 1;exact ⟨CU,CY,D6,EG,Fx,IP,CQ,rfl,rfl,S,CS,D7,F⟩
     refine ei C2 (pM Y U (ei C2 (pM Y U (ei C2 (pe (i_ (Z.length:Int)) (au rfl (S.rdAt (R:=(az (roR J R0_) 24)) 0 rfl)) (ei C2 (oB F fun IQ GU F=>pe (i_ IQ) (cq rfl rfl GU) (ei C2 (oB F fun Lc GV F=>?_)))))))));refine aG (wA:=Fu) rfl (S.rdAt (R:=(az (roR J R0_) 24)) 0 rfl) rfl dt rfl GV dt ?_;intro Ld JZ Le DJ Dz;replace DJ:R0_.rd J _ _:=DJ;obtain ⟨IR,rfl⟩:=aw DJ;refine ei C2 (pe IR (ac rfl (Dz 0 _ rfl)) (ei C2 (pm Dp (ei C2 (oB F fun Fy GW F=>?_)))));refine ec0 fx (bl (S.up DJ) (S.up Df) GW) (ca (ah rfl (ah rfl rfl))) S fun Lg GX S=>?_;have Dz:=ak GX Dz;refine ei C2 (pe (.bool (Fy != 0)) (dA rfl rfl) (pe (.bool (Fy != 0)) (aB rfl C2 rfl) (en Fw (oF F (fun D8 F=>?_) fun D8 F=>?_))))
     ·refine ct D8 (ai (pM Y U (pm Dp ?_)));refine av [Dp] (aX rfl (oc Df)) (by rfl) dt rfl dt S dt ?_;intro Lh Li S GY;have Dz:=ak GY Dz;refine oB F fun IS GZ F=>?_;have E0:=S.boxRow 0 rfl;replace S:=S.t1;replace S:=S.roOne (R:=R0_) (W:=J) Df;replace S:=S.one;refine aC rfl dt rfl dt S rfl rfl rfl (by simp) E0 GZ dt ?_;intro Lj Fz S;refine pa Fz (ag (bn Da (tn CX ?_)));replace S:=S.keep 1;exact ⟨CU,CY,D6,EG,Fz,IS,CQ,rfl,rfl,S,CS,D7,F⟩
     refine cf D8 (bb (bn Da (tn CX ?_)));replace S:=S.keep 1;exact ⟨CU,CY,D6,EG,Y,Z,CQ,rfl,U,S,CS,D7,F⟩
    refine cf D5 (sR fun _ IT=>pM CU CQ (oB F fun Lk G1 F=>?_));refine aG (wA:=J) rfl CS rfl dt rfl G1 dt ?_;intro Ll J0 Lm Dg G2;obtain ⟨Dq,rfl⟩:=aw Dg;refine pe Dq (ac rfl ((ak S.below G2) 0 _ rfl)) (pa Dq (en IT (ai (pM CU CQ (oB F fun EH G3 F=>?_)))));refine dE (wA:=J) rfl rfl CS (.inl (congrArg some rfl)) (.inr ⟨rfl,rfl⟩) G3 dt ?_;intro D9 Ea;refine pa D9 (en Fv (sR fun _ FA=>pM Y U (pe (i_ (Z.length:Int)) (au rfl (S.rdAt (R:=(az (roR J R0_) 24)) 0 rfl)) (pe (.bool ((Z.length:Int) == 0)) (bc rfl rfl) (pm (.bool ((Z.length:Int) == 0)) (oF F (fun C3 F=>?_) fun C3 F=>?_))))))
    ·refine eo C3 (eo C3 (eo C3 (eo C3 (eo C3 (eo C3 (eo C3 (eo C3 (eo C3 (pe (.bool true) (ax rfl C3 rfl) (en FA (ct rfl (ai (pM Y U (pm Dq ?_))))))))))))));refine av [Dq] (aX rfl (oc Dg)) (by rfl) dt rfl dt S dt ?_;intro Ln Lo S J1;refine oB F fun IU G4 F=>?_;have E1:=S.boxRow 0 rfl;replace S:=S.t1;replace S:=S.roOne (R:=R0_) (W:=J) Dg;replace S:=S.one;refine aC rfl dt rfl dt S rfl rfl rfl (by simp) E1 G4 dt ?_;intro Lp FB S;refine pa FB (ag (bn Da (tn CX ?_)));replace S:=S.keep 1;exact ⟨D9,EH,CV,CZ,FB,IU,rfl,CR,rfl,S,Ea,CT,F⟩
    refine ei C3 (pM Y U (ei C3 (pM Y U (ei C3 (pe (i_ (Z.length:Int)) (au rfl (S.rdAt (R:=(az (roR J R0_) 24)) 0 rfl)) (ei C3 (oB F fun IV G5 F=>pe (i_ IV) (cq rfl rfl G5) (ei C3 (oB F fun Lq G6 F=>?_)))))))));refine aG (wA:=Fu) rfl (S.rdAt (R:=(az (roR J R0_) 24)) 0 rfl) rfl dt rfl G6 dt ?_;intro Lr J2 Lt DK DA;replace DK:R0_.rd J _ _:=DK;obtain ⟨IW,rfl⟩:=aw DK;refine ei C3 (pe IW (ac rfl (DA 0 _ rfl)) (ei C3 (pm Dq (ei C3 (oB F fun FC G7 F=>?_)))));refine ec0 fx (bl (S.up DK) (S.up Dg) G7) (ca (ah rfl (ah rfl rfl))) S fun Lu G8 S=>?_;have DA:=ak G8 DA;refine ei C3 (pe (.bool (FC != 0)) (dA rfl rfl) (pe (.bool (FC != 0)) (aB rfl C3 rfl) (en FA (oF F (fun Eb F=>?_) fun Eb F=>?_))))
    ·refine ct Eb (ai (pM Y U (pm Dq ?_)));refine av [Dq] (aX rfl (oc Dg)) (by rfl) dt rfl dt S dt ?_;intro Lv Lw S G9;have DA:=ak G9 DA;refine oB F fun IX Ha F=>?_;have E2:=S.boxRow 0 rfl;replace S:=S.t1;replace S:=S.roOne (R:=R0_) (W:=J) Dg;replace S:=S.one;refine aC rfl dt rfl dt S rfl rfl rfl (by simp) E2 Ha dt ?_;intro Lx FD S;refine pa FD (ag (bn Da (tn CX ?_)));replace S:=S.keep 1;exact ⟨D9,EH,CV,CZ,FD,IX,rfl,CR,rfl,S,Ea,CT,F⟩
    refine cf Eb (bb (bn Da (tn CX ?_)));replace S:=S.keep 1;exact ⟨D9,EH,CV,CZ,Y,Z,rfl,CR,U,S,Ea,CT,F⟩
   refine cf D3 (ai (pa (i_ (-1)) (ag (bn ED (tn EC (sR fun _ IY=>?_))))));refine aT bO S dt ?_;intro FE IZ S J3;refine pa IZ (en IY (sg fun _ FF=>sg fun _ I0=>?_));replace S:=S.r0;refine ai (pm (i_ (-1)) (pe (.bool (decide (0 < ((-1):Int)))) (bR rfl rfl) (en I0 (oF F (fun Ec F=>?_) fun Ec F=>?_))))
   ·refine ct Ec (sR fun _ I1=>pM CV CR (oB F fun Ly Hb F=>?_));refine aG (wA:=J) rfl CT rfl dt rfl Hb dt ?_;intro Lz J4 LA Dh Hc;obtain ⟨Dr,rfl⟩:=aw Dh;refine pe Dr (ac rfl ((ak S.below Hc) 0 _ rfl)) (pa Dr (en I1 (ai (pM CV CR (oB F fun EI Hd F=>?_)))));refine dE (wA:=J) rfl rfl CT (.inl (congrArg some rfl)) (.inr ⟨rfl,rfl⟩) Hd dt ?_;intro Ed Ee;refine pa Ed (en FF (sR fun _ FG=>pM Y U (pe (i_ (Z.length:Int)) (au rfl (S.rdAt (R:=(az (roR J R0_) 24)) 0 rfl)) (pe (.bool ((Z.length:Int) == 0)) (bc rfl rfl) (pm (.bool ((Z.length:Int) == 0)) (oF F (fun C4 F=>?_) fun C4 F=>?_))))))
    ·refine eo C4 (eo C4 (eo C4 (eo C4 (eo C4 (eo C4 (eo C4 (eo C4 (eo C4 (pe (.bool true) (ax rfl C4 rfl) (en FG (ct rfl (ai (pM Y U (pm Dr ?_))))))))))))));refine av [Dr] (aX rfl (oc Dh)) (by rfl) dt rfl dt S dt ?_;intro LB LC S J5;refine oB F fun I2 He F=>?_;have E3:=S.boxRow 0 rfl;replace S:=S.t1;replace S:=S.roOne (R:=R0_) (W:=J) Dh;replace S:=S.one;refine aC rfl dt rfl dt S rfl rfl rfl (by simp) E3 He dt ?_;intro LD FH S;refine pa FH (ag (bn Da (tn CX ?_)));replace S:=S.keep 1;exact ⟨CU,CY,Ed,EI,FH,I2,CQ,rfl,rfl,S,CS,Ee,F⟩
    refine ei C4 (pM Y U (ei C4 (pM Y U (ei C4 (pe (i_ (Z.length:Int)) (au rfl (S.rdAt (R:=(az (roR J R0_) 24)) 0 rfl)) (ei C4 (oB F fun I3 Hf F=>pe (i_ I3) (cq rfl rfl Hf) (ei C4 (oB F fun LE Hg F=>?_)))))))));refine aG (wA:=FE) rfl (S.rdAt (R:=(az (roR J R0_) 24)) 0 rfl) rfl dt rfl Hg dt ?_;intro LF J6 LG DL DB;replace DL:R0_.rd J _ _:=DL;obtain ⟨I4,rfl⟩:=aw DL;refine ei C4 (pe I4 (ac rfl (DB 0 _ rfl)) (ei C4 (pm Dr (ei C4 (oB F fun FI Hh F=>?_)))));refine ec0 fx (bl (S.up DL) (S.up Dh) Hh) (ca (ah rfl (ah rfl rfl))) S fun LH Hi S=>?_;have DB:=ak Hi DB;refine ei C4 (pe (.bool (FI != 0)) (dA rfl rfl) (pe (.bool (FI != 0)) (aB rfl C4 rfl) (en FG (oF F (fun Ef F=>?_) fun Ef F=>?_))))
    ·refine ct Ef (ai (pM Y U (pm Dr ?_)));refine av [Dr] (aX rfl (oc Dh)) (by rfl) dt rfl dt S dt ?_;intro LI LJ S Hj;have DB:=ak Hj DB;refine oB F fun I5 Hk F=>?_;have E4:=S.boxRow 0 rfl;replace S:=S.t1;replace S:=S.roOne (R:=R0_) (W:=J) Dh;replace S:=S.one;refine aC rfl dt rfl dt S rfl rfl rfl (by simp) E4 Hk dt ?_;intro LK FJ S;refine pa FJ (ag (bn Da (tn CX ?_)));replace S:=S.keep 1;exact ⟨CU,CY,Ed,EI,FJ,I5,CQ,rfl,rfl,S,CS,Ee,F⟩
    refine cf Ef (bb (bn Da (tn CX ?_)));replace S:=S.keep 1;exact ⟨CU,CY,Ed,EI,Y,Z,CQ,rfl,U,S,CS,Ee,F⟩
   refine cf Ec (sR fun _ I6=>pM CU CQ (oB F fun LL Hl F=>?_));refine aG (wA:=J) rfl CS rfl dt rfl Hl dt ?_;intro LM J7 LN Di Hm;obtain ⟨Ds,rfl⟩:=aw Di;refine pe Ds (ac rfl ((ak S.below Hm) 0 _ rfl)) (pa Ds (en I6 (ai (pM CU CQ (oB F fun EJ Hn F=>?_)))));refine dE (wA:=J) rfl rfl CS (.inl (congrArg some rfl)) (.inr ⟨rfl,rfl⟩) Hn dt ?_;intro Eg Eh;refine pa Eg (en FF (sR fun _ FK=>pM Y U (pe (i_ (Z.length:Int)) (au rfl (S.rdAt (R:=(az (roR J R0_) 24)) 0 rfl)) (pe (.bool ((Z.length:Int) == 0)) (bc rfl rfl) (pm (.bool ((Z.length:Int) == 0)) (oF F (fun C5 F=>?_) fun C5 F=>?_))))))
   ·refine eo C5 (eo C5 (eo C5 (eo C5 (eo C5 (eo C5 (eo C5 (eo C5 (eo C5 (pe (.bool true) (ax rfl C5 rfl) (en FK (ct rfl (ai (pM Y U (pm Ds ?_))))))))))))));refine av [Ds] (aX rfl (oc Di)) (by rfl) dt rfl dt S dt ?_;intro LO LP S J8;refine oB F fun I7 Ho F=>?_;have E5:=S.boxRow 0 rfl;replace S:=S.t1;replace S:=S.roOne (R:=R0_) (W:=J) Di;replace S:=S.one;refine aC rfl dt rfl dt S rfl rfl rfl (by simp) E5 Ho dt ?_;intro LQ FL S;refine pa FL (ag (bn Da (tn CX ?_)));replace S:=S.keep 1;exact ⟨Eg,EJ,CV,CZ,FL,I7,rfl,CR,rfl,S,Eh,CT,F⟩
   refine ei C5 (pM Y U (ei C5 (pM Y U (ei C5 (pe (i_ (Z.length:Int)) (au rfl (S.rdAt (R:=(az (roR J R0_) 24)) 0 rfl)) (ei C5 (oB F fun I8 Hp F=>pe (i_ I8) (cq rfl rfl Hp) (ei C5 (oB F fun LR Hq F=>?_)))))))));refine aG (wA:=FE) rfl (S.rdAt (R:=(az (roR J R0_) 24)) 0 rfl) rfl dt rfl Hq dt ?_;intro LS J9 LT DM DC;replace DM:R0_.rd J _ _:=DM;obtain ⟨I9,rfl⟩:=aw DM;refine ei C5 (pe I9 (ac rfl (DC 0 _ rfl)) (ei C5 (pm Ds (ei C5 (oB F fun FM Hr F=>?_)))));refine ec0 fx (bl (S.up DM) (S.up Di) Hr) (ca (ah rfl (ah rfl rfl))) S fun LU Hs S=>?_;have DC:=ak Hs DC;refine ei C5 (pe (.bool (FM != 0)) (dA rfl rfl) (pe (.bool (FM != 0)) (aB rfl C5 rfl) (en FK (oF F (fun Ei F=>?_) fun Ei F=>?_))))
   ·refine ct Ei (ai (pM Y U (pm Ds ?_)));refine av [Ds] (aX rfl (oc Di)) (by rfl) dt rfl dt S dt ?_;intro LV LW S Ht;have DC:=ak Ht DC;refine oB F fun Ja Hu F=>?_;have E6:=S.boxRow 0 rfl;replace S:=S.t1;replace S:=S.roOne (R:=R0_) (W:=J) Di;replace S:=S.one;refine aC rfl dt rfl dt S rfl rfl rfl (by simp) E6 Hu dt ?_;intro LX FN S;refine pa FN (ag (bn Da (tn CX ?_)));replace S:=S.keep 1;exact ⟨Eg,EJ,CV,CZ,FN,Ja,rfl,CR,rfl,S,Eh,CT,F⟩
   refine cf Ei (bb (bn Da (tn CX ?_)));replace S:=S.keep 1;exact ⟨Eg,EJ,CV,CZ,Y,Z,rfl,CR,U,S,Eh,CT,F⟩
  refine ei Dc (pM CV CR (ei Dc (pe (i_ (CZ.length:Int)) (au rfl CT) (ei Dc (pe (.bool (decide (0 < (CZ.length:Int)))) (bR rfl rfl) (pe (.bool (decide (0 < (CZ.length:Int)))) (aB rfl Dc rfl) (en Fj (oF F (fun DN F=>?_) fun DN F=>?_))))))))
  ·refine ct DN (sn EB (bg fun _ Db=>sR fun _ Jb=>pa (i_ 0) (en Jb (sg fun _ FO=>bg fun _ FP=>sR fun _ Jc=>pM CU CQ (pe (i_ (CY.length:Int)) (au rfl CS) (pe (.bool ((CY.length:Int) == 0)) (bc rfl rfl) (pa (.bool ((CY.length:Int) == 0)) (en Jc (oF F (fun Ej F=>?_) fun Ej F=>?_)))))))))
   ·refine ct Ej (ai (pa (i_ 1) (ag (bn FP (tn FO (sR fun _ Jd=>?_))))));refine aT bO S dt ?_;intro FQ Je S Ka;refine pa Je (en Jd (sg fun _ FR=>sg fun _ Jf=>?_));replace S:=S.r0;refine ai (pm (i_ 1) (pe (.bool (decide (0 < (1:Int)))) (bR rfl rfl) (en Jf (oF F (fun Ek F=>?_) fun Ek F=>?_))))
    ·refine ct Ek (sR fun _ Jg=>pM CV CR (oB F fun LY Hv F=>?_));refine aG (wA:=J) rfl CT rfl dt rfl Hv dt ?_;intro LZ Kb L0 Dj Hw;obtain ⟨Dt,rfl⟩:=aw Dj;refine pe Dt (ac rfl ((ak S.below Hw) 0 _ rfl)) (pa Dt (en Jg (ai (pM CV CR (oB F fun EK Hx F=>?_)))));refine dE (wA:=J) rfl rfl CT (.inl (congrArg some rfl)) (.inr ⟨rfl,rfl⟩) Hx dt ?_;intro El Em;refine pa El (en FR (sR fun _ FS=>pM Y U (pe (i_ (Z.length:Int)) (au rfl (S.rdAt (R:=(az (roR J R0_) 24)) 0 rfl)) (pe (.bool ((Z.length:Int) == 0)) (bc rfl rfl) (pm (.bool ((Z.length:Int) == 0)) (oF F (fun C6 F=>?_) fun C6 F=>?_))))))
     ·refine eo C6 (eo C6 (eo C6 (eo C6 (eo C6 (eo C6 (eo C6 (eo C6 (eo C6 (pe (.bool true) (ax rfl C6 rfl) (en FS (ct rfl (ai (pM Y U (pm Dt ?_))))))))))))));refine av [Dt] (aX rfl (oc Dj)) (by rfl) dt rfl dt S dt ?_;intro L1 L2 S Kc;refine oB F fun Jh Hy F=>?_;have E7:=S.boxRow 0 rfl;replace S:=S.t1;replace S:=S.roOne (R:=R0_) (W:=J) Dj;replace S:=S.one;refine aC rfl dt rfl dt S rfl rfl rfl (by simp) E7 Hy dt ?_;intro L3 FT S;refine pa FT (ag (bn Db (tn CX ?_)));replace S:=S.keep 1;exact ⟨CU,CY,El,EK,FT,Jh,CQ,rfl,rfl,S,CS,Em,F⟩
     refine ei C6 (pM Y U (ei C6 (pM Y U (ei C6 (pe (i_ (Z.length:Int)) (au rfl (S.rdAt (R:=(az (roR J R0_) 24)) 0 rfl)) (ei C6 (oB F fun Ji Hz F=>pe (i_ Ji) (cq rfl rfl Hz) (ei C6 (oB F fun L4 HA F=>?_)))))))));refine aG (wA:=FQ) rfl (S.rdAt (R:=(az (roR J R0_) 24)) 0 rfl) rfl dt rfl HA dt ?_;intro L5 Kd L6 DO DD;replace DO:R0_.rd J _ _:=DO;obtain ⟨Jj,rfl⟩:=aw DO;refine ei C6 (pe Jj (ac rfl (DD 0 _ rfl)) (ei C6 (pm Dt (ei C6 (oB F fun FU HB F=>?_)))));refine ec0 fx (bl (S.up DO) (S.up Dj) HB) (ca (ah rfl (ah rfl rfl))) S fun L7 HC S=>?_;have DD:=ak HC DD;refine ei C6 (pe (.bool (FU != 0)) (dA rfl rfl) (pe (.bool (FU != 0)) (aB rfl C6 rfl) (en FS (oF F (fun En F=>?_) fun En F=>?_))))
     ·refine ct En (ai (pM Y U (pm Dt ?_)));refine av [Dt] (aX rfl (oc Dj)) (by rfl) dt rfl dt S dt ?_;intro L8 L9 S HD;have DD:=ak HD DD;refine oB F fun Jk HE F=>?_;have E8:=S.boxRow 0 rfl;replace S:=S.t1;replace S:=S.roOne (R:=R0_) (W:=J) Dj;replace S:=S.one;refine aC rfl dt rfl dt S rfl rfl rfl (by simp) E8 HE dt ?_;intro Ma FV S;refine pa FV (ag (bn Db (tn CX ?_)));replace S:=S.keep 1;exact ⟨CU,CY,El,EK,FV,Jk,CQ,rfl,rfl,S,CS,Em,F⟩
     refine cf En (bb (bn Db (tn CX ?_)));replace S:=S.keep 1;exact ⟨CU,CY,El,EK,Y,Z,CQ,rfl,U,S,CS,Em,F⟩
    refine cf Ek (sR fun _ Jl=>pM CU CQ (oB F fun Mb HF F=>?_));refine aG (wA:=J) rfl CS rfl dt rfl HF dt ?_;intro Mc Ke Md Dk HG;obtain ⟨Du,rfl⟩:=aw Dk;refine pe Du (ac rfl ((ak S.below HG) 0 _ rfl)) (pa Du (en Jl (ai (pM CU CQ (oB F fun EM HH F=>?_)))));refine dE (wA:=J) rfl rfl CS (.inl (congrArg some rfl)) (.inr ⟨rfl,rfl⟩) HH dt ?_;intro Eo Ep;refine pa Eo (en FR (sR fun _ FW=>pM Y U (pe (i_ (Z.length:Int)) (au rfl (S.rdAt (R:=(az (roR J R0_) 24)) 0 rfl)) (pe (.bool ((Z.length:Int) == 0)) (bc rfl rfl) (pm (.bool ((Z.length:Int) == 0)) (oF F (fun C7 F=>?_) fun C7 F=>?_))))))
    ·refine eo C7 (eo C7 (eo C7 (eo C7 (eo C7 (eo C7 (eo C7 (eo C7 (eo C7 (pe (.bool true) (ax rfl C7 rfl) (en FW (ct rfl (ai (pM Y U (pm Du ?_))))))))))))));refine av [Du] (aX rfl (oc Dk)) (by rfl) dt rfl dt S dt ?_;intro Me Mf S Kf;refine oB F fun Jm HI F=>?_;have E9:=S.boxRow 0 rfl;replace S:=S.t1;replace S:=S.roOne (R:=R0_) (W:=J) Dk;replace S:=S.one;refine aC rfl dt rfl dt S rfl rfl rfl (by simp) E9 HI dt ?_;intro Mg FX S;refine pa FX (ag (bn Db (tn CX ?_)));replace S:=S.keep 1;exact ⟨Eo,EM,CV,CZ,FX,Jm,rfl,CR,rfl,S,Ep,CT,F⟩
    refine ei C7 (pM Y U (ei C7 (pM Y U (ei C7 (pe (i_ (Z.length:Int)) (au rfl (S.rdAt (R:=(az (roR J R0_) 24)) 0 rfl)) (ei C7 (oB F fun Jn HJ F=>pe (i_ Jn) (cq rfl rfl HJ) (ei C7 (oB F fun Mh HK F=>?_)))))))));refine aG (wA:=FQ) rfl (S.rdAt (R:=(az (roR J R0_) 24)) 0 rfl) rfl dt rfl HK dt ?_;intro Mi Kg Mj DP DE;replace DP:R0_.rd J _ _:=DP;obtain ⟨Jo,rfl⟩:=aw DP;refine ei C7 (pe Jo (ac rfl (DE 0 _ rfl)) (ei C7 (pm Du (ei C7 (oB F fun FY HL F=>?_)))));refine ec0 fx (bl (S.up DP) (S.up Dk) HL) (ca (ah rfl (ah rfl rfl))) S fun Mk HM S=>?_;have DE:=ak HM DE;refine ei C7 (pe (.bool (FY != 0)) (dA rfl rfl) (pe (.bool (FY != 0)) (aB rfl C7 rfl) (en FW (oF F (fun Er F=>?_) fun Er F=>?_))))
    ·refine ct Er (ai (pM Y U (pm Du ?_)));refine av [Du] (aX rfl (oc Dk)) (by rfl) dt rfl dt S dt ?_;intro Ml Mm S HN;have DE:=ak HN DE;refine oB F fun Jp HO F=>?_;have Fa:=S.boxRow 0 rfl;replace S:=S.t1;replace S:=S.roOne (R:=R0_) (W:=J) Dk;replace S:=S.one;refine aC rfl dt rfl dt S rfl rfl rfl (by simp) Fa HO dt ?_;intro Mn FZ S;refine pa FZ (ag (bn Db (tn CX ?_)));replace S:=S.keep 1;exact ⟨Eo,EM,CV,CZ,FZ,Jp,rfl,CR,rfl,S,Ep,CT,F⟩
    refine cf Er (bb (bn Db (tn CX ?_)));replace S:=S.keep 1;exact ⟨Eo,EM,CV,CZ,Y,Z,rfl,CR,U,S,Ep,CT,F⟩
   refine cf Ej (sR fun _ Jq=>pM CV CR (pe (i_ (CZ.length:Int)) (au rfl CT) (pe (.bool (decide (0 < (CZ.length:Int)))) (bR rfl rfl) (pa (.bool (decide (0 < (CZ.length:Int)))) (en Jq (ct DN ?_))))));refine bI (by kernel_rfl) (by kernel_rfl) ?_;refine qM CU CQ (oB F fun Mo HP F=>?_);refine aY (wA:=J) rfl CS rfl dt rfl HP dt ?_;intro Mp Kh Mq ET HQ;obtain ⟨Jr,rfl⟩:=aw ET;refine qe Jr (ac rfl ((ak S.below HQ) 0 _ rfl)) (qM CV CR (oB F fun Mr HR F=>?_));refine aY (wA:=J) rfl CT rfl dt rfl HR dt ?_;intro Ms Ki Mu EU HS;obtain ⟨Js,rfl⟩:=aw EU;refine qe Js (ac rfl ((ak S.below HS) 0 _ rfl)) (oB F fun Es HT F=>?_);refine c4 (i_ Es) fx (fun w' hw'=>bl (cX (S.up ET) hw') (cX (S.up EU) hw') HT) (ca (ah rfl (ah rfl rfl))) dt ?_;refine qe (i_ Es) (cG rfl) (bj ?_);intro Mv HU;replace S:=S.ext HU;refine bn FP (tn FO (sR fun _ Jt=>?_));refine aT bO S dt ?_;intro F0 Ju S Kj;refine pa Ju (en Jt (sg fun _ F3=>sg fun _ Jv=>?_));replace S:=S.r0;refine ai (pm (i_ Es) (pe (.bool (decide (0 < Es))) (bR rfl rfl) (en Jv (oF F (fun Et F=>?_) fun Et F=>?_))))
   ·refine ct Et (sR fun _ Jw=>pM CV CR (oB F fun Mw HV F=>?_));refine aG (wA:=J) rfl CT rfl dt rfl HV dt ?_;intro Mx Kk My Dl HW;obtain ⟨Dv,rfl⟩:=aw Dl;refine pe Dv (ac rfl ((ak S.below HW) 0 _ rfl)) (pa Dv (en Jw (ai (pM CV CR (oB F fun EN HX F=>?_)))));refine dE (wA:=J) rfl rfl CT (.inl (congrArg some rfl)) (.inr ⟨rfl,rfl⟩) HX dt ?_;intro Eu Ev;refine pa Eu (en F3 (sR fun _ F4=>pM Y U (pe (i_ (Z.length:Int)) (au rfl (S.rdAt (R:=(az (roR J R0_) 24)) 0 rfl)) (pe (.bool ((Z.length:Int) == 0)) (bc rfl rfl) (pm (.bool ((Z.length:Int) == 0)) (oF F (fun C8 F=>?_) fun C8 F=>?_))))))
    ·refine eo C8 (eo C8 (eo C8 (eo C8 (eo C8 (eo C8 (eo C8 (eo C8 (eo C8 (pe (.bool true) (ax rfl C8 rfl) (en F4 (ct rfl (ai (pM Y U (pm Dv ?_))))))))))))));refine av [Dv] (aX rfl (oc Dl)) (by rfl) dt rfl dt S dt ?_;intro Mz MA S Kl;refine oB F fun Jx HY F=>?_;have Fb:=S.boxRow 0 rfl;replace S:=S.t1;replace S:=S.roOne (R:=R0_) (W:=J) Dl;replace S:=S.one;refine aC rfl dt rfl dt S rfl rfl rfl (by simp) Fb HY dt ?_;intro MB F5 S;refine pa F5 (ag (bn Db (tn CX ?_)));replace S:=S.keep 1;exact ⟨CU,CY,Eu,EN,F5,Jx,CQ,rfl,rfl,S,CS,Ev,F⟩
    refine ei C8 (pM Y U (ei C8 (pM Y U (ei C8 (pe (i_ (Z.length:Int)) (au rfl (S.rdAt (R:=(az (roR J R0_) 24)) 0 rfl)) (ei C8 (oB F fun Jy HZ F=>pe (i_ Jy) (cq rfl rfl HZ) (ei C8 (oB F fun MC H0 F=>?_)))))))));refine aG (wA:=F0) rfl (S.rdAt (R:=(az (roR J R0_) 24)) 0 rfl) rfl dt rfl H0 dt ?_;intro MD Km ME DQ DF;replace DQ:R0_.rd J _ _:=DQ;obtain ⟨Jz,rfl⟩:=aw DQ;refine ei C8 (pe Jz (ac rfl (DF 0 _ rfl)) (ei C8 (pm Dv (ei C8 (oB F fun F6 H1 F=>?_)))));refine ec0 fx (bl (S.up DQ) (S.up Dl) H1) (ca (ah rfl (ah rfl rfl))) S fun MF H2 S=>?_;have DF:=ak H2 DF;refine ei C8 (pe (.bool (F6 != 0)) (dA rfl rfl) (pe (.bool (F6 != 0)) (aB rfl C8 rfl) (en F4 (oF F (fun Ew F=>?_) fun Ew F=>?_))))
    ·refine ct Ew (ai (pM Y U (pm Dv ?_)));refine av [Dv] (aX rfl (oc Dl)) (by rfl) dt rfl dt S dt ?_;intro MG MH S H3;have DF:=ak H3 DF;refine oB F fun JA H4 F=>?_;have Fc:=S.boxRow 0 rfl;replace S:=S.t1;replace S:=S.roOne (R:=R0_) (W:=J) Dl;replace S:=S.one;refine aC rfl dt rfl dt S rfl rfl rfl (by simp) Fc H4 dt ?_;intro MI F7 S;refine pa F7 (ag (bn Db (tn CX ?_)));replace S:=S.keep 1;exact ⟨CU,CY,Eu,EN,F7,JA,CQ,rfl,rfl,S,CS,Ev,F⟩
    refine cf Ew (bb (bn Db (tn CX ?_)));replace S:=S.keep 1;exact ⟨CU,CY,Eu,EN,Y,Z,CQ,rfl,U,S,CS,Ev,F⟩
   refine cf Et (sR fun _ JB=>pM CU CQ (oB F fun MJ H5 F=>?_));refine aG (wA:=J) rfl CS rfl dt rfl H5 dt ?_;intro MK Kn ML Dm H6;obtain ⟨Dw,rfl⟩:=aw Dm;refine pe Dw (ac rfl ((ak S.below H6) 0 _ rfl)) (pa Dw (en JB (ai (pM CU CQ (oB F fun EO H7 F=>?_)))));refine dE (wA:=J) rfl rfl CS (.inl (congrArg some rfl)) (.inr ⟨rfl,rfl⟩) H7 dt ?_;intro Ex Ey;refine pa Ex (en F3 (sR fun _ F8=>pM Y U (pe (i_ (Z.length:Int)) (au rfl (S.rdAt (R:=(az (roR J R0_) 24)) 0 rfl)) (pe (.bool ((Z.length:Int) == 0)) (bc rfl rfl) (pm (.bool ((Z.length:Int) == 0)) (oF F (fun C9 F=>?_) fun C9 F=>?_))))))
   ·refine eo C9 (eo C9 (eo C9 (eo C9 (eo C9 (eo C9 (eo C9 (eo C9 (eo C9 (pe (.bool true) (ax rfl C9 rfl) (en F8 (ct rfl (ai (pM Y U (pm Dw ?_))))))))))))));refine av [Dw] (aX rfl (oc Dm)) (by rfl) dt rfl dt S dt ?_;intro MM MN S Ko;refine oB F fun JC H8 F=>?_;have Fd:=S.boxRow 0 rfl;replace S:=S.t1;replace S:=S.roOne (R:=R0_) (W:=J) Dm;replace S:=S.one;refine aC rfl dt rfl dt S rfl rfl rfl (by simp) Fd H8 dt ?_;intro MO F9 S;refine pa F9 (ag (bn Db (tn CX ?_)));replace S:=S.keep 1;exact ⟨Ex,EO,CV,CZ,F9,JC,rfl,CR,rfl,S,Ey,CT,F⟩
   refine ei C9 (pM Y U (ei C9 (pM Y U (ei C9 (pe (i_ (Z.length:Int)) (au rfl (S.rdAt (R:=(az (roR J R0_) 24)) 0 rfl)) (ei C9 (oB F fun JD H9 F=>pe (i_ JD) (cq rfl rfl H9) (ei C9 (oB F fun MP Ia F=>?_)))))))));refine aG (wA:=F0) rfl (S.rdAt (R:=(az (roR J R0_) 24)) 0 rfl) rfl dt rfl Ia dt ?_;intro MQ Kp MR DR DG;replace DR:R0_.rd J _ _:=DR;obtain ⟨JE,rfl⟩:=aw DR;refine ei C9 (pe JE (ac rfl (DG 0 _ rfl)) (ei C9 (pm Dw (ei C9 (oB F fun Ga Ib F=>?_)))));refine ec0 fx (bl (S.up DR) (S.up Dm) Ib) (ca (ah rfl (ah rfl rfl))) S fun MS Ic S=>?_;have DG:=ak Ic DG;refine ei C9 (pe (.bool (Ga != 0)) (dA rfl rfl) (pe (.bool (Ga != 0)) (aB rfl C9 rfl) (en F8 (oF F (fun Ez F=>?_) fun Ez F=>?_))))
   ·refine ct Ez (ai (pM Y U (pm Dw ?_)));refine av [Dw] (aX rfl (oc Dm)) (by rfl) dt rfl dt S dt ?_;intro MT MU S Id;have DG:=ak Id DG;refine oB F fun JF Ie F=>?_;have Fe:=S.boxRow 0 rfl;replace S:=S.t1;replace S:=S.roOne (R:=R0_) (W:=J) Dm;replace S:=S.one;refine aC rfl dt rfl dt S rfl rfl rfl (by simp) Fe Ie dt ?_;intro MV Gb S;refine pa Gb (ag (bn Db (tn CX ?_)));replace S:=S.keep 1;exact ⟨Ex,EO,CV,CZ,Gb,JF,rfl,CR,rfl,S,Ey,CT,F⟩
   refine cf Ez (bb (bn Db (tn CX ?_)));replace S:=S.keep 1;exact ⟨Ex,EO,CV,CZ,Y,Z,rfl,CR,U,S,Ey,CT,F⟩
  refine cf DN (aL (tx EB (tx CX ?_)));replace F:=exB F Gp;refine bS Ip (tn Io (sR fun _ JG=>pM Y U (pa Y (en JG (aj (aE rfl rfl ?_))))));have hr:=oI F;exact ⟨Y,cR hr fun r=>Y,(S.rebase Gm).below,Eq.mp (congrArg (fun (r:T1_)=>R2_.rd Ir [Y] r) hr :) (Cy S.below (S.rdAt (R:=(az (roR J R0_) 24)) 0 rfl))⟩
theorem sq {w0 : World} {u0 : Value} {a0 : List T0_} (ha0 : R2_.rd w0 [u0] a0) {N : Nat} {r : T1_} (hF : eS N a0 = some r) :
    Calls Tryz.prog 81 #[u0] w0 fun e w' => ∃ (q0 : Value), e = .returned (q0) ∧ Ext w0 w' ∧ R2_.rd w' [q0] r := rF N ha0 hF
theorem dU {w0:World} {a0:Int} {u1:Value} {a1:List T0_} (ha1:R2_.rd w0 [u1] a1) {N:Nat} {r:Bool} (F:co N a0 a1=some r): Calls Tryz.prog 82 #[.agg #[i_ a0,u1]] w0 fun e w'=>e=.returned (.bool r)∧Ext w0 w' := by
 unfold co at F;refine aH Tryz.func82 rfl rfl dt ?_;have S:=Sat.start w0;refine sR fun _ DA=>?_;refine bD [i_ a0,u1] rfl S dt ?_;intro DV CT S DP;refine pa (.bool false) (en DA (sg fun _ C7=>sR fun _ Df=>pe (pt CT (0 + 0)) (ae rfl) (pe (i_ a0) (ac rfl ((S.boxAt 0 rfl) 0 _ rfl)) (oB F fun Dg Di F=>?_))));refine ec0 gU (cW Di) (ca (ah rfl (ah rfl (ah rfl rfl)))) S fun DW DQ S=>?_;refine pe (.bool (!Dg)) (bo rfl) (pm (.bool (!Dg)) (oF F (fun Z F=>?_) fun Z F=>?_))
 ·refine ei (am Z) (pe (pt CT (0 + 1)) (ae rfl) (ei (am Z) (pe u1 (ac rfl ((S.boxAt 0 rfl) 1 _ rfl)) (ei (am Z) (pe (i_ (a1.length:Int)) (au rfl ha1) (ei (am Z) (pe (.bool (decide (4000 < (a1.length:Int)))) (bR rfl rfl) (pe (.bool (decide (4000 < (a1.length:Int)))) (aB rfl (am Z) rfl) (en Df (oF F (fun CZ F=>?_) fun CZ F=>?_))))))))))
  ·refine ct CZ (sg fun _ DB=>?_);replace S:=S.r0;refine ai (pa (.bool false) (en DB (aj (tr C7 (aE rfl rfl ?_)))));exact rB F S
  refine cf CZ (sn C7 (sg fun _ C0=>sR fun _ DC=>pa (i_ 0) (en DC (bg fun _ C1=>?_))));obtain ⟨DD,hL,CV⟩:=ob F;refine aM (fun k e w=>∃ (CQ:Int),e 1=pt CT 0∧e 3=i_ CQ∧Sat w0 w [Box CT 38 [i_ a0,u1]]∧cc N k a0 a1 CQ=some DD) N ?_ ?_ ?_
  ·exact ⟨0,rfl,rfl,S,hL⟩
  ·rintro e w ⟨_,_,_,_,hz⟩; exact nn hz
  rintro k DX DY ⟨CQ,CR,CS,S,F⟩;refine gn fun _ CU=>sg fun _ Dh=>sR fun _ DE=>pM (i_ CQ) CS (pe (pt CT (0 + 1)) (ae CR) (pe u1 (ac rfl ((S.boxAt 0 rfl) 1 _ rfl)) (pe (i_ (a1.length:Int)) (au rfl ha1) (pe (.bool (decide (CQ < (a1.length:Int)))) (aV rfl rfl) (en DE (oF F (fun C2 F=>?_) fun C2 F=>?_))))))
  ·refine ct C2 (sn Dh (sg fun _ CX=>bg fun _ CY=>sg fun _ C3=>?_));refine bI (by kernel_rfl) (by kernel_rfl) ?_;refine qe (pt CT (0 + 1)) (ae CR) (qe u1 (ac rfl ((S.boxAt 0 rfl) 1 _ rfl)) (qM (i_ CQ) CS (oB F fun C8 Dj F=>?_)));refine aY (wA:=w0) rfl ha1 rfl dt rfl Dj dt ?_;intro DZ DR D0 Db Dk;obtain ⟨DF,rfl⟩:=aw Db;refine qe DF (ac rfl ((ak S.below Dk) 0 _ rfl)) (qe (i_ (C8.length:Int)) (au rfl Db) (qe (pt CT (0 + 0)) (ae CR) (qe (i_ a0) (ac rfl ((S.boxAt 0 rfl) 0 _ rfl)) (qe (.bool ((C8.length:Int) != a0)) (dA rfl rfl) (qm (.bool ((C8.length:Int) != a0)) (oF F (fun U F=>?_) fun U F=>?_))))))
   ·refine qo U (qo U (qo U (qo U (qo U (qo U (qo U (qe (.bool true) (ax rfl U rfl) (qm (.bool true) (qo rfl (qo rfl (qo rfl ?_)))))))))));refine bQ rfl dt ?_;refine bQ rfl dt ?_;refine bQ rfl dt ?_;refine bQ rfl dt ?_;refine bQ rfl dt ?_;refine bQ rfl dt ?_;refine bQ rfl dt ?_;refine bQ rfl dt ?_;refine bQ rfl dt ?_;refine bQ rfl dt ?_;refine bQ rfl dt ?_;refine bQ rfl dt ?_;refine bQ rfl dt ?_;refine qo rfl (qe (.bool true) (ax rfl rfl rfl) (bj ?_));intro D1 Dl;replace S:=S.ext Dl;refine tn C3 (ct rfl (sg fun _ DG=>?_));replace S:=S.r0;refine ai (pa (.bool false) (en DG (aj (br CY (tr CX (tr CU (br C1 (tr C0 ?_))))))));replace F:=exL F CV;refine aE rfl rfl ?_;exact rB F S
   refine qi U (qe (pt CT (0 + 1)) (ae CR) (qi U (qe u1 (ac rfl ((S.boxAt 0 rfl) 1 _ rfl)) (qi U (qM (i_ CQ) CS (qi U (oB F fun D2 Dm F=>?_)))))));refine aY (wA:=w0) rfl ha1 rfl dt rfl Dm dt ?_;intro D3 DS D4 Dc Dn;obtain ⟨DH,rfl⟩:=aw Dc;refine qi U (qe DH (ac rfl ((ak S.below Dn) 0 _ rfl)) (qi U (oB F fun C4 Do F=>?_)));refine c4 (.bool C4) yl (fun w' hw'=>jE (cX (S.up Dc) hw') Do) (ca (ah rfl rfl)) dt ?_;refine qi U (qe (.bool (!C4)) (bo rfl) (qe (.bool (!C4)) (aB rfl U rfl) (qm (.bool (!C4)) (oF F (fun Y F=>?_) fun Y F=>?_))))
   ·refine qi (am Y) (qM (i_ CQ) CS (qi (am Y) (qe (.bool (decide (0 < CQ))) (bR rfl rfl) (qi (am Y) (qm (.bool (decide (0 < CQ))) (oF F (fun J F=>?_) fun J F=>?_))))))
    ·refine qi J (qe (pt CT (0 + 1)) (ae CR) (qi J (qe u1 (ac rfl ((S.boxAt 0 rfl) 1 _ rfl)) (qi J (qM (i_ CQ) CS (qi J (oB F fun DI Dp F=>qe (i_ DI) (cq rfl rfl Dp) (qi J (oB F fun D5 Dq F=>?_)))))))));refine aY (wA:=w0) rfl ha1 rfl dt rfl Dq dt ?_;intro D6 DT D7 Dd Dr;obtain ⟨DJ,rfl⟩:=aw Dd;refine qi J (qe DJ (ac rfl ((ak S.below Dr) 0 _ rfl)) (qi J (qe (pt CT (0 + 1)) (ae CR) (qi J (qe u1 (ac rfl ((S.boxAt 0 rfl) 1 _ rfl)) (qi J (qM (i_ CQ) CS (qi J (oB F fun D8 Ds F=>?_)))))))));refine aY (wA:=w0) rfl ha1 rfl dt rfl Ds dt ?_;intro D9 DU Ea De Dt;obtain ⟨DK,rfl⟩:=aw De;refine qi J (qe DK (ac rfl ((ak S.below Dt) 0 _ rfl)) (qi J (oB F fun C5 Du F=>?_)));refine c4 (i_ C5) fx (fun w' hw'=>bl (cX (S.up Dd) hw') (cX (S.up De) hw') Du) (ca (ah rfl (ah rfl rfl))) dt ?_;refine qi J (qe (.bool (decide (0 ≤ C5))) (jd rfl rfl) (qi (am Y) (qe (.bool (decide (0 ≤ C5))) (ax rfl J rfl) (qe (.bool (decide (0 ≤ C5))) (aB rfl (am Y) rfl) (bj ?_)))));intro Eb Dv;replace S:=S.ext Dv;refine tn C3 (oF F (fun C6 F=>?_) fun C6 F=>?_)
     ·refine ct C6 (sg fun _ DL=>?_);replace S:=S.r0;refine ai (pa (.bool false) (en DL (aj (br CY (tr CX (tr CU (br C1 (tr C0 ?_))))))));replace F:=exL F CV;refine aE rfl rfl ?_;exact rB F S
     refine cf C6 (bb (bn CY (tn CX (ai (pM (i_ CQ) CS (oB F fun C9 Dw F=>pe (i_ C9) (aD rfl rfl Dw) (pa (i_ C9) (en CU ?_))))))));replace S:=S.keep 1;exact ⟨C9,CR,rfl,S,F⟩
    refine qo J (qo J (qo J (qo J (qo J (qo J (qo J (qo J (qo J (qo J (qo J (qo J (qo J (qi (am Y) (qe (.bool false) (aB rfl J rfl) (qe (.bool false) (aB rfl (am Y) rfl) (bj ?_))))))))))))))));intro Ec Dx;replace S:=S.ext Dx;refine tn C3 (cf rfl (bb (bn CY (tn CX (ai (pM (i_ CQ) CS (oB F fun Da Dy F=>pe (i_ Da) (aD rfl rfl Dy) (pa (i_ Da) (en CU ?_)))))))));replace S:=S.keep 1;exact ⟨Da,CR,rfl,S,F⟩
   refine qo (an Y) (qo (an Y) (qo (an Y) ?_));refine bQ rfl dt ?_;refine bQ rfl dt ?_;refine bQ rfl dt ?_;refine bQ rfl dt ?_;refine bQ rfl dt ?_;refine bQ rfl dt ?_;refine bQ rfl dt ?_;refine bQ rfl dt ?_;refine bQ rfl dt ?_;refine bQ rfl dt ?_;refine bQ rfl dt ?_;refine bQ rfl dt ?_;refine bQ rfl dt ?_;refine qo (an Y) (qe (.bool true) (ax rfl (an Y) rfl) (bj ?_));intro Ed Dz;replace S:=S.ext Dz;refine tn C3 (ct rfl (sg fun _ DM=>?_));replace S:=S.r0;refine ai (pa (.bool false) (en DM (aj (br CY (tr CX (tr CU (br C1 (tr C0 ?_))))))));replace F:=exL F CV;refine aE rfl rfl ?_;exact rB F S
  refine cf C2 (aL (tx Dh (tx CU ?_)));replace F:=exA F CV;refine bS C1 (tn C0 (sg fun _ DN=>?_));replace S:=S.r0;refine ai (pa (.bool true) (en DN (aj (aE rfl rfl ?_))));exact rB F S
 refine eo (an Z) (eo (an Z) (eo (an Z) (eo (an Z) (pe (.bool true) (ax rfl (an Z) rfl) (en Df (ct rfl (sg fun _ DO=>?_)))))));replace S:=S.r0;refine ai (pa (.bool false) (en DO (aj (tr C7 (aE rfl rfl ?_)))));exact rB F S
theorem dq {w0:World} {a0:Int} {u1:Value} {a1:List T0_} (ha1:R2_.rd w0 [u1] a1) {N:Nat} {r:T4_ × Bool} (F:cM N a0 a1=some r): Calls Tryz.prog 47 #[i_ a0,u1] w0 fun e w'=>∃ (q0:Value),e=.returned (.tuple #[.agg #[i_ r.1.1,q0],.bool r.2])∧Sat w0 w' [Own R2_ [q0] r.1.2] := by
 unfold cM at F;refine aH Tryz.func47 rfl rfl dt ?_;have S:=Sat.start w0;refine sR fun _ Ds=>?_;refine aQ S dt ?_;intro DP CS S DK;refine pa (.bool false) (en Ds (sg fun _ C2=>sR fun _ Dt=>pa (i_ 0) (en Dt (bg fun _ C3=>?_))));obtain ⟨Du,hL,CV⟩:=ob F;refine aM (fun k e w=>∃ (CQ:Int),e 0=i_ a0∧e 1=u1∧e 4=pt CS 0∧e 6=i_ CQ∧Sat w0 w [Box CS 38 [i_ 0,n_]]∧cN N k a0 a1 0 [] CQ=some Du) N ?_ ?_ ?_
 ·exact ⟨0,rfl,rfl,rfl,rfl,S,hL⟩
 ·rintro e w ⟨_,_,_,_,_,_,hz⟩; exact nn hz
 rintro k DQ DR ⟨CQ,CX,CT,Z,CU,S,F⟩;refine gn fun _ CY=>sg fun _ Db=>sR fun _ Dv=>pM (i_ CQ) CU (pM u1 CT (pe (i_ (a1.length:Int)) (au rfl ha1) (pe (.bool (decide (CQ < (a1.length:Int)))) (aV rfl rfl) (en Dv (oF F (fun CZ F=>?_) fun CZ F=>?_)))))
 ·refine ct CZ (sn Db (sg fun _ C4=>bg fun _ C5=>sR fun _ Dc=>pM u1 CT (pM (i_ CQ) CU (oB F fun C6 Dg F=>?_))));refine aG (wA:=w0) rfl ha1 rfl dt rfl Dg dt ?_;intro DS DL DT C9 Dh;obtain ⟨Dw,rfl⟩:=aw C9;refine pe Dw (ac rfl ((ak S.below Dh) 0 _ rfl)) (pe (i_ (C6.length:Int)) (au rfl C9) (pM (i_ a0) CX (pe (.bool ((C6.length:Int) != a0)) (dA rfl rfl) (pm (.bool ((C6.length:Int) != a0)) (oF F (fun J F=>?_) fun J F=>?_)))))
  ·refine eo J (eo J (eo J (eo J (eo J (eo J (pe (.bool true) (ax rfl J rfl) (en Dc (ct rfl (sR fun _ Dx=>pe (.agg #[i_ 0,n_]) (bq [] [i_ 0,n_] rfl rfl) ?_)))))))));refine ap (S.top 0 rfl) Z [i_ 0,n_] rfl rfl dt (all_cons rfl (all_cons rfl rfl)) ?_;intro Dy S;replace S:Sat w0 Dy [Box CS 38 [i_ 0,n_]]:=S;refine pa (.bool false) (en Dx (aj (br C5 (tr C4 (tr CY (br C3 (tr C2 ?_)))))));replace F:=exL F CV;replace S:=S.nil R0_ 24;refine fL (cs:=[i_ 0,n_]) rfl Z rfl (aA (S.boxAt 1 rfl)) rfl ?_;have hr:=oI F;exact ⟨n_,cR hr fun r=>.tuple #[.agg #[i_ r.1.1,n_],.bool r.2],sP hr (fun r=>[Own R2_ [n_] r.1.2]) (S.keep 1)⟩
  refine ei J (pM u1 CT (ei J (pM (i_ CQ) CU (ei J (oB F fun DU Di F=>?_)))));refine aG (wA:=w0) rfl ha1 rfl dt rfl Di dt ?_;intro DV DM DW Da Dj;obtain ⟨Dz,rfl⟩:=aw Da;refine ei J (pe Dz (ac rfl ((ak S.below Dj) 0 _ rfl)) (ei J (oB F fun Dd Dk F=>?_)));refine ec0 yl (jE (S.up Da) Dk) (ca (ah rfl rfl)) S fun DX DN S=>?_;refine ei J (pe (.bool (!Dd)) (bo rfl) (pe (.bool (!Dd)) (aB rfl J rfl) (en Dc (oF F (fun C0 F=>?_) fun C0 F=>?_))))
  ·refine cf (am C0) (bb (bn C5 (tn C4 (ai (pM (i_ CQ) CU (oB F fun C7 Dl F=>pe (i_ C7) (aD rfl rfl Dl) (pa (i_ C7) (en CY ?_))))))));replace S:=S.keep 1;exact ⟨C7,CX,CT,Z,rfl,S,F⟩
  refine ct (an C0) (sR fun _ DA=>pe (.agg #[i_ 0,n_]) (bq [] [i_ 0,n_] rfl rfl) ?_);refine ap (S.top 0 rfl) Z [i_ 0,n_] rfl rfl dt (all_cons rfl (all_cons rfl rfl)) ?_;intro DB S;replace S:Sat w0 DB [Box CS 38 [i_ 0,n_]]:=S;refine pa (.bool false) (en DA (aj (br C5 (tr C4 (tr CY (br C3 (tr C2 ?_)))))));replace F:=exL F CV;replace S:=S.nil R0_ 24;refine fL (cs:=[i_ 0,n_]) rfl Z rfl (aA (S.boxAt 1 rfl)) rfl ?_;have hr:=oI F;exact ⟨n_,cR hr fun r=>.tuple #[.agg #[i_ r.1.1,n_],.bool r.2],sP hr (fun r=>[Own R2_ [n_] r.1.2]) (S.keep 1)⟩
 refine cf CZ (aL (tx Db (tx CY ?_)));replace F:=exA F CV;refine bS C3 (tn C2 (sR fun _ DC=>pM (i_ a0) CX (pM u1 CT (oB F fun DY Dm F=>?_))));refine aS uw (sq (S.up ha1) Dm) (ca (ah rfl rfl)) dt ?_;rintro _ DZ ⟨C8,rfl,Dn,CR⟩;refine ⟨_,rfl,?_⟩;replace S:=S.ext Dn;refine pe (.agg #[i_ a0,C8]) (bq [(0,[i_ a0]),(1,[C8])] [i_ a0,C8] (dk rfl (dk (aX rfl (oc CR)) rfl)) rfl) (oB F fun Y Do F=>?_);refine ec1 yg (nD CR Do) (ca (ah rfl rfl)) S fun D0 U Dp S=>?_;have CR:=cX CR Dp;refine aQ S dt ?_;intro D1 De S Dq;have CR:=cX CR Dq;refine ap (S.top 0 rfl) rfl [i_ Y.1,U] rfl rfl dt (all_cons rfl (all_cons (oc (S.rdAt (R:=R2_) 1 rfl)) rfl)) ?_;intro DD S;replace S:Sat w0 DD [Box De 38 [i_ Y.1,U],Own R2_ [U] Y.2,Box CS 38 [i_ 0,n_]]:=S;refine en DC (sg fun _ Df=>sR fun _ DE=>pe (.agg #[i_ Y.1,U]) (ay (cs:=[i_ Y.1,U]) rfl rfl (aA (S.boxAt 0 rfl))) (oB F fun DF Dr F=>?_));refine ec0 po (dU (S.rdAt (R:=R2_) 1 rfl) Dr) (ca (ah rfl rfl)) S fun D2 DO S=>?_;refine pe (.bool (!DF)) (bo rfl) (en DE (oF F (fun C1 F=>?_) fun C1 F=>?_))
 ·refine cf (am C1) (sn Df (sR fun _ DG=>pe (.agg #[i_ Y.1,U]) (ay (cs:=[i_ Y.1,U]) rfl rfl (aA (S.boxAt 0 rfl))) ?_));refine ap (S.top 2 rfl) Z [i_ Y.1,U] rfl rfl dt (all_cons rfl (all_cons (oc (S.rdAt (R:=R2_) 1 rfl)) rfl)) ?_;intro DH S;replace S:Sat w0 DH [Box CS 38 [i_ Y.1,U],Box De 38 [i_ Y.1,U],Own R2_ [U] Y.2]:=S;refine pa (.bool true) (en DG (aj ?_));refine fL (cs:=[i_ Y.1,U]) rfl Z rfl (aA (S.boxAt 0 rfl)) rfl ?_;replace S:=S.t2;have hr:=oI F;exact ⟨U,cR hr fun r=>.tuple #[.agg #[i_ r.1.1,U],.bool r.2],sP hr (fun r=>[Own R2_ [U] r.1.2]) (S.keep 1)⟩
 refine ct (an C1) (sg fun _ DI=>?_);replace S:=S.r1.r0;refine ai (pe (.agg #[i_ 0,n_]) (bq [] [i_ 0,n_] rfl rfl) ?_);refine ap (S.top 0 rfl) Z [i_ 0,n_] rfl rfl dt (all_cons rfl (all_cons rfl rfl)) ?_;intro DJ S;replace S:Sat w0 DJ [Box CS 38 [i_ 0,n_]]:=S;refine pa (.bool false) (en DI (aj (tr Df ?_)));replace S:=S.nil R0_ 24;refine fL (cs:=[i_ 0,n_]) rfl Z rfl (aA (S.boxAt 1 rfl)) rfl ?_;have hr:=oI F;exact ⟨n_,cR hr fun r=>.tuple #[.agg #[i_ r.1.1,n_],.bool r.2],sP hr (fun r=>[Own R2_ [n_] r.1.2]) (S.keep 1)⟩
end
section
set_option maxRecDepth 100000
set_option maxHeartbeats 4000000
theorem kD {w0:World} {a0:ByteArray} (_:a0.size ≤ 9223372036854775807) {N:Nat} {r:Bool} (F:fC N a0=some r): Calls Tryz.prog 102 #[.string a0] w0 fun e w'=>e=.returned (.bool r)∧Ext w0 w' := by
 unfold fC at F;refine aH Tryz.func102 rfl rfl dt ?_;have S:=Sat.start w0;refine sR fun _ C8=>pa (.bool false) (en C8 (sg fun _ CU=>sR fun _ C9=>pa (i_ 0) (en C9 (bg fun _ CV=>?_))));obtain ⟨Da,hL,CQ⟩:=ob F;refine aM (fun k e w=>∃ (U:Int),e 0=.string a0∧e 3=i_ U∧Sat w0 w []∧d6 N k a0 U=some Da) N ?_ ?_ ?_
 ·exact ⟨0,rfl,rfl,S,hL⟩
 ·rintro e w ⟨_,_,_,_,hz⟩; exact nn hz
 rintro k Dh Di ⟨U,Y,Z,S,F⟩;refine gn fun _ CR=>sg fun _ C2=>sR fun _ Db=>pM (i_ U) Z (pM (.string a0) Y (pe (i_ (a0.size:Int)) (nt Tryz.underlying9 rfl) (pe (.bool (decide (U < (a0.size:Int)))) (aV rfl rfl) (en Db (oF F (fun CS F=>?_) fun CS F=>?_)))))
 ·refine ct CS (sn C2 (sg fun _ CX=>bg fun _ CY=>sR fun _ C3=>pM (.string a0) Y (pM (i_ U) Z (oB F fun CZ C4 F=>pe (.int .u8 CZ) (ww Tryz.underlying9 rfl rfl C4) (pe (.bool (decide (CZ < 97))) (aV rfl rfl) (pm (.bool (decide (CZ < 97))) (oF F (fun J F=>?_) fun J F=>?_)))))))
  ·refine eo J (eo J (eo J (eo J (pe (.bool true) (ax rfl J rfl) (en C3 (ct rfl (sR fun _ Dc=>pa (.bool false) (en Dc (aj (br CY (tr CX (tr CR (br CV (tr CU ?_))))))))))))));replace F:=exL F CQ;refine aE rfl rfl ?_;exact rB F S
  refine ei J (pM (.string a0) Y (ei J (pM (i_ U) Z (ei J (oB F fun C0 C5 F=>pe (.int .u8 C0) (ww Tryz.underlying9 rfl rfl C5) (ei J (pe (.bool (decide (122 < C0))) (bR rfl rfl) (pe (.bool (decide (122 < C0))) (aB rfl J rfl) (en C3 (oF F (fun CT F=>?_) fun CT F=>?_))))))))))
  ·refine ct CT (sR fun _ Dd=>pa (.bool false) (en Dd (aj (br CY (tr CX (tr CR (br CV (tr CU ?_))))))));replace F:=exL F CQ;refine aE rfl rfl ?_;exact rB F S
  refine cf CT (bb (bn CY (tn CX (ai (pM (i_ U) Z (oB F fun C1 C6 F=>pe (i_ C1) (aD rfl rfl C6) (pa (i_ C1) (en CR ?_))))))));replace S:=S.keep 0;exact ⟨C1,Y,rfl,S,F⟩
 refine cf CS (aL (tx C2 (tx CR ?_)));replace F:=exA F CQ;refine bS CV (tn CU (sR fun _ De=>pM (.string a0) Y (pe (i_ (a0.size:Int)) (nt Tryz.underlying9 rfl) (oB F fun Df C7 F=>?_))));refine ec0 gU (cW C7) (ca (ah rfl (ah rfl (ah rfl rfl)))) S fun Dj Dg S=>?_;refine pa (.bool Df) (en De (aj (aE rfl rfl ?_)));exact rB F S
theorem js {w0:World} {u0:Value} {a0:List T6_} (ha0:bt.rd w0 [u0] a0) {N:Nat} {r:Bool} (F:dR N a0=some r): Calls Tryz.prog 79 #[.agg #[u0]] w0 fun e w'=>e=.returned (.bool r)∧Ext w0 w' := by
 unfold dR at F;refine aH Tryz.func79 rfl rfl dt ?_;have S:=Sat.start w0;refine sR fun _ DM=>?_;refine bD [u0] rfl S dt ?_;intro D7 C8 S D3;refine pa (.bool false) (en DM (sg fun _ C2=>sR fun _ DN=>pa (i_ 0) (en DN (bg fun _ C3=>?_))));obtain ⟨DO,hL,CX⟩:=ob F;refine aM (fun k e w=>∃ (CV:Int),e 1=pt C8 0∧e 3=i_ CV∧Sat w0 w [Box C8 43 [u0]]∧bT N k a0 CV=some DO) N ?_ ?_ ?_
 ·exact ⟨0,rfl,rfl,S,hL⟩
 ·rintro e w ⟨_,_,_,_,hz⟩; exact nn hz
 rintro k D8 D9 ⟨CV,C5,C6,S,F⟩;refine gn fun _ CY=>sg fun _ Di=>sR fun _ DP=>pM (i_ CV) C6 (pe (pt C8 (0 + 0)) (ae C5) (pe u0 (ac rfl ((S.boxAt 0 rfl) 0 _ rfl)) (pe (i_ (a0.length:Int)) (au rfl ha0) (pe (.bool (decide (CV < (a0.length:Int)))) (aV rfl rfl) (en DP (oF F (fun Da F=>?_) fun Da F=>?_))))))
 ·refine ct Da (sn Di (sg fun _ CZ=>bg fun _ C0=>sR fun _ DQ=>pe (pt C8 (0 + 0)) (ae C5) (pe u0 (ac rfl ((S.boxAt 0 rfl) 0 _ rfl)) (pM (i_ CV) C6 (oB F fun J Dj F=>?_)))));refine aG (wA:=w0) rfl ha0 rfl dt rfl Dj dt ?_;intro Ea D4 Eb Dk Dl;obtain ⟨_,_,rfl,Dm,Dn⟩:=Dk;obtain ⟨rfl,Do⟩:=Dm;obtain ⟨_,_,rfl,Dp,C7⟩:=Dn;obtain rfl:=Dp;obtain ⟨C1,rfl⟩:=aw C7;refine pe (.agg #[.string J.1,i_ J.2.1,C1]) (ay (cs:=[.string J.1,i_ J.2.1,C1]) rfl rfl (ak S.below Dl)) ?_;refine aQ S dt ?_;intro Ec CU S D5;refine ap (S.top 0 rfl) rfl [.string J.1,i_ J.2.1,C1] rfl rfl dt (all_cons rfl (all_cons rfl (all_cons (oc C7) rfl))) ?_;intro DR S;replace S:Sat w0 DR [Box CU 133 [.string J.1,i_ J.2.1,C1],Box C8 43 [u0]]:=S;refine en DQ (sg fun _ C4=>?_);refine bI (by kernel_rfl) (by kernel_rfl) ?_;refine qe (pt CU (0 + 0)) (ae rfl) (qe (.string J.1) (ac rfl ((S.boxAt 0 rfl) 0 _ rfl)) (oB F fun Df Dq F=>?_));refine c4 (.bool Df) wd (fun w' hw'=>kD Do Dq) (ca (ah rfl rfl)) dt ?_;refine qe (.bool (!Df)) (bo rfl) (qm (.bool (!Df)) (oF F (fun Y F=>?_) fun Y F=>?_))
  ·refine qi (am Y) (qM (i_ CV) C6 (qi (am Y) (qe (.bool (decide (0 < CV))) (bR rfl rfl) (qi (am Y) (qm (.bool (decide (0 < CV))) (oF F (fun U F=>?_) fun U F=>?_))))))
   ·refine qi U (qe (pt C8 (0 + 0)) (ae C5) (qi U (qe u0 (ac rfl ((S.boxAt 1 rfl) 0 _ rfl)) (qi U (qM (i_ CV) C6 (qi U (oB F fun DS Dr F=>qe (i_ DS) (cq rfl rfl Dr) (qi U (oB F fun C9 Ds F=>?_)))))))));refine aY (wA:=w0) rfl ha0 rfl dt rfl Ds dt ?_;intro DT Dt Ed Du Dv;obtain ⟨_,_,rfl,Dw,Dx⟩:=Du;obtain ⟨rfl,D6⟩:=Dw;obtain ⟨_,_,rfl,Dy,Dz⟩:=Dx;obtain rfl:=Dy;obtain ⟨Ee,rfl⟩:=aw Dz;refine qi U (qe (pt DT (Dt + 0)) (ae rfl) (qi U (qe (.string C9.1) (ac rfl ((ak S.below Dv) 0 _ rfl)) (qi U (qe (pt CU (0 + 0)) (ae rfl) (qi U (qe (.string J.1) (ac rfl ((S.boxAt 0 rfl) 0 _ rfl)) (qi U (qe (.bool (!(ltS C9.1 J.1))) (AE rfl rfl) (qi (am Y) (qe (.bool (!(ltS C9.1 J.1))) (ax rfl U rfl) (qe (.bool (!(ltS C9.1 J.1))) (aB rfl (am Y) rfl) (qm (.bool (!(ltS C9.1 J.1))) (oF F (fun CR F=>?_) fun CR F=>?_))))))))))))))
    ·refine qi (am CR) (qe (pt CU (0 + 1)) (ae rfl) (qi (am CR) (qe (.agg #[i_ J.2.1,C1]) (ay (cs:=[i_ J.2.1,C1]) rfl rfl (B8 (S.boxAt 0 rfl) 1 2)) (qi (am CR) (oB F fun Db DA F=>?_)))));refine c4 (.bool Db) po (fun w' hw'=>dU (cX (S.up C7) hw') DA) (ca (ah rfl rfl)) dt ?_;refine qi (am CR) (qe (.bool (!Db)) (bo rfl) (qe (.bool (!Db)) (aB rfl (am CR) rfl) (qm (.bool (!Db)) (oF F (fun Z F=>?_) fun Z F=>?_))))
     ·refine qi (am Z) (qe (pt CU (0 + 1)) (ae rfl) (qi (am Z) (qe (pt CU (0 + 1 + 1)) (ae rfl) (qi (am Z) (qe C1 (ac rfl ((S.boxAt 0 rfl) 2 _ rfl)) (qi (am Z) (qe (i_ (J.2.2.length:Int)) (au rfl C7) (qi (am Z) (qe (.bool (decide (16 < (J.2.2.length:Int)))) (bR rfl rfl) (qe (.bool (decide (16 < (J.2.2.length:Int)))) (aB rfl (am Z) rfl) (qm (.bool (decide (16 < (J.2.2.length:Int)))) (oF F (fun CS F=>?_) fun CS F=>?_))))))))))))
      ·refine qo CS (qo CS (qo CS (qo CS (qe (.bool true) (ax rfl CS rfl) (bj ?_)))));intro Ef DB;replace S:=S.ext DB;refine tn C4 (ct rfl (sg fun _ DU=>?_));replace S:=S.r1.r0;refine ai (pa (.bool false) (en DU (aj (br C0 (tr CZ (tr CY (br C3 (tr C2 ?_))))))));replace F:=exL F CX;refine aE rfl rfl ?_;exact rB F S
      refine qi CS (qe (pt CU (0 + 1)) (ae rfl) (qi CS (qe (pt CU (0 + 1 + 0)) (ae rfl) (qi CS (qe (i_ J.2.1) (ac rfl ((S.boxAt 0 rfl) 1 _ rfl)) (qi CS (qe (.bool (decide (J.2.1 < 1))) (aV rfl rfl) (qe (.bool (decide (J.2.1 < 1))) (aB rfl CS rfl) (bj ?_)))))))));intro Eg DC;replace S:=S.ext DC;refine tn C4 (oF F (fun Dc F=>?_) fun Dc F=>?_)
      ·refine ct Dc (sg fun _ DV=>?_);replace S:=S.r1.r0;refine ai (pa (.bool false) (en DV (aj (br C0 (tr CZ (tr CY (br C3 (tr C2 ?_))))))));replace F:=exL F CX;refine aE rfl rfl ?_;exact rB F S
      refine cf Dc (bb (bn C0 (tn CZ ?_)));replace S:=S.r0;refine ai (pM (i_ CV) C6 (oB F fun Dg DD F=>pe (i_ Dg) (aD rfl rfl DD) (pa (i_ Dg) (en CY ?_))));replace S:=S.keep 1;exact ⟨Dg,C5,rfl,S,F⟩
     refine qo (an Z) (qo (an Z) (qo (an Z) (qo (an Z) (qo (an Z) (qe (.bool true) (ax rfl (an Z) rfl) (qm (.bool true) (qo rfl (qo rfl (qo rfl (qo rfl (qe (.bool true) (ax rfl rfl rfl) (bj ?_))))))))))));intro Eh DE;replace S:=S.ext DE;refine tn C4 (ct rfl (sg fun _ DW=>?_));replace S:=S.r1.r0;refine ai (pa (.bool false) (en DW (aj (br C0 (tr CZ (tr CY (br C3 (tr C2 ?_))))))));replace F:=exL F CX;refine aE rfl rfl ?_;exact rB F S
    refine qo (an CR) (qo (an CR) (qo (an CR) (qo (an CR) (qe (.bool true) (ax rfl (an CR) rfl) (qm (.bool true) (qo rfl (qo rfl (qo rfl (qo rfl (qo rfl (qe (.bool true) (ax rfl rfl rfl) (qm (.bool true) (qo rfl (qo rfl (qo rfl (qo rfl (qe (.bool true) (ax rfl rfl rfl) (bj ?_))))))))))))))))));intro Ei DF;replace S:=S.ext DF;refine tn C4 (ct rfl (sg fun _ DX=>?_));replace S:=S.r1.r0;refine ai (pa (.bool false) (en DX (aj (br C0 (tr CZ (tr CY (br C3 (tr C2 ?_))))))));replace F:=exL F CX;refine aE rfl rfl ?_;exact rB F S
   refine qo U (qo U (qo U (qo U (qo U (qo U (qo U (qo U (qo U (qo U (qi (am Y) (qe (.bool false) (aB rfl U rfl) (qe (.bool false) (aB rfl (am Y) rfl) (qm (.bool false) (qi rfl (qe (pt CU (0 + 1)) (ae rfl) (qi rfl (qe (.agg #[i_ J.2.1,C1]) (ay (cs:=[i_ J.2.1,C1]) rfl rfl (B8 (S.boxAt 0 rfl) 1 2)) (qi rfl (oB F fun Dd DG F=>?_)))))))))))))))))));refine c4 (.bool Dd) po (fun w' hw'=>dU (cX (S.up C7) hw') DG) (ca (ah rfl rfl)) dt ?_;refine qi rfl (qe (.bool (!Dd)) (bo rfl) (qe (.bool (!Dd)) (aB rfl rfl rfl) (qm (.bool (!Dd)) (oF F (fun CQ F=>?_) fun CQ F=>?_))))
   ·refine qi (am CQ) (qe (pt CU (0 + 1)) (ae rfl) (qi (am CQ) (qe (pt CU (0 + 1 + 1)) (ae rfl) (qi (am CQ) (qe C1 (ac rfl ((S.boxAt 0 rfl) 2 _ rfl)) (qi (am CQ) (qe (i_ (J.2.2.length:Int)) (au rfl C7) (qi (am CQ) (qe (.bool (decide (16 < (J.2.2.length:Int)))) (bR rfl rfl) (qe (.bool (decide (16 < (J.2.2.length:Int)))) (aB rfl (am CQ) rfl) (qm (.bool (decide (16 < (J.2.2.length:Int)))) (oF F (fun CT F=>?_) fun CT F=>?_))))))))))))
    ·refine qo CT (qo CT (qo CT (qo CT (qe (.bool true) (ax rfl CT rfl) (bj ?_)))));intro Ej DH;replace S:=S.ext DH;refine tn C4 (ct rfl (sg fun _ DY=>?_));replace S:=S.r1.r0;refine ai (pa (.bool false) (en DY (aj (br C0 (tr CZ (tr CY (br C3 (tr C2 ?_))))))));replace F:=exL F CX;refine aE rfl rfl ?_;exact rB F S
    refine qi CT (qe (pt CU (0 + 1)) (ae rfl) (qi CT (qe (pt CU (0 + 1 + 0)) (ae rfl) (qi CT (qe (i_ J.2.1) (ac rfl ((S.boxAt 0 rfl) 1 _ rfl)) (qi CT (qe (.bool (decide (J.2.1 < 1))) (aV rfl rfl) (qe (.bool (decide (J.2.1 < 1))) (aB rfl CT rfl) (bj ?_)))))))));intro Ek DI;replace S:=S.ext DI;refine tn C4 (oF F (fun De F=>?_) fun De F=>?_)
    ·refine ct De (sg fun _ DZ=>?_);replace S:=S.r1.r0;refine ai (pa (.bool false) (en DZ (aj (br C0 (tr CZ (tr CY (br C3 (tr C2 ?_))))))));replace F:=exL F CX;refine aE rfl rfl ?_;exact rB F S
    refine cf De (bb (bn C0 (tn CZ ?_)));replace S:=S.r0;refine ai (pM (i_ CV) C6 (oB F fun Dh DJ F=>pe (i_ Dh) (aD rfl rfl DJ) (pa (i_ Dh) (en CY ?_))));replace S:=S.keep 1;exact ⟨Dh,C5,rfl,S,F⟩
   refine qo (an CQ) (qo (an CQ) (qo (an CQ) (qo (an CQ) (qo (an CQ) (qe (.bool true) (ax rfl (an CQ) rfl) (qm (.bool true) (qo rfl (qo rfl (qo rfl (qo rfl (qe (.bool true) (ax rfl rfl rfl) (bj ?_))))))))))));intro El DK;replace S:=S.ext DK;refine tn C4 (ct rfl (sg fun _ D0=>?_));replace S:=S.r1.r0;refine ai (pa (.bool false) (en D0 (aj (br C0 (tr CZ (tr CY (br C3 (tr C2 ?_))))))));replace F:=exL F CX;refine aE rfl rfl ?_;exact rB F S
  refine qo (an Y) (qo (an Y) (qo (an Y) ?_));refine bQ rfl dt ?_;refine bQ rfl dt ?_;refine bQ rfl dt ?_;refine bQ rfl dt ?_;refine bQ rfl dt ?_;refine bQ rfl dt ?_;refine bQ rfl dt ?_;refine bQ rfl dt ?_;refine bQ rfl dt ?_;refine bQ rfl dt ?_;refine qo (an Y) (qe (.bool true) (ax rfl (an Y) rfl) (qm (.bool true) (qo rfl (qo rfl (qo rfl (qo rfl (qe (.bool true) (ax rfl rfl rfl) (qm (.bool true) (qo rfl (qo rfl (qo rfl (qo rfl (qo rfl (qe (.bool true) (ax rfl rfl rfl) (qm (.bool true) (qo rfl (qo rfl (qo rfl (qo rfl (qe (.bool true) (ax rfl rfl rfl) (bj ?_)))))))))))))))))))));intro Em DL;replace S:=S.ext DL;refine tn C4 (ct rfl (sg fun _ D1=>?_));replace S:=S.r1.r0;refine ai (pa (.bool false) (en D1 (aj (br C0 (tr CZ (tr CY (br C3 (tr C2 ?_))))))));replace F:=exL F CX;refine aE rfl rfl ?_;exact rB F S
 refine cf Da (aL (tx Di (tx CY ?_)));replace F:=exA F CX;refine bS C3 (tn C2 (sR fun _ D2=>pe (pt C8 (0 + 0)) (ae C5) (pe u0 (ac rfl ((S.boxAt 0 rfl) 0 _ rfl)) (pe (i_ (a0.length:Int)) (au rfl ha0) (pe (.bool (decide ((a0.length:Int) ≤ 6))) (lg rfl rfl) (pa (.bool (decide ((a0.length:Int) ≤ 6))) (en D2 (aj (aE rfl rfl ?_)))))))));exact rB F S
theorem eu {w0:World} {u0:Value} {a0:List T6_} {a1:ByteArray} (ha0:bt.rd w0 [u0] a0) (_:a1.size ≤ 9223372036854775807) {N:Nat} {r:T4_ × Bool} (F:dr N a0 a1=some r): Calls Tryz.prog 77 #[.agg #[u0],.string a1] w0 fun e w'=>∃ (q0:Value),e=.returned (.tuple #[.agg #[i_ r.1.1,q0],.bool r.2])∧Sat w0 w' [Own R2_ [q0] r.1.2] := by
 unfold dr at F;refine aH Tryz.func77 rfl rfl dt ?_;have S:=Sat.start w0;refine sR fun _ Du=>?_;refine bD [u0] rfl S dt ?_;intro DN CR S DH;refine aQ S dt ?_;intro DO CT S DI;refine pa (.bool false) (en Du (sg fun _ C0=>sR fun _ Dv=>pa (i_ 0) (en Dv (bg fun _ C1=>?_))));obtain ⟨Dw,hL,CU⟩:=ob F;refine aM (fun k e w=>∃ (J:Int),e 1=.string a1∧e 2=pt CR 0∧e 4=pt CT 0∧e 6=i_ J∧Sat w0 w [Box CT 38 [i_ 0,n_],Box CR 43 [u0]]∧b6 N k a1 a0 0 [] J=some Dw) N ?_ ?_ ?_
 ·exact ⟨0,rfl,rfl,rfl,rfl,S,hL⟩
 ·rintro e w ⟨_,_,_,_,_,_,hz⟩; exact nn hz
 rintro k DP DQ ⟨J,C4,CQ,U,CS,S,F⟩;refine gn fun _ CV=>sg fun _ C2=>sR fun _ C6=>pM (i_ J) CS (pe (pt CR (0 + 0)) (ae CQ) (pe u0 (ac rfl ((S.boxAt 1 rfl) 0 _ rfl)) (pe (i_ (a0.length:Int)) (au rfl ha0) (pe (.bool (decide (J < (a0.length:Int)))) (aV rfl rfl) (pm (.bool (decide (J < (a0.length:Int)))) (oF F (fun Y F=>?_) fun Y F=>?_))))))
 ·refine ei Y (pe (.agg #[u0]) (ay (cs:=[u0]) CQ rfl (aA (S.boxAt 1 rfl))) (ei Y (oB F fun Dx Dc F=>?_)));refine ec0 yO (js (S.up ha0) Dc) (ca (ah rfl rfl)) S fun DR DJ S=>?_;refine pe (.bool Dx) (ax rfl Y rfl) (en C6 (oF F (fun CX F=>?_) fun CX F=>?_))
  ·refine ct CX (sn C2 (sg fun _ C7=>bg fun _ C8=>sR fun _ Dy=>pe (pt CR (0 + 0)) (ae CQ) (pe u0 (ac rfl ((S.boxAt 1 rfl) 0 _ rfl)) (pM (i_ J) CS (oB F fun C9 Dd F=>?_)))));refine aG (wA:=w0) rfl ha0 rfl dt rfl Dd dt ?_;intro Dz De DS Df Dg;obtain ⟨_,_,rfl,Dh,Di⟩:=Df;obtain ⟨rfl,DK⟩:=Dh;obtain ⟨_,_,rfl,Dj,Dk⟩:=Di;obtain rfl:=Dj;obtain ⟨DT,rfl⟩:=aw Dk;refine pe (pt Dz (De + 0)) (ae rfl) (pe (.string C9.1) (ac rfl ((ak S.below Dg) 0 _ rfl)) (pM (.string a1) C4 (pe (.bool (eqS C9.1 a1)) (nw rfl rfl) (en Dy (oF F (fun CY F=>?_) fun CY F=>?_)))))
   ·refine ct CY (sR fun _ DA=>pe (pt CR (0 + 0)) (ae CQ) (pe u0 (ac rfl ((S.boxAt 1 rfl) 0 _ rfl)) (pM (i_ J) CS (oB F fun Da Dl F=>?_))));refine aG (wA:=w0) rfl ha0 rfl dt rfl Dl dt ?_;intro DB Dm DU Dn Do;obtain ⟨_,_,rfl,Dp,Dq⟩:=Dn;obtain ⟨rfl,DL⟩:=Dp;obtain ⟨_,_,rfl,Dr,C5⟩:=Dq;obtain rfl:=Dr;obtain ⟨Db,rfl⟩:=aw C5;refine pe (pt DB (Dm + 1)) (ae rfl) (pe (.agg #[i_ Da.2.1,Db]) (ay (cs:=[i_ Da.2.1,Db]) rfl rfl (yy (ak S.below Do) 1 2)) (oB F fun CZ Ds F=>?_));refine ec1 yg (nD (S.up C5) Ds) (ca (ah rfl rfl)) S fun DV Z DM S=>?_;refine ap (S.top 1 rfl) U [i_ CZ.1,Z] rfl rfl dt (all_cons rfl (all_cons (oc (S.rdAt (R:=R2_) 0 rfl)) rfl)) ?_;intro DC S;replace S:Sat w0 DC [Box CT 38 [i_ CZ.1,Z],Own R2_ [Z] CZ.2,Box CR 43 [u0]]:=S;refine pa (.bool true) (en DA (aj (br C8 (tr C7 (tr CV (br C1 (tr C0 ?_)))))));replace F:=exL F CU;refine fL (cs:=[i_ CZ.1,Z]) rfl U rfl (aA (S.boxAt 0 rfl)) rfl ?_;replace S:=S.t1;have hr:=oI F;exact ⟨Z,cR hr fun r=>.tuple #[.agg #[i_ r.1.1,Z],.bool r.2],sP hr (fun r=>[Own R2_ [Z] r.1.2]) (S.keep 1)⟩
   refine cf CY (bb (bn C8 (tn C7 (ai (pM (i_ J) CS (oB F fun C3 Dt F=>pe (i_ C3) (aD rfl rfl Dt) (pa (i_ C3) (en CV ?_))))))));replace S:=S.keep 2;exact ⟨C3,C4,CQ,U,rfl,S,F⟩
  refine cf CX (aL (tx C2 (tx CV ?_)));replace F:=exA F CU;refine bS C1 (tn C0 (sg fun _ DD=>?_));replace S:=S.r1;refine ai (pe (.agg #[i_ 0,n_]) (bq [] [i_ 0,n_] rfl rfl) ?_);refine ap (S.top 0 rfl) U [i_ 0,n_] rfl rfl dt (all_cons rfl (all_cons rfl rfl)) ?_;intro DE S;replace S:Sat w0 DE [Box CT 38 [i_ 0,n_]]:=S;refine pa (.bool false) (en DD (aj ?_));replace S:=S.nil R0_ 24;refine fL (cs:=[i_ 0,n_]) rfl U rfl (aA (S.boxAt 1 rfl)) rfl ?_;have hr:=oI F;exact ⟨n_,cR hr fun r=>.tuple #[.agg #[i_ r.1.1,n_],.bool r.2],sP hr (fun r=>[Own R2_ [n_] r.1.2]) (S.keep 1)⟩
 refine eo Y (eo Y (pe (.bool false) (aB rfl Y rfl) (en C6 (cf rfl (aL (tx C2 (tx CV ?_)))))));replace F:=exA F CU;refine bS C1 (tn C0 (sg fun _ DF=>?_));replace S:=S.r1;refine ai (pe (.agg #[i_ 0,n_]) (bq [] [i_ 0,n_] rfl rfl) ?_);refine ap (S.top 0 rfl) U [i_ 0,n_] rfl rfl dt (all_cons rfl (all_cons rfl rfl)) ?_;intro DG S;replace S:Sat w0 DG [Box CT 38 [i_ 0,n_]]:=S;refine pa (.bool false) (en DF (aj ?_));replace S:=S.nil R0_ 24;refine fL (cs:=[i_ 0,n_]) rfl U rfl (aA (S.boxAt 1 rfl)) rfl ?_;have hr:=oI F;exact ⟨n_,cR hr fun r=>.tuple #[.agg #[i_ r.1.1,n_],.bool r.2],sP hr (fun r=>[Own R2_ [n_] r.1.2]) (S.keep 1)⟩
theorem fH {w0:World} {u0:Value} {a0:List Int} {a1:Int} (ha0:R0_.rd w0 [u0] a0) {N:Nat} {r:Int} (F:ef N a0 a1=some r): Calls Tryz.prog 40 #[u0,i_ a1] w0 fun e w'=>e=.returned (i_ r)∧Ext w0 w' := by
 unfold ef at F;refine aH Tryz.func40 rfl rfl dt ?_;have S:=Sat.start w0;refine sR fun _ C6=>pa (i_ 0) (en C6 (sg fun _ CV=>sR fun _ C7=>pa (i_ 0) (en C7 (bg fun _ CX=>?_))));obtain ⟨C8,hL,CT⟩:=ob F;refine aM (fun k e w=>∃ (J:Int),e 0=u0∧e 1=i_ a1∧e 5=i_ J∧Sat w0 w []∧ic N k a0 a1 J=some C8) N ?_ ?_ ?_
 ·exact ⟨0,rfl,rfl,rfl,S,hL⟩
 ·rintro e w ⟨_,_,_,_,_,hz⟩; exact nn hz
 rintro k De Df ⟨J,Y,CU,U,S,F⟩;refine gn fun _ CR=>sg fun _ CY=>sR fun _ C9=>pM (i_ J) U (pM u0 Y (pe (i_ (a0.length:Int)) (au rfl ha0) (pe (.bool (decide (J < (a0.length:Int)))) (aV rfl rfl) (en C9 (oF F (fun Z F=>?_) fun Z F=>?_)))))
 ·refine ct Z (sn CY (sg fun _ CZ=>bg fun _ C0=>sR fun _ Da=>pM u0 Y (pM (i_ J) U (oB F fun C1 C2 F=>?_))));refine aG (wA:=w0) rfl ha0 rfl dt rfl C2 dt ?_;intro Dg Dd Dh C3 C4;obtain rfl:=C3;refine pe (i_ C1) (ac rfl ((ak S.below C4) 0 _ rfl)) (pM (i_ a1) CU (pe (.bool (C1 == a1)) (bc rfl rfl) (en Da (oF F (fun CQ F=>?_) fun CQ F=>?_))))
  ·refine ct CQ (sR fun _ Db=>pM (i_ J) U (pa (i_ J) (en Db (aj (br C0 (tr CZ (tr CR (br CX (tr CV ?_)))))))));replace F:=exL F CT;refine aE rfl rfl ?_;exact rI F S
  refine cf CQ (bb (bn C0 (tn CZ (ai (pM (i_ J) U (oB F fun CS C5 F=>pe (i_ CS) (aD rfl rfl C5) (pa (i_ CS) (en CR ?_))))))));replace S:=S.keep 0;exact ⟨CS,Y,CU,rfl,S,F⟩
 refine cf Z (aL (tx CY (tx CR ?_)));replace F:=exA F CT;refine bS CX (tn CV (sR fun _ Dc=>pa (i_ (-1)) (en Dc (aj (aE rfl rfl ?_)))));exact rI F S
theorem e9 {w0:World} {a0:ByteArray} {u1:Value} {a1:List Int} {a2:Int} (_:a0.size ≤ 9223372036854775807) (ha1:R0_.rd w0 [u1] a1) {N:Nat} {r:Bool} (F:cO N a0 a1 a2=some r): Calls Tryz.prog 103 #[.agg #[.string a0,u1],i_ a2] w0 fun e w'=>e=.returned (.bool r)∧Ext w0 w' := by
 unfold cO at F;refine aH Tryz.func103 rfl rfl dt ?_;have S:=Sat.start w0;refine sR fun _ C7=>?_;refine bD [.string a0,u1] rfl S dt ?_;intro Dg U S De;refine pa (.bool false) (en C7 (sg fun _ CX=>sR fun _ C8=>pa (i_ 0) (en C8 (bg fun _ CY=>?_))));obtain ⟨C9,hL,CU⟩:=ob F;refine aM (fun k e w=>∃ (J:Int),e 1=i_ a2∧e 2=pt U 0∧e 5=i_ J∧Sat w0 w [Box U 106 [.string a0,u1]]∧b7 N k a2 a0 a1 J=some C9) N ?_ ?_ ?_
 ·exact ⟨0,rfl,rfl,rfl,S,hL⟩
 ·rintro e w ⟨_,_,_,_,_,hz⟩; exact nn hz
 rintro k Dh Di ⟨J,CV,Y,Z,S,F⟩;refine gn fun _ CS=>sg fun _ CZ=>sR fun _ Da=>pM (i_ J) Z (pe (pt U (0 + 1)) (ae Y) (pe u1 (ac rfl ((S.boxAt 0 rfl) 1 _ rfl)) (pe (i_ (a1.length:Int)) (au rfl ha1) (pe (.bool (decide (J < (a1.length:Int)))) (aV rfl rfl) (en Da (oF F (fun CQ F=>?_) fun CQ F=>?_))))))
 ·refine ct CQ (sn CZ (sg fun _ C0=>bg fun _ C1=>sR fun _ Db=>pe (pt U (0 + 1)) (ae Y) (pe u1 (ac rfl ((S.boxAt 0 rfl) 1 _ rfl)) (pM (i_ J) Z (oB F fun C2 C3 F=>?_)))));refine aG (wA:=w0) rfl ha1 rfl dt rfl C3 dt ?_;intro Dj Df Dk C4 C5;obtain rfl:=C4;refine pe (i_ C2) (ac rfl ((ak S.below C5) 0 _ rfl)) (pM (i_ a2) CV (pe (.bool (C2 == a2)) (bc rfl rfl) (en Db (oF F (fun CR F=>?_) fun CR F=>?_))))
  ·refine ct CR (sg fun _ Dc=>?_);replace S:=S.r0;refine ai (pa (.bool true) (en Dc (aj (br C1 (tr C0 (tr CS (br CY (tr CX ?_))))))));replace F:=exL F CU;refine aE rfl rfl ?_;exact rB F S
  refine cf CR (bb (bn C1 (tn C0 (ai (pM (i_ J) Z (oB F fun CT C6 F=>pe (i_ CT) (aD rfl rfl C6) (pa (i_ CT) (en CS ?_))))))));replace S:=S.keep 1;exact ⟨CT,CV,Y,rfl,S,F⟩
 refine cf CQ (aL (tx CZ (tx CS ?_)));replace F:=exA F CU;refine bS CY (tn CX (sg fun _ Dd=>?_));replace S:=S.r0;refine ai (pa (.bool false) (en Dd (aj (aE rfl rfl ?_))));exact rB F S
theorem e7 {w0:World} {a0:Int} {u1:Value} {a1:List T3_} {u2:Value} {a2:List Int} (ha1:R6_.rd w0 [u1] a1) (ha2:R0_.rd w0 [u2] a2) {N:Nat} {r:Bool} (F:da N a0 a1 a2=some r): Calls Tryz.prog 78 #[.agg #[i_ a0,u1,u2]] w0 fun e w'=>e=.returned (.bool r)∧Ext w0 w' := by
 unfold da at F;refine aH Tryz.func78 rfl rfl dt ?_;have S:=Sat.start w0;refine sR fun _ Ff=>?_;refine bD [i_ a0,u1,u2] rfl S dt ?_;intro Gd U S FY;refine pa (.bool false) (en Ff (sg fun _ Da=>sR fun _ Dt=>pe (pt U (0 + 0)) (ae rfl) (pe (i_ a0) (ac rfl ((S.boxAt 0 rfl) 0 _ rfl)) (oB F fun DU Eh F=>?_))));refine ec0 gU (cW Eh) (ca (ah rfl (ah rfl (ah rfl rfl)))) S fun Ge FZ S=>?_;refine pe (.bool (!DU)) (bo rfl) (pm (.bool (!DU)) (oF F (fun CR F=>?_) fun CR F=>?_))
 ·refine ei (am CR) (pe (pt U (0 + 1)) (ae rfl) (ei (am CR) (pe u1 (ac rfl ((S.boxAt 0 rfl) 1 _ rfl)) (ei (am CR) (pe (i_ (a1.length:Int)) (au rfl ha1) (ei (am CR) (oB F fun Du Ei F=>?_)))))));refine ec0 gU (cW Ei) (ca (ah rfl (ah rfl (ah rfl rfl)))) S fun Gf F0 S=>?_;refine ei (am CR) (pe (.bool (!Du)) (bo rfl) (pe (.bool (!Du)) (aB rfl (am CR) rfl) (pm (.bool (!Du)) (oF F (fun CQ F=>?_) fun CQ F=>?_))))
  ·refine ei (am CQ) (pe (pt U (0 + 2)) (ae rfl) (ei (am CQ) (pe u2 (ac rfl ((S.boxAt 0 rfl) 2 _ rfl)) (ei (am CQ) (pe (i_ (a2.length:Int)) (au rfl ha2) (ei (am CQ) (pe (pt U (0 + 0)) (ae rfl) (ei (am CQ) (pe (i_ a0) (ac rfl ((S.boxAt 0 rfl) 0 _ rfl)) (ei (am CQ) (pe (.bool (decide (a0 < (a2.length:Int)))) (bR rfl rfl) (pe (.bool (decide (a0 < (a2.length:Int)))) (aB rfl (am CQ) rfl) (en Dt (oF F (fun Db F=>?_) fun Db F=>?_))))))))))))))
   ·refine ct Db (sg fun _ Fg=>?_);replace S:=S.r0;refine ai (pa (.bool false) (en Fg (aj (tr Da (aE rfl rfl ?_)))));exact rB F S
   refine cf Db (sn Da (sg fun _ Dc=>sR fun _ Fh=>pa (i_ 0) (en Fh (bg fun _ Dd=>?_))));obtain ⟨Fi,hL,C4⟩:=ob F;refine aM (fun k e w=>∃ (CS:Int),e 1=pt U 0∧e 3=i_ CS∧Sat w0 w [Box U 46 [i_ a0,u1,u2]]∧cA N k a0 a1 a2 CS=some Fi) N ?_ ?_ ?_
   ·exact ⟨0,rfl,rfl,S,hL⟩
   ·rintro e w ⟨_,_,_,_,hz⟩; exact nn hz
   rintro k Gg Gh ⟨CS,C0,C5,S,F⟩;refine gn fun _ C9=>sg fun _ DV=>sR fun _ Fj=>pM (i_ CS) C5 (pe (pt U (0 + 1)) (ae C0) (pe u1 (ac rfl ((S.boxAt 0 rfl) 1 _ rfl)) (pe (i_ (a1.length:Int)) (au rfl ha1) (pe (.bool (decide (CS < (a1.length:Int)))) (aV rfl rfl) (en Fj (oF F (fun De F=>?_) fun De F=>?_))))))
   ·refine ct De (sn DV (sg fun _ Df=>bg fun _ Dg=>sg fun _ Dv=>sR fun _ DW=>pe (pt U (0 + 1)) (ae C0) (pe u1 (ac rfl ((S.boxAt 0 rfl) 1 _ rfl)) (pM (i_ CS) C5 (oB F fun Fk Ej F=>?_)))));refine aG (wA:=w0) rfl ha1 rfl dt rfl Ej dt ?_;intro Fl Ek Gi El Em;obtain ⟨_,_,rfl,En,Eo⟩:=El;obtain ⟨rfl,Ep⟩:=En;obtain ⟨Gj,rfl⟩:=aw Eo;refine pe (pt Fl (Ek + 0)) (ae rfl) (pe (.string Fk.1) (ac rfl ((ak S.below Em) 0 _ rfl)) (oB F fun DX Er F=>?_));refine ec0 wd (kD Ep Er) (ca (ah rfl rfl)) S fun Gk F3 S=>?_;refine pe (.bool (!DX)) (bo rfl) (pm (.bool (!DX)) (oF F (fun Y F=>?_) fun Y F=>?_))
    ·refine ei (am Y) (pe (pt U (0 + 1)) (ae C0) (ei (am Y) (pe u1 (ac rfl ((S.boxAt 0 rfl) 1 _ rfl)) (ei (am Y) (pM (i_ CS) C5 (ei (am Y) (oB F fun Fm Es F=>?_)))))));refine aG (wA:=w0) rfl ha1 rfl dt rfl Es dt ?_;intro Fn Et Gl Eu Ev;obtain ⟨_,_,rfl,Ew,DM⟩:=Eu;obtain ⟨rfl,F4⟩:=Ew;obtain ⟨Fo,rfl⟩:=aw DM;refine ei (am Y) (pe (pt Fn (Et + 1)) (ae rfl) (ei (am Y) (pe Fo (ac rfl ((ak S.below Ev) 1 _ rfl)) (ei (am Y) (pe (i_ (Fm.2.length:Int)) (au rfl DM) (ei (am Y) (oB F fun DY Ex F=>?_)))))));refine ec0 gU (cW Ex) (ca (ah rfl (ah rfl (ah rfl rfl)))) S fun Gm F5 S=>?_;refine ei (am Y) (pe (.bool (!DY)) (bo rfl) (pe (.bool (!DY)) (aB rfl (am Y) rfl) (en DW (oF F (fun Dh F=>?_) fun Dh F=>?_))))
     ·refine cf (am Dh) (sn Dv (sR fun _ Fp=>pa (i_ 0) (en Fp (bg fun _ DZ=>?_))));obtain ⟨Fq,hL,DN⟩:=ob F;refine aM (fun k e w=>∃ (CY:Int),e 1=pt U 0∧e 3=i_ CS∧e 4=i_ CY∧Sat w0 w [Box U 46 [i_ a0,u1,u2]]∧cD N k a0 a1 a2 CS CY=some Fq) N ?_ ?_ ?_
      ·exact ⟨0,C0,C5,rfl,S,hL⟩
      ·rintro e w ⟨_,_,_,_,_,hz⟩; exact nn hz
      rintro k Gn Gp ⟨CY,C1,C6,Di,S,F⟩;refine gn fun _ Dw=>sg fun _ D0=>sR fun _ Fr=>pM (i_ CY) Di (pe (pt U (0 + 1)) (ae C1) (pe u1 (ac rfl ((S.boxAt 0 rfl) 1 _ rfl)) (pM (i_ CS) C6 (oB F fun D1 Ey F=>?_))));refine aG (wA:=w0) rfl ha1 rfl dt rfl Ey dt ?_;intro Fs Ez Gq EA EB;obtain ⟨_,_,rfl,EC,DO⟩:=EA;obtain ⟨rfl,F6⟩:=EC;obtain ⟨Ft,rfl⟩:=aw DO;refine pe (pt Fs (Ez + 1)) (ae rfl) (pe Ft (ac rfl ((ak S.below EB) 1 _ rfl)) (pe (i_ (D1.2.length:Int)) (au rfl DO) (pe (.bool (decide (CY < (D1.2.length:Int)))) (aV rfl rfl) (en Fr (oF F (fun Dj F=>?_) fun Dj F=>?_)))))
      ·refine ct Dj (sn D0 (sg fun _ D2=>bg fun _ D3=>sg fun _ Fu=>?_));refine bI (by kernel_rfl) (by kernel_rfl) ?_;refine qe (pt U (0 + 1)) (ae C1) (qe u1 (ac rfl ((S.boxAt 0 rfl) 1 _ rfl)) (qM (i_ CS) C6 (oB F fun Gr ED F=>?_)));refine aY (wA:=w0) rfl ha1 rfl dt rfl ED dt ?_;intro Fv EE Gs EF EG;obtain ⟨_,_,rfl,EH,DP⟩:=EF;obtain ⟨rfl,F7⟩:=EH;obtain ⟨Fw,rfl⟩:=aw DP;refine qe (pt Fv (EE + 1)) (ae rfl) (qe Fw (ac rfl ((ak S.below EG) 1 _ rfl)) (qM (i_ CY) Di (oB F fun Fx EI F=>?_)));refine aY (wA:=w0) rfl DP rfl dt rfl EI dt ?_;intro Gt F8 Gu EJ EK;obtain rfl:=EJ;refine qe (i_ Fx) (ac rfl ((ak S.below EK) 0 _ rfl)) (qe (pt U (0 + 0)) (ae C1) (qe (i_ a0) (ac rfl ((S.boxAt 0 rfl) 0 _ rfl)) (oB F fun Fy EM F=>qe (i_ Fy) (cq rfl rfl EM) (oB F fun D4 EN F=>?_))));refine c4 (.bool D4) gU (fun w' hw'=>cW EN) (ca (ah rfl (ah rfl (ah rfl rfl)))) dt ?_;refine qe (.bool (!D4)) (bo rfl) (bj ?_);intro Gv EO;replace S:=S.ext EO;refine tn Fu (oF F (fun Dk F=>?_) fun Dk F=>?_)
       ·refine cf (am Dk) (bb (bn D3 (tn D2 (ai (pM (i_ CY) Di (oB F fun Dx EP F=>pe (i_ Dx) (aD rfl rfl EP) (pa (i_ Dx) (en Dw ?_))))))));replace S:=S.keep 1;exact ⟨Dx,C1,C6,rfl,S,F⟩
       refine ct (an Dk) (sg fun _ Fz=>?_);replace S:=S.r0;refine ai (pa (.bool false) (en Fz (aj (br D3 (tr D2 (tr Dw (br DZ (br Dg (tr Df (tr C9 (br Dd (tr Dc ?_))))))))))));replace F:=exL F DN;replace F:=exL F C4;refine aE rfl rfl ?_;exact rB F S
      refine cf Dj (aL (tx D0 (tx Dw ?_)));replace F:=exA F DN;refine bS DZ (bn Dg (tn Df (ai (pM (i_ CS) C6 (oB F fun Dy EQ F=>pe (i_ Dy) (aD rfl rfl EQ) (pa (i_ Dy) (en C9 ?_)))))));replace S:=S.keep 1;exact ⟨Dy,C1,rfl,S,F⟩
     refine ct (an Dh) (sg fun _ FA=>?_);replace S:=S.r0;refine ai (pa (.bool false) (en FA (aj (tr Dv (br Dg (tr Df (tr C9 (br Dd (tr Dc ?_)))))))));replace F:=exL F C4;refine aE rfl rfl ?_;exact rB F S
    refine eo (an Y) (eo (an Y) (eo (an Y) (eo (an Y) (eo (an Y) (eo (an Y) (eo (an Y) (eo (an Y) (eo (an Y) (pe (.bool true) (ax rfl (an Y) rfl) (en DW (ct rfl (sg fun _ FB=>?_))))))))))));replace S:=S.r0;refine ai (pa (.bool false) (en FB (aj (tr Dv (br Dg (tr Df (tr C9 (br Dd (tr Dc ?_)))))))));replace F:=exL F C4;refine aE rfl rfl ?_;exact rB F S
   refine cf De (aL (tx DV (tx C9 ?_)));replace F:=exA F C4;refine bS Dd (tn Dc (sg fun _ D5=>sR fun _ FC=>pa (i_ 0) (en FC (bg fun _ D6=>?_))));obtain ⟨FD,hL,DQ⟩:=ob F;refine aM (fun k e w=>∃ (CT:Int),e 1=pt U 0∧e 5=i_ CT∧Sat w0 w [Box U 46 [i_ a0,u1,u2]]∧cE N k a0 a1 a2 CT=some FD) N ?_ ?_ ?_
   ·exact ⟨0,C0,rfl,S,hL⟩
   ·rintro e w ⟨_,_,_,_,hz⟩; exact nn hz
   rintro k Gw Gx ⟨CT,Dl,DR,S,F⟩;refine gn fun _ Dz=>sg fun _ D7=>sR fun _ FE=>pM (i_ CT) DR (pe (pt U (0 + 0)) (ae Dl) (pe (i_ a0) (ac rfl ((S.boxAt 0 rfl) 0 _ rfl)) (pe (.bool (decide (CT < a0))) (aV rfl rfl) (en FE (oF F (fun Dm F=>?_) fun Dm F=>?_)))))
   ·refine ct Dm (sn D7 (sg fun _ D8=>bg fun _ D9=>sR fun _ FF=>pa (.bool false) (en FF (sg fun _ FG=>sR fun _ FH=>pa (i_ 0) (en FH (bg fun _ FI=>?_))))));obtain ⟨FJ,hL,ER⟩:=ob F;refine aM (fun k e w=>∃ (CZ:Bool),∃ (CV:Int),e 1=pt U 0∧e 5=i_ CT∧e 6=.bool CZ∧e 7=i_ CV∧Sat w0 w [Box U 46 [i_ a0,u1,u2]]∧cp N k a0 a1 a2 CT CZ CV=some FJ) N ?_ ?_ ?_
    ·exact ⟨false,0,Dl,DR,rfl,rfl,S,hL⟩
    ·rintro e w ⟨_,_,_,_,_,_,_,hz⟩; exact nn hz
    rintro k Gy Gz ⟨CZ,CV,C2,C7,DS,C8,S,F⟩;refine gn fun _ DA=>sg fun _ Ea=>sR fun _ FK=>pM (i_ CV) C8 (pe (pt U (0 + 1)) (ae C2) (pe u1 (ac rfl ((S.boxAt 0 rfl) 1 _ rfl)) (pe (i_ (a1.length:Int)) (au rfl ha1) (pe (.bool (decide (CV < (a1.length:Int)))) (aV rfl rfl) (en FK (oF F (fun Dn F=>?_) fun Dn F=>?_))))))
    ·refine ct Dn (sn Ea (sg fun _ Eb=>bg fun _ Ec=>ai (pM (.bool CZ) DS (pm (.bool CZ) (oF F (fun Z F=>?_) fun Z F=>?_)))))
     ·refine eo Z (eo Z (eo Z (eo Z (eo Z (eo Z (eo Z (pe (.bool true) (ax rfl Z rfl) (pa (.bool true) (ag (bn Ec (tn Eb (ai (pM (i_ CV) C8 (oB F fun DB ES F=>pe (i_ DB) (aD rfl rfl ES) (pa (i_ DB) (en DA ?_))))))))))))))));replace S:=S.keep 1;exact ⟨true,DB,C2,C7,rfl,rfl,S,F⟩
     refine ei Z (pe (pt U (0 + 1)) (ae C2) (ei Z (pe u1 (ac rfl ((S.boxAt 0 rfl) 1 _ rfl)) (ei Z (pM (i_ CV) C8 (ei Z (oB F fun Ed ET F=>?_)))))));refine aG (wA:=w0) rfl ha1 rfl dt rfl ET dt ?_;intro GA F9 GB EU EV;obtain ⟨_,_,rfl,EW,DT⟩:=EU;obtain ⟨rfl,EX⟩:=EW;obtain ⟨Ee,rfl⟩:=aw DT;refine ei Z (pe (.agg #[.string Ed.1,Ee]) (ay (cs:=[.string Ed.1,Ee]) rfl rfl (ak S.below EV)) (ei Z (pM (i_ CT) C7 (ei Z (oB F fun DC EY F=>?_)))));refine ec0 pL (e9 EX (S.up DT) EY) (ca (ah rfl (ah rfl rfl))) S fun GC Ga S=>?_;refine pe (.bool DC) (aB rfl Z rfl) (pa (.bool DC) (ag (bn Ec (tn Eb (ai (pM (i_ CV) C8 (oB F fun DD EZ F=>pe (i_ DD) (aD rfl rfl EZ) (pa (i_ DD) (en DA ?_)))))))));replace S:=S.keep 1;exact ⟨DC,DD,C2,C7,rfl,rfl,S,F⟩
    refine cf Dn (aL (tx Ea (tx DA ?_)));replace F:=exB F ER;refine bS FI (tn FG (sR fun _ FL=>pM (.bool CZ) DS (pe (.bool (!CZ)) (bo rfl) (en FL (oF F (fun Do F=>?_) fun Do F=>?_)))))
    ·refine cf (am Do) (bb (bn D9 (tn D8 (ai (pM (i_ CT) C7 (oB F fun DE E0 F=>pe (i_ DE) (aD rfl rfl E0) (pa (i_ DE) (en Dz ?_))))))));replace S:=S.keep 1;exact ⟨DE,C2,rfl,S,F⟩
    refine ct (an Do) (sg fun _ FM=>?_);replace S:=S.r0;refine ai (pa (.bool false) (en FM (aj (br D9 (tr D8 (tr Dz (br D6 (tr D5 ?_))))))));replace F:=exL F DQ;refine aE rfl rfl ?_;exact rB F S
   refine cf Dm (aL (tx D7 (tx Dz ?_)));replace F:=exA F DQ;refine bS D6 (tn D5 (sg fun _ DF=>sR fun _ FN=>pa (i_ 0) (en FN (bg fun _ DG=>?_))));obtain ⟨FO,hL,Dp⟩:=ob F;refine aM (fun k e w=>∃ (CU:Int),e 1=pt U 0∧e 8=i_ CU∧Sat w0 w [Box U 46 [i_ a0,u1,u2]]∧cy N k a0 a1 a2 CU=some FO) N ?_ ?_ ?_
   ·exact ⟨0,Dl,rfl,S,hL⟩
   ·rintro e w ⟨_,_,_,_,hz⟩; exact nn hz
   rintro k GD GE ⟨CU,CX,C3,S,F⟩;refine gn fun _ Dq=>sg fun _ Ef=>sR fun _ FP=>pM (i_ CU) C3 (pe (pt U (0 + 2)) (ae CX) (pe u2 (ac rfl ((S.boxAt 0 rfl) 2 _ rfl)) (pe (i_ (a2.length:Int)) (au rfl ha2) (pe (.bool (decide (CU < (a2.length:Int)))) (aV rfl rfl) (en FP (oF F (fun Dr F=>?_) fun Dr F=>?_))))))
   ·refine ct Dr (sn Ef (sg fun _ DH=>bg fun _ DI=>sg fun _ Eg=>?_));refine bI (by kernel_rfl) (by kernel_rfl) ?_;refine qe (pt U (0 + 2)) (ae CX) (qe u2 (ac rfl ((S.boxAt 0 rfl) 2 _ rfl)) (qM (i_ CU) C3 (oB F fun FQ E1 F=>?_)));refine aY (wA:=w0) rfl ha2 rfl dt rfl E1 dt ?_;intro GF Gb GG E2 E3;obtain rfl:=E2;refine qe (i_ FQ) (ac rfl ((ak S.below E3) 0 _ rfl)) (qe (pt U (0 + 0)) (ae CX) (qe (i_ a0) (ac rfl ((S.boxAt 0 rfl) 0 _ rfl)) (oB F fun FR E4 F=>qe (i_ FR) (cq rfl rfl E4) (oB F fun DJ E5 F=>?_))));refine c4 (.bool DJ) gU (fun w' hw'=>cW E5) (ca (ah rfl (ah rfl (ah rfl rfl)))) dt ?_;refine qe (.bool (!DJ)) (bo rfl) (qm (.bool (!DJ)) (oF F (fun J F=>?_) fun J F=>?_))
    ·refine qi (am J) (qe (pt U (0 + 2)) (ae CX) (qi (am J) (qe u2 (ac rfl ((S.boxAt 0 rfl) 2 _ rfl)) (qi (am J) (qM (i_ CU) C3 (qi (am J) (oB F fun GH E6 F=>?_)))))));refine u9 (wA:=w0) rfl rfl ha2 (.inr ⟨rfl,rfl⟩) (.inl (congrArg some rfl)) E6 dt ?_;intro GI E7;refine qi (am J) (qe (pt U (0 + 2)) (ae CX) (qi (am J) (qe u2 (ac rfl ((S.boxAt 0 rfl) 2 _ rfl)) (qi (am J) (qM (i_ CU) C3 (qi (am J) (oB F fun FS E8 F=>?_)))))));refine aY (wA:=w0) rfl ha2 rfl dt rfl E8 dt ?_;intro GJ Gc GK E9 Fa;obtain rfl:=E9;refine qi (am J) (qe (i_ FS) (ac rfl ((ak S.below Fa) 0 _ rfl)) (qi (am J) (oB F fun DK Fb F=>?_)));refine c4 (i_ DK) mo (fun w' hw'=>fH (cX (S.up E7) hw') Fb) (ca (ah rfl (ah rfl rfl))) dt ?_;refine qi (am J) (qe (.bool (decide (0 ≤ DK))) (jd rfl rfl) (qe (.bool (decide (0 ≤ DK))) (aB rfl (am J) rfl) (bj ?_)));intro GL Fc;replace S:=S.ext Fc;refine tn Eg (oF F (fun Ds F=>?_) fun Ds F=>?_)
     ·refine ct Ds (sg fun _ FT=>?_);replace S:=S.r0;refine ai (pa (.bool false) (en FT (aj (br DI (tr DH (tr Dq (br DG (tr DF ?_))))))));replace F:=exL F Dp;refine aE rfl rfl ?_;exact rB F S
     refine cf Ds (bb (bn DI (tn DH (ai (pM (i_ CU) C3 (oB F fun DL Fd F=>pe (i_ DL) (aD rfl rfl Fd) (pa (i_ DL) (en Dq ?_))))))));replace S:=S.keep 1;exact ⟨DL,CX,rfl,S,F⟩
    refine qo (an J) (qo (an J) (qo (an J) (qo (an J) (qo (an J) (qo (an J) (qo (an J) (qo (an J) (qo (an J) (qo (an J) (qo (an J) (qe (.bool true) (ax rfl (an J) rfl) (bj ?_))))))))))));intro GM Fe;replace S:=S.ext Fe;refine tn Eg (ct rfl (sg fun _ FU=>?_));replace S:=S.r0;refine ai (pa (.bool false) (en FU (aj (br DI (tr DH (tr Dq (br DG (tr DF ?_))))))));replace F:=exL F Dp;refine aE rfl rfl ?_;exact rB F S
   refine cf Dr (aL (tx Ef (tx Dq ?_)));replace F:=exA F Dp;refine bS DG (tn DF (sg fun _ FV=>?_));replace S:=S.r0;refine ai (pa (.bool true) (en FV (aj (aE rfl rfl ?_))));exact rB F S
  refine eo (an CQ) (eo (an CQ) (eo (an CQ) (eo (an CQ) (eo (an CQ) (eo (an CQ) (pe (.bool true) (ax rfl (an CQ) rfl) (en Dt (ct rfl (sg fun _ FW=>?_)))))))));replace S:=S.r0;refine ai (pa (.bool false) (en FW (aj (tr Da (aE rfl rfl ?_)))));exact rB F S
 refine eo (an CR) (eo (an CR) (eo (an CR) (eo (an CR) (eo (an CR) (pe (.bool true) (ax rfl (an CR) rfl) (pm (.bool true) (eo rfl (eo rfl (eo rfl (eo rfl (eo rfl (eo rfl (pe (.bool true) (ax rfl rfl rfl) (en Dt (ct rfl (sg fun _ FX=>?_))))))))))))))));replace S:=S.r0;refine ai (pa (.bool false) (en FX (aj (tr Da (aE rfl rfl ?_)))));exact rB F S
theorem lf {w0:World} {u0:Value} {a0:List T6_} {a1:Int} {u2:Value} {a2:List T3_} {u3:Value} {a3:List Int} (ha0:bt.rd w0 [u0] a0) (ha2:R6_.rd w0 [u2] a2) (ha3:R0_.rd w0 [u3] a3) {N:Nat} {r:Bool} (F:fY N a0 a1 a2 a3=some r): Calls Tryz.prog 46 #[.agg #[u0],.agg #[i_ a1,u2,u3]] w0 fun e w'=>e=.returned (.bool r)∧Ext w0 w' := by
 unfold fY at F;refine aH Tryz.func46 rfl rfl dt ?_;have S:=Sat.start w0;refine sR fun _ DE=>?_;refine bD [u0] rfl S dt ?_;intro DX CT S DS;refine bD [i_ a1,u2,u3] rfl S dt ?_;intro DY Z S DT;refine pa (.bool false) (en DE (sg fun _ C2=>sR fun _ DF=>pa (i_ 0) (en DF (bg fun _ C3=>?_))));obtain ⟨DG,hL,CY⟩:=ob F;refine aM (fun k e w=>∃ (CR:Int),e 2=pt CT 0∧e 3=pt Z 0∧e 5=i_ CR∧Sat w0 w [Box Z 46 [i_ a1,u2,u3],Box CT 43 [u0]]∧cV N k a0 a1 a2 a3 CR=some DG) N ?_ ?_ ?_
 ·exact ⟨0,rfl,rfl,rfl,S,hL⟩
 ·rintro e w ⟨_,_,_,_,_,hz⟩; exact nn hz
 rintro k DZ D0 ⟨CR,CV,CU,CX,S,F⟩;refine gn fun _ CZ=>sg fun _ De=>sR fun _ DH=>pM (i_ CR) CX (pe (pt Z (0 + 1)) (ae CU) (pe u2 (ac rfl ((S.boxAt 0 rfl) 1 _ rfl)) (pe (i_ (a2.length:Int)) (au rfl ha2) (pe (.bool (decide (CR < (a2.length:Int)))) (aV rfl rfl) (en DH (oF F (fun C0 F=>?_) fun C0 F=>?_))))))
 ·refine ct C0 (sn De (sg fun _ C4=>bg fun _ C5=>sg fun _ DI=>oB F fun DJ Di F=>oB F fun U C9 F=>?_));refine lA (fun e w=>∃ (CQ:Nat),∃ (Y:Value),e 2=pt CT 0∧e 3=pt Z 0∧e 5=i_ CR∧e 6=pt CQ 0∧e 7=.bool U.2∧Sat w0 w [Box Z 46 [i_ a1,u2,u3],Box CT 43 [u0],Box CQ 38 [i_ U.1.1,Y],Own R2_ [Y] U.1.2]) ?_ ?_
  ·obtain ⟨C,hCd⟩:∃ C:World → Prop,∀ w,C w ↔ ∃ G,Sat w0 w ([Box Z 46 [i_ a1,u2,u3],Box CT 43 [u0]] ++ G):=⟨_,fun _=>Iff.rfl⟩;refine bL [0,1,2,3,4,5,6,7,8,9,10,11,12,13] C (by kernel_rfl) ?_;intro D1 Dj;replace S:=S.ext Dj;have hC:=(hCd _).2 ⟨_,S⟩;refine aP (.agg #[u0]) 0 rfl rfl hC (aq rfl (fun w' hw'=>by obtain ⟨_,S⟩:=(hCd _).1 hw'; exact (ay (cs:=[u0]) CV rfl (aA (S.boxAt 1 rfl))))) ?_;refine aP (pt Z (0 + 1)) 1 rfl rfl hC (aq rfl (fun w' hw'=>by obtain ⟨_,S⟩:=(hCd _).1 hw'; exact (ae CU))) ?_;refine aP u2 2 rfl rfl hC (aq rfl (fun w' hw'=>by obtain ⟨_,S⟩:=(hCd _).1 hw'; exact (ac rfl ((S.boxAt 0 rfl) 1 _ rfl)))) ?_;refine aP (i_ CR) 3 rfl rfl hC (aq rfl (fun w' hw'=>by obtain ⟨_,S⟩:=(hCd _).1 hw'; exact (aK CX))) ?_;refine fI (wA:=w0) (by kernel_rfl) 4 rfl hC (by kernel_rfl) (by kernel_rfl) rfl ha2 rfl dt rfl Di dt ?_;intro DK Dk D2 Dl Dm;obtain ⟨_,_,rfl,Dn,Do⟩:=Dl;obtain ⟨rfl,Da⟩:=Dn;obtain ⟨D3,rfl⟩:=aw Do;refine aP (pt DK (Dk + 0)) 5 rfl rfl hC (aq rfl (fun w' hw'=>by obtain ⟨_,S⟩:=(hCd _).1 hw'; exact (ae rfl))) ?_;refine aP (.string DJ.1) 6 rfl rfl hC (aq rfl (fun w' hw'=>by obtain ⟨_,S⟩:=(hCd _).1 hw'; exact (ac rfl ((ak S.below Dm) 0 _ rfl)))) ?_;refine gz 7 11 (by kernel_rfl) rfl rfl ?_ ?_
   ·refine ec1 pz (eu (S.up ha0) Da C9) (ca (ah rfl (ah rfl rfl))) S fun DL Y Dp S=>?_;refine ag ?_;replace S:=S.t2.t2;have hC:=(hCd _).2 ⟨_,S⟩;refine ⟨fun _=>hC,?_⟩;refine aP (.tuple #[.agg #[i_ U.1.1,Y],.bool U.2]) 8 rfl rfl hC (aq rfl (fun w' hw'=>by obtain ⟨_,S⟩:=(hCd _).1 hw'; exact (aK rfl))) ?_;refine aP (.agg #[i_ U.1.1,Y]) 9 rfl rfl hC (aq rfl (fun w' hw'=>by obtain ⟨_,S⟩:=(hCd _).1 hw'; exact (aF rfl rfl))) ?_;refine aP (.bool U.2) 10 rfl rfl hC (aq rfl (fun w' hw'=>by obtain ⟨_,S⟩:=(hCd _).1 hw'; exact (aF rfl rfl))) ?_;refine aO 11 rfl ?_;refine aQ S dt ?_;intro DM CQ S Dq;refine ag ?_;replace S:=S.t2.t2;have hC:=(hCd _).2 ⟨_,S⟩;refine ⟨fun _=>hC,?_⟩;refine aO 12 rfl ?_;refine ap (S.top 2 rfl) rfl [i_ U.1.1,Y] rfl rfl dt (all_cons rfl (all_cons (oc (S.rdAt (R:=R2_) 3 rfl)) rfl)) ?_;intro C6 S;replace S:Sat w0 C6 [Box CQ 38 [i_ U.1.1,Y],Box Z 46 [i_ a1,u2,u3],Box CT 43 [u0],Own R2_ [Y] U.1.2]:=S;refine ag ?_;replace S:=S.t2.t2;have hC:=(hCd _).2 ⟨_,S⟩;refine ⟨fun _=>hC,?_⟩;refine aO 13 rfl ?_;refine pa (.bool U.2) (ag ?_);refine ⟨fun _=>hC,?_⟩;refine bv (by kernel_rfl) ?_;exact ⟨rfl,CQ,Y,CV,CU,CX,rfl,rfl,S⟩
   refine aQ S dt ?_;intro DM CQ S Dq;refine ag ?_;replace S:=S.t2.t2;have hC:=(hCd _).2 ⟨_,S⟩;refine ⟨fun _=>hC,?_⟩;refine aO 7 rfl ?_;refine ec1 pz (eu (S.up ha0) Da C9) (ca (ah rfl (ah rfl rfl))) S fun DL Y Dp S=>?_;refine ag ?_;replace S:=S.t2.t2;have hC:=(hCd _).2 ⟨_,S⟩;refine ⟨fun _=>hC,?_⟩;refine aO 8 rfl ?_;refine pm (.tuple #[.agg #[i_ U.1.1,Y],.bool U.2]) (ag ?_);refine ⟨fun _=>hC,?_⟩;refine aP (.agg #[i_ U.1.1,Y]) 9 rfl rfl hC (aq rfl (fun w' hw'=>by obtain ⟨_,S⟩:=(hCd _).1 hw'; exact (aF rfl rfl))) ?_;refine aP (.bool U.2) 10 rfl rfl hC (aq rfl (fun w' hw'=>by obtain ⟨_,S⟩:=(hCd _).1 hw'; exact (aF rfl rfl))) ?_;refine aO 12 rfl ?_;refine ap (S.top 3 rfl) rfl [i_ U.1.1,Y] rfl rfl dt (all_cons rfl (all_cons (oc (S.rdAt (R:=R2_) 2 rfl)) rfl)) ?_;intro C6 S;replace S:Sat w0 C6 [Box CQ 38 [i_ U.1.1,Y],Box Z 46 [i_ a1,u2,u3],Box CT 43 [u0],Own R2_ [Y] U.1.2]:=S;refine ag ?_;replace S:=S.t2.t2;have hC:=(hCd _).2 ⟨_,S⟩;refine ⟨fun _=>hC,?_⟩;refine aO 13 rfl ?_;refine pa (.bool U.2) (ag ?_);refine ⟨fun _=>hC,?_⟩;refine bv (by kernel_rfl) ?_;exact ⟨rfl,CQ,Y,CV,CU,CX,rfl,rfl,S⟩
  rintro D4 D5 ⟨CQ,Y,Dr,Db,Dc,Ds,Dt,S⟩;refine tn DI (sg fun _ Df=>?_);refine bI (by kernel_rfl) (by kernel_rfl) ?_;refine qM (.bool U.2) Dt (qe (.bool (!U.2)) (bo rfl) (qm (.bool (!U.2)) (oF F (fun J F=>?_) fun J F=>?_)))
  ·refine qi (am J) (qe (pt CQ (0 + 0)) (ae Ds) (qi (am J) (qe (i_ U.1.1) (ac rfl ((S.boxAt 2 rfl) 0 _ rfl)) (qi (am J) (qe (pt Z (0 + 1)) (ae Db) (qi (am J) (qe u2 (ac rfl ((S.boxAt 0 rfl) 1 _ rfl)) (qi (am J) (qM (i_ CR) Dc (qi (am J) (oB F fun C7 Du F=>?_)))))))))));refine aY (wA:=w0) rfl ha2 rfl dt rfl Du dt ?_;intro DN Dv D6 Dw Dx;obtain ⟨_,_,rfl,Dy,Dd⟩:=Dw;obtain ⟨rfl,DU⟩:=Dy;obtain ⟨DO,rfl⟩:=aw Dd;refine qi (am J) (qe (pt DN (Dv + 1)) (ae rfl) (qi (am J) (qe DO (ac rfl ((ak S.below Dx) 1 _ rfl)) (qi (am J) (qe (i_ (C7.2.length:Int)) (au rfl Dd) (qi (am J) (qe (.bool (U.1.1 != (C7.2.length:Int))) (dA rfl rfl) (qe (.bool (U.1.1 != (C7.2.length:Int))) (aB rfl (am J) rfl) (bj ?_)))))))));intro D7 Dz;replace S:=S.ext Dz;refine tn Df (oF F (fun C1 F=>?_) fun C1 F=>?_)
   ·refine ct C1 (sg fun _ DP=>?_);replace S:=S.r3.r2.r1.r0;refine ai (pa (.bool false) (en DP (aj (br C5 (tr C4 (tr CZ (br C3 (tr C2 ?_))))))));replace F:=exL F CY;refine aE rfl rfl ?_;exact rB F S
   refine cf C1 (bb (bn C5 (tn C4 ?_)));replace S:=S.r3.r2;refine ai (pM (i_ CR) Dc (oB F fun C8 DA F=>pe (i_ C8) (aD rfl rfl DA) (pa (i_ C8) (en CZ ?_))));replace S:=S.keep 2;exact ⟨C8,Dr,Db,rfl,S,F⟩
  refine qo (an J) (qo (an J) (qo (an J) (qo (an J) (qo (an J) (qo (an J) (qo (an J) (qo (an J) (qo (an J) (qo (an J) (qe (.bool true) (ax rfl (an J) rfl) (bj ?_)))))))))));intro D8 DB;replace S:=S.ext DB;refine tn Df (ct rfl (sg fun _ DQ=>?_));replace S:=S.r3.r2.r1.r0;refine ai (pa (.bool false) (en DQ (aj (br C5 (tr C4 (tr CZ (br C3 (tr C2 ?_))))))));replace F:=exL F CY;refine aE rfl rfl ?_;exact rB F S
 refine cf C0 (aL (tx De (tx CZ ?_)));replace F:=exA F CY;refine bS C3 (tn C2 (sR fun _ Dg=>pe (.agg #[i_ a1,u2,u3]) (ay (cs:=[i_ a1,u2,u3]) CU rfl (aA (S.boxAt 0 rfl))) (oB F fun DR DC F=>?_)));refine ec0 o3 (e7 (S.up ha2) (S.up ha3) DC) (ca (ah rfl rfl)) S fun D9 DV S=>?_;refine pm (.bool DR) (oF F (fun CS F=>?_) fun CS F=>?_)
 ·refine ei CS (pe (.agg #[u0]) (ay (cs:=[u0]) CV rfl (aA (S.boxAt 1 rfl))) (ei CS (oB F fun Dh DD F=>?_)));refine ec0 yO (js (S.up ha0) DD) (ca (ah rfl rfl)) S fun Ea DW S=>?_;refine pe (.bool Dh) (ax rfl CS rfl) (pa (.bool Dh) (en Dg (aj (aE rfl rfl ?_))));exact rB F S
 refine eo CS (eo CS (pe (.bool false) (aB rfl CS rfl) (pa (.bool false) (en Dg (aj (aE rfl rfl ?_))))));exact rB F S
theorem jY {w0:World} {u0:Value} {a0:List Int} (ha0:R0_.rd w0 [u0] a0) {N:Nat} {r:Bool} (F:eQ N a0=some r): Calls Tryz.prog 68 #[u0] w0 fun e w'=>e=.returned (.bool r)∧Ext w0 w' := by
 unfold eQ at F;refine aH Tryz.func68 rfl rfl dt ?_;have S:=Sat.start w0;refine sR fun _ Di=>pa (.bool false) (en Di (sg fun _ CU=>sR fun _ Dj=>pa (i_ 0) (en Dj (bg fun _ CV=>?_))));obtain ⟨Dk,hL,CQ⟩:=ob F;refine aM (fun k e w=>∃ (U:Int),e 0=u0∧e 3=i_ U∧Sat w0 w []∧cQ N k a0 U=some Dk) N ?_ ?_ ?_
 ·exact ⟨0,rfl,rfl,S,hL⟩
 ·rintro e w ⟨_,_,_,_,hz⟩; exact nn hz
 rintro k Du Dv ⟨U,Y,Z,S,F⟩;refine gn fun _ CR=>sg fun _ C2=>sR fun _ Dl=>pM (i_ U) Z (pM u0 Y (pe (i_ (a0.length:Int)) (au rfl ha0) (pe (.bool (decide (U < (a0.length:Int)))) (aV rfl rfl) (en Dl (oF F (fun CS F=>?_) fun CS F=>?_)))))
 ·refine ct CS (sn C2 (sg fun _ CX=>bg fun _ CY=>sg fun _ C3=>?_));refine bI (by kernel_rfl) (by kernel_rfl) ?_;refine qM u0 Y (qM (i_ U) Z (oB F fun Dm C4 F=>?_));refine aY (wA:=w0) rfl ha0 rfl dt rfl C4 dt ?_;intro Dw Ds Dx C5 C6;obtain rfl:=C5;refine qe (i_ Dm) (ac rfl ((ak S.below C6) 0 _ rfl)) (qM u0 Y (qe (i_ (a0.length:Int)) (au rfl ha0) (oB F fun Dn C7 F=>qe (i_ Dn) (cq rfl rfl C7) (oB F fun CZ C8 F=>?_))));refine c4 (.bool CZ) gU (fun w' hw'=>cW C8) (ca (ah rfl (ah rfl (ah rfl rfl)))) dt ?_;refine qe (.bool (!CZ)) (bo rfl) (qm (.bool (!CZ)) (oF F (fun J F=>?_) fun J F=>?_))
  ·refine qi (am J) (qM u0 Y (qi (am J) (qM (i_ U) Z (qi (am J) (oB F fun Dy C9 F=>?_)))));refine u9 (wA:=w0) rfl rfl ha0 (.inr ⟨rfl,rfl⟩) (.inl (congrArg some rfl)) C9 dt ?_;intro Dz Da;refine qi (am J) (qM u0 Y (qi (am J) (qM (i_ U) Z (qi (am J) (oB F fun Do Db F=>?_)))));refine aY (wA:=w0) rfl ha0 rfl dt rfl Db dt ?_;intro DA Dt DB Dc Dd;obtain rfl:=Dc;refine qi (am J) (qe (i_ Do) (ac rfl ((ak S.below Dd) 0 _ rfl)) (qi (am J) (oB F fun C0 De F=>?_)));refine c4 (i_ C0) mo (fun w' hw'=>fH (cX (S.up Da) hw') De) (ca (ah rfl (ah rfl rfl))) dt ?_;refine qi (am J) (qe (.bool (decide (0 ≤ C0))) (jd rfl rfl) (qe (.bool (decide (0 ≤ C0))) (aB rfl (am J) rfl) (bj ?_)));intro DC Df;replace S:=S.ext Df;refine tn C3 (oF F (fun CT F=>?_) fun CT F=>?_)
   ·refine ct CT (sR fun _ Dp=>pa (.bool false) (en Dp (aj (br CY (tr CX (tr CR (br CV (tr CU ?_))))))));replace F:=exL F CQ;refine aE rfl rfl ?_;exact rB F S
   refine cf CT (bb (bn CY (tn CX (ai (pM (i_ U) Z (oB F fun C1 Dg F=>pe (i_ C1) (aD rfl rfl Dg) (pa (i_ C1) (en CR ?_))))))));replace S:=S.keep 0;exact ⟨C1,Y,rfl,S,F⟩
  refine qo (an J) (qo (an J) (qo (an J) (qo (an J) (qo (an J) (qo (an J) (qo (an J) (qo (an J) (qo (an J) (qe (.bool true) (ax rfl (an J) rfl) (bj ?_))))))))));intro DD Dh;replace S:=S.ext Dh;refine tn C3 (ct rfl (sR fun _ Dq=>pa (.bool false) (en Dq (aj (br CY (tr CX (tr CR (br CV (tr CU ?_)))))))));replace F:=exL F CQ;refine aE rfl rfl ?_;exact rB F S
 refine cf CS (aL (tx C2 (tx CR ?_)));replace F:=exA F CQ;refine bS CV (tn CU (sR fun _ Dr=>pM u0 Y (pe (i_ (a0.length:Int)) (au rfl ha0) (pe (.bool (decide ((a0.length:Int) ≤ 5))) (lg rfl rfl) (pa (.bool (decide ((a0.length:Int) ≤ 5))) (en Dr (aj (aE rfl rfl ?_))))))));exact rB F S
theorem nI {w0:World} {a0:Int} {u1:Value} {a1:List T3_} {u2:Value} {a2:List Int} {u3:Value} {a3:List Int} (ha1:R6_.rd w0 [u1] a1) (ha2:R0_.rd w0 [u2] a2) (ha3:R0_.rd w0 [u3] a3) {N:Nat} {r:Bool} (F:gc N a0 a1 a2 a3=some r): Calls Tryz.prog 96 #[.agg #[i_ a0,u1,u2],u3] w0 fun e w'=>e=.returned (.bool r)∧Ext w0 w' := by
 unfold gc at F;refine aH Tryz.func96 rfl rfl dt ?_;have S:=Sat.start w0;refine sR fun _ CS=>?_;refine bD [i_ a0,u1,u2] rfl S dt ?_;intro CZ CT S CV;refine pa (.bool false) (en CS (sR fun _ Y=>pe (.agg #[i_ a0,u1,u2]) (ay (cs:=[i_ a0,u1,u2]) rfl rfl (aA (S.boxAt 0 rfl))) (oB F fun CU CQ F=>?_)));refine ec0 o3 (e7 (S.up ha1) (S.up ha2) CQ) (ca (ah rfl rfl)) S fun C0 CX S=>?_;refine pm (.bool CU) (oF F (fun J F=>?_) fun J F=>?_)
 ·refine ei J (pm u3 (ei J (pe (i_ (a3.length:Int)) (au rfl ha3) (ei J (pe (pt CT (0 + 0)) (ae rfl) (ei J (pe (i_ a0) (ac rfl ((S.boxAt 0 rfl) 0 _ rfl)) (ei J (pe (.bool ((a3.length:Int) == a0)) (bc rfl rfl) (pe (.bool ((a3.length:Int) == a0)) (ax rfl J rfl) (pm (.bool ((a3.length:Int) == a0)) (oF F (fun U F=>?_) fun U F=>?_))))))))))))
  ·refine ei U (pm u3 (ei U (oB F fun Z CR F=>?_)));refine ec0 x3 (jY (S.up ha3) CR) (ca (ah rfl rfl)) S fun C1 CY S=>?_;refine pe (.bool Z) (ax rfl U rfl) (pa (.bool Z) (en Y (aj (aE rfl rfl ?_))));exact rB F S
  refine eo U (eo U (pe (.bool false) (aB rfl U rfl) (pa (.bool false) (en Y (aj (aE rfl rfl ?_))))));exact rB F S
 refine eo J (eo J (eo J (eo J (eo J (pe (.bool false) (aB rfl J rfl) (pm (.bool false) (eo rfl (eo rfl (pe (.bool false) (aB rfl rfl rfl) (pa (.bool false) (en Y (aj (aE rfl rfl ?_)))))))))))));exact rB F S
theorem sv {w0:World} {u0:Value} {a0:List Int} {u1:Value} {a1:List Int} (ha0:R0_.rd w0 [u0] a0) (ha1:R0_.rd w0 [u1] a1) {N:Nat} {r:T0_} (F:jv N a0 a1=some r): Calls Tryz.prog 120 #[u0,u1] w0 fun e w'=>∃ (q0:Value),e=.returned (q0)∧Sat w0 w' [Own R0_ [q0] r] := by
 unfold jv at F;refine aH Tryz.func120 rfl rfl dt ?_;have S:=Sat.start w0;refine sR fun _ Db=>pa n_ (en Db (sR fun _ Dc=>?_));refine aT bO S dt ?_;intro Dr CY S Dn;refine pa CY (en Dc (sg fun _ Dd=>sR fun _ De=>pa (i_ 0) (en De (bg fun _ Df=>?_))));obtain ⟨Dg,hL,C2⟩:=ob F;refine aM (fun k e w=>∃ (J:Value),∃ (CR:List Int),∃ (U:Int),e 0=u0∧e 1=u1∧e 5=J∧e 6=i_ U∧Sat w0 w [Own R0_ [J] CR]∧dT N k a0 a1 CR U=some Dg) N ?_ ?_ ?_
 ·exact ⟨CY,[],0,rfl,rfl,rfl,rfl,S,hL⟩
 ·rintro e w ⟨_,_,_,_,_,_,_,_,hz⟩; exact nn hz
 rintro k Ds Dt ⟨J,CR,U,CU,Y,CV,Z,S,F⟩;refine gn fun _ CZ=>sg fun _ C0=>sR fun _ Dh=>pM (i_ U) Z (pM u1 Y (pe (i_ (a1.length:Int)) (au rfl ha1) (pe (.bool (decide (U < (a1.length:Int)))) (aV rfl rfl) (en Dh (oF F (fun CQ F=>?_) fun CQ F=>?_)))))
 ·refine ct CQ (sn C0 (sg fun _ Di=>bg fun _ Dj=>ai (pM J CV (pM u0 CU (pM u1 Y (pM (i_ U) Z (oB F fun Dk C3 F=>?_)))))));refine aG (wA:=w0) rfl ha1 rfl dt rfl C3 dt ?_;intro Du Do Dv C4 C5;obtain rfl:=C4;refine pe (i_ Dk) (ac rfl ((ak S.below C5) 0 _ rfl)) (oB F fun CS C6 F=>?_);refine aG (wA:=w0) rfl ha0 rfl dt rfl C6 dt ?_;intro Dw Dp Dx C7 C8;obtain rfl:=C7;refine pe (i_ CS) (ac rfl ((ak S.below C8) 0 _ rfl)) ?_;refine av [i_ CS] rfl (by rfl) dt rfl dt S dt ?_;intro Dy Dz S Dq;refine oB F fun Dl C9 F=>?_;have CX:=S.boxRow 0 rfl;replace S:=S.t1;replace S:=S.int CS;replace S:=S.one;refine aC rfl dt rfl dt S rfl rfl rfl (by simp) CX C9 dt ?_;intro DA C1 S;refine pa C1 (ag (bn Dj (tn Di ?_)));replace S:=S.r1;refine ai (pM (i_ U) Z (oB F fun CT Da F=>pe (i_ CT) (aD rfl rfl Da) (pa (i_ CT) (en CZ ?_))));replace S:=S.keep 1;exact ⟨C1,Dl,CT,CU,Y,rfl,rfl,S,F⟩
 refine cf CQ (aL (tx C0 (tx CZ ?_)));replace F:=exB F C2;refine bS Df (tn Dd (sR fun _ Dm=>pM J CV (pa J (en Dm (aj (aE rfl rfl ?_))))));have hr:=oI F;exact ⟨J,cR hr fun r=>J,sP hr (fun r=>[Own R0_ [J] r]) (S.keep 1)⟩
theorem re {w0:World} {a0:Int} {u1:Value} {a1:List T0_} {u2:Value} {a2:List Int} (ha1:R2_.rd w0 [u1] a1) (ha2:R0_.rd w0 [u2] a2) {N:Nat} {r:T4_ × Bool} (F:jf N a0 a1 a2=some r): Calls Tryz.prog 111 #[.agg #[i_ a0,u1],u2] w0 fun e w'=>∃ (q0:Value),e=.returned (.tuple #[.agg #[i_ r.1.1,q0],.bool r.2])∧Sat w0 w' [Own R2_ [q0] r.1.2] := by
 unfold jf at F;refine aH Tryz.func111 rfl rfl dt ?_;have S:=Sat.start w0;refine sR fun _ DI=>?_;refine bD [i_ a0,u1] rfl S dt ?_;intro Ek CR S Ea;refine aQ S dt ?_;intro El CQ S Eb;refine pa (.bool false) (en DI (sg fun _ Dg=>sR fun _ DJ=>pa (i_ 0) (en DJ (bg fun _ Dh=>?_))));obtain ⟨DK,hL,Dc⟩:=ob F;refine aM (fun k e w=>∃ (CS:Int),e 1=u2∧e 2=pt CR 0∧e 4=pt CQ 0∧e 6=i_ CS∧Sat w0 w [Box CQ 38 [i_ 0,n_],Box CR 38 [i_ a0,u1]]∧dx N k a2 a0 a1 0 [] CS=some DK) N ?_ ?_ ?_
 ·exact ⟨0,rfl,rfl,rfl,rfl,S,hL⟩
 ·rintro e w ⟨_,_,_,_,_,_,hz⟩; exact nn hz
 rintro k Em En ⟨CS,CU,CX,Z,CY,S,F⟩;refine gn fun _ C8=>sg fun _ Di=>sR fun _ DL=>pM (i_ CS) CY (pM u2 CU (pe (i_ (a2.length:Int)) (au rfl ha2) (pe (.bool (decide (CS < (a2.length:Int)))) (aV rfl rfl) (en DL (oF F (fun CZ F=>?_) fun CZ F=>?_)))))
 ·refine ct CZ (sn Di (sg fun _ Dj=>bg fun _ Dk=>sg fun _ DM=>?_));refine bI (by kernel_rfl) (by kernel_rfl) ?_;refine qM u2 CU (qM (i_ CS) CY (oB F fun DN Dt F=>?_));refine aY (wA:=w0) rfl ha2 rfl dt rfl Dt dt ?_;intro Eo Ec Ep Du Dv;obtain rfl:=Du;refine qe (i_ DN) (ac rfl ((ak S.below Dv) 0 _ rfl)) (qe (pt CR (0 + 0)) (ae CX) (qe (i_ a0) (ac rfl ((S.boxAt 1 rfl) 0 _ rfl)) (oB F fun DO Dw F=>qe (i_ DO) (cq rfl rfl Dw) (oB F fun Dl Dx F=>?_))));refine c4 (.bool Dl) gU (fun w' hw'=>cW Dx) (ca (ah rfl (ah rfl (ah rfl rfl)))) dt ?_;refine qe (.bool (!Dl)) (bo rfl) (bj ?_);intro Er Dy;replace S:=S.ext Dy;refine tn DM (oF F (fun C0 F=>?_) fun C0 F=>?_)
  ·refine cf (am C0) (bb (bn Dk (tn Dj (ai (pM (i_ CS) CY (oB F fun C9 Dz F=>pe (i_ C9) (aD rfl rfl Dz) (pa (i_ C9) (en C8 ?_))))))));replace S:=S.keep 2;exact ⟨C9,CU,CX,Z,rfl,S,F⟩
  refine ct (an C0) (sg fun _ DP=>?_);replace S:=S.r1;refine ai (pe (.agg #[i_ 0,n_]) (bq [] [i_ 0,n_] rfl rfl) ?_);refine ap (S.top 0 rfl) Z [i_ 0,n_] rfl rfl dt (all_cons rfl (all_cons rfl rfl)) ?_;intro DQ S;replace S:Sat w0 DQ [Box CQ 38 [i_ 0,n_]]:=S;refine pa (.bool false) (en DP (aj (br Dk (tr Dj (tr C8 (br Dh (tr Dg ?_)))))));replace F:=exL F Dc;replace S:=S.nil R0_ 24;refine fL (cs:=[i_ 0,n_]) rfl Z rfl (aA (S.boxAt 1 rfl)) rfl ?_;have hr:=oI F;exact ⟨n_,cR hr fun r=>.tuple #[.agg #[i_ r.1.1,n_],.bool r.2],sP hr (fun r=>[Own R2_ [n_] r.1.2]) (S.keep 1)⟩
 refine cf CZ (aL (tx Di (tx C8 ?_)));replace F:=exA F Dc;refine bS Dh (tn Dg (sg fun _ Da=>sR fun _ Dm=>pe (.agg #[i_ a0,u1]) (ay (cs:=[i_ a0,u1]) CX rfl (aA (S.boxAt 1 rfl))) (oB F fun Dn DA F=>?_)));refine ec0 po (dU (S.up ha1) DA) (ca (ah rfl rfl)) S fun Es Ed S=>?_;refine pe (.bool (!Dn)) (bo rfl) (pm (.bool (!Dn)) (oF F (fun Y F=>?_) fun Y F=>?_))
 ·refine ei (am Y) (pM u2 CU (ei (am Y) (pe (i_ (a2.length:Int)) (au rfl ha2) (ei (am Y) (pe (.bool (decide (5 < (a2.length:Int)))) (bR rfl rfl) (pe (.bool (decide (5 < (a2.length:Int)))) (aB rfl (am Y) rfl) (en Dm (oF F (fun C1 F=>?_) fun C1 F=>?_))))))))
  ·refine ct C1 (sg fun _ DR=>?_);replace S:=S.r1;refine ai (pe (.agg #[i_ 0,n_]) (bq [] [i_ 0,n_] rfl rfl) ?_);refine ap (S.top 0 rfl) Z [i_ 0,n_] rfl rfl dt (all_cons rfl (all_cons rfl rfl)) ?_;intro DS S;replace S:Sat w0 DS [Box CQ 38 [i_ 0,n_]]:=S;refine pa (.bool false) (en DR (aj (tr Da ?_)));replace S:=S.nil R0_ 24;refine fL (cs:=[i_ 0,n_]) rfl Z rfl (aA (S.boxAt 1 rfl)) rfl ?_;have hr:=oI F;exact ⟨n_,cR hr fun r=>.tuple #[.agg #[i_ r.1.1,n_],.bool r.2],sP hr (fun r=>[Own R2_ [n_] r.1.2]) (S.keep 1)⟩
  refine cf C1 (sn Da (sR fun _ DT=>?_));refine aT R0_ S dt ?_;intro Et Do S Ee;refine pa Do (en DT (sg fun _ DU=>sR fun _ DV=>pa (i_ 0) (en DV (bg fun _ DW=>?_))));obtain ⟨DX,hL,DB⟩:=ob F;refine aM (fun k e w=>∃ (CV:Value),∃ (C2:List T0_),∃ (CT:Int),e 1=u2∧e 2=pt CR 0∧e 4=pt CQ 0∧e 7=CV∧e 8=i_ CT∧Sat w0 w [Own R2_ [CV] C2,Box CQ 38 [i_ 0,n_],Box CR 38 [i_ a0,u1]]∧dz N k a2 a0 a1 0 [] C2 CT=some DX) N ?_ ?_ ?_
  ·exact ⟨Do,[],0,CU,CX,Z,rfl,rfl,S,hL⟩
  ·rintro e w ⟨_,_,_,_,_,_,_,_,_,hz⟩; exact nn hz
  rintro k Eu Ev ⟨CV,C2,CT,C3,C4,C5,Dd,C6,S,F⟩;refine gn fun _ Dp=>sg fun _ Dq=>sR fun _ DY=>pM (i_ CT) C6 (pe (pt CR (0 + 1)) (ae C4) (pe u1 (ac rfl ((S.boxAt 2 rfl) 1 _ rfl)) (pe (i_ (a1.length:Int)) (au rfl ha1) (pe (.bool (decide (CT < (a1.length:Int)))) (aV rfl rfl) (en DY (oF F (fun C7 F=>?_) fun C7 F=>?_))))))
  ·refine ct C7 (sn Dq (sg fun _ DZ=>bg fun _ D0=>ai (pM CV Dd (pe (pt CR (0 + 1)) (ae C4) (pe u1 (ac rfl ((S.boxAt 2 rfl) 1 _ rfl)) (pM (i_ CT) C6 (oB F fun Ew DC F=>?_)))))));refine aG (wA:=w0) rfl ha1 rfl dt rfl DC dt ?_;intro Ex Ef Ey De DD;obtain ⟨D1,rfl⟩:=aw De;refine pe D1 (ac rfl ((ak S.below DD) 0 _ rfl)) (pM u2 C3 (oB F fun Ez DE F=>?_));refine ec1 AF (sv (S.up De) (S.up ha2) DE) (ca (ah rfl (ah rfl rfl))) S fun EA D2 Eg S=>?_;refine av [D2] (aX rfl (oc (S.rdAt (R:=R0_) 0 rfl))) (by rfl) dt rfl dt S dt ?_;intro EB EC S Eh;refine oB F fun D3 DF F=>?_;have Df:=S.boxRow 0 rfl;replace S:=S.t2;replace S:=S.t2;replace S:=S.one;refine aC rfl dt rfl dt S rfl rfl rfl (by simp) Df DF dt ?_;intro ED Dr S;refine pa Dr (ag (bn D0 (tn DZ ?_)));replace S:=S.r1;refine ai (pM (i_ CT) C6 (oB F fun Db DG F=>pe (i_ Db) (aD rfl rfl DG) (pa (i_ Db) (en Dp ?_))));replace S:=S.keep 3;exact ⟨Dr,D3,Db,C3,C4,C5,rfl,rfl,S,F⟩
  refine cf C7 (aL (tx Dq (tx Dp ?_)));replace F:=exB F DB;refine bS DW (tn DU (sg fun _ D4=>?_));replace S:=S.r2;refine ai (pM u2 C3 (pe (i_ (a2.length:Int)) (au rfl ha2) (pM CV Dd (oB F fun J DH F=>?_))));refine ec1 mu (dq (S.rdAt (R:=R2_) 0 rfl) DH) (ca (ah rfl (ah rfl rfl))) S fun EE U Ei S=>?_;refine pm (.tuple #[.agg #[i_ J.1.1,U],.bool J.2]) (pe (.agg #[i_ J.1.1,U]) (aF rfl rfl) (pe (.bool J.2) (aF rfl rfl) ?_));refine aQ S dt ?_;intro EF Ds S Ej;refine ap (S.top 0 rfl) rfl [i_ J.1.1,U] rfl rfl dt (all_cons rfl (all_cons (oc (S.rdAt (R:=R2_) 1 rfl)) rfl)) ?_;intro D5 S;replace S:Sat w0 D5 [Box Ds 38 [i_ J.1.1,U],Own R2_ [U] J.1.2,Own R2_ [CV] C2,Box CQ 38 [i_ 0,n_]]:=S;refine pa (.bool J.2) (en D4 (sg fun _ D6=>?_));replace S:=S.r2;refine ai (pe (.agg #[i_ J.1.1,U]) (ay (cs:=[i_ J.1.1,U]) rfl rfl (aA (S.boxAt 0 rfl))) (pm (.bool J.2) ?_));refine ap (S.top 2 rfl) C5 [i_ J.1.1,U] rfl rfl dt (all_cons rfl (all_cons (oc (S.rdAt (R:=R2_) 1 rfl)) rfl)) ?_;intro D7 S;replace S:Sat w0 D7 [Box CQ 38 [i_ J.1.1,U],Box Ds 38 [i_ J.1.1,U],Own R2_ [U] J.1.2]:=S;refine pa (.bool J.2) (en D6 (aj ?_));refine fL (cs:=[i_ J.1.1,U]) rfl C5 rfl (aA (S.boxAt 0 rfl)) rfl ?_;replace S:=S.t2;have hr:=oI F;exact ⟨U,cR hr fun r=>.tuple #[.agg #[i_ r.1.1,U],.bool r.2],sP hr (fun r=>[Own R2_ [U] r.1.2]) (S.keep 1)⟩
 refine eo (an Y) (eo (an Y) (eo (an Y) (pe (.bool true) (ax rfl (an Y) rfl) (en Dm (ct rfl (sg fun _ D8=>?_))))));replace S:=S.r1;refine ai (pe (.agg #[i_ 0,n_]) (bq [] [i_ 0,n_] rfl rfl) ?_);refine ap (S.top 0 rfl) Z [i_ 0,n_] rfl rfl dt (all_cons rfl (all_cons rfl rfl)) ?_;intro D9 S;replace S:Sat w0 D9 [Box CQ 38 [i_ 0,n_]]:=S;refine pa (.bool false) (en D8 (aj (tr Da ?_)));replace S:=S.nil R0_ 24;refine fL (cs:=[i_ 0,n_]) rfl Z rfl (aA (S.boxAt 1 rfl)) rfl ?_;have hr:=oI F;exact ⟨n_,cR hr fun r=>.tuple #[.agg #[i_ r.1.1,n_],.bool r.2],sP hr (fun r=>[Own R2_ [n_] r.1.2]) (S.keep 1)⟩
theorem hU {w0:World} {a0:Int} {u1:Value} {a1:List T0_} {u2:Value} {a2:List Int} (ha1:R2_.rd w0 [u1] a1) (ha2:R0_.rd w0 [u2] a2) {N:Nat} {r:T4_ × Bool} (F:ik N a0 a1 a2=some r): Calls Tryz.prog 97 #[.agg #[i_ a0,u1],u2] w0 fun e w'=>∃ (q0:Value),e=.returned (.tuple #[.agg #[i_ r.1.1,q0],.bool r.2])∧Sat w0 w' [Own R2_ [q0] r.1.2] := by
 unfold ik at F;refine aH Tryz.func97 rfl rfl dt ?_;have S:=Sat.start w0;refine sR fun _ C1=>?_;refine bD [i_ a0,u1] rfl S dt ?_;intro Di CU S Dd;refine aQ S dt ?_;intro Dj Z S De;refine pa (.bool false) (en C1 (sg fun _ CT=>sR fun _ CV=>pm u2 (oB F fun CX CZ F=>?_)));refine ec0 x3 (jY (S.up ha2) CZ) (ca (ah rfl rfl)) S fun Dk Df S=>?_;refine pe (.bool (!CX)) (bo rfl) (pm (.bool (!CX)) (oF F (fun Y F=>?_) fun Y F=>?_))
 ·refine ei (am Y) (pm u2 (ei (am Y) (pe (i_ (a2.length:Int)) (au rfl ha2) (ei (am Y) (pe (pt CU (0 + 0)) (ae rfl) (ei (am Y) (pe (i_ a0) (ac rfl ((S.boxAt 1 rfl) 0 _ rfl)) (ei (am Y) (pe (.bool ((a2.length:Int) != a0)) (dA rfl rfl) (pe (.bool ((a2.length:Int) != a0)) (aB rfl (am Y) rfl) (en CV (oF F (fun CQ F=>?_) fun CQ F=>?_))))))))))))
  ·refine ct CQ (sg fun _ C2=>?_);replace S:=S.r1;refine ai (pe (.agg #[i_ 0,n_]) (bq [] [i_ 0,n_] rfl rfl) ?_);refine ap (S.top 0 rfl) rfl [i_ 0,n_] rfl rfl dt (all_cons rfl (all_cons rfl rfl)) ?_;intro C3 S;replace S:Sat w0 C3 [Box Z 124 [i_ 0,n_]]:=S;refine pa (.bool false) (en C2 (aj (tr CT ?_)));replace S:=S.nil R0_ 24;refine fL (cs:=[i_ 0,n_]) rfl rfl rfl (aA (S.boxAt 1 rfl)) rfl ?_;have hr:=oI F;exact ⟨n_,cR hr fun r=>.tuple #[.agg #[i_ r.1.1,n_],.bool r.2],sP hr (fun r=>[Own R2_ [n_] r.1.2]) (S.keep 1)⟩
  refine cf CQ (sn CT (sR fun _ C4=>pe (.agg #[i_ a0,u1]) (ay (cs:=[i_ a0,u1]) rfl rfl (aA (S.boxAt 1 rfl))) (pm u2 (oB F fun J C0 F=>?_))));refine ec1 AH (re (S.up ha1) (S.up ha2) C0) (ca (ah rfl (ah rfl rfl))) S fun Dl U Dg S=>?_;refine pm (.tuple #[.agg #[i_ J.1.1,U],.bool J.2]) (pe (.agg #[i_ J.1.1,U]) (aF rfl rfl) (pe (.bool J.2) (aF rfl rfl) ?_));refine aQ S dt ?_;intro Dm CR S Dh;refine ap (S.top 0 rfl) rfl [i_ J.1.1,U] rfl rfl dt (all_cons rfl (all_cons (oc (S.rdAt (R:=R2_) 1 rfl)) rfl)) ?_;intro C5 S;replace S:Sat w0 C5 [Box CR 38 [i_ J.1.1,U],Own R2_ [U] J.1.2,Box Z 124 [i_ 0,n_],Box CU 38 [i_ a0,u1]]:=S;refine pa (.bool J.2) (en C4 (sg fun _ CY=>sg fun _ C6=>?_));replace S:=S.r3;refine ai (pm (.bool J.2) (pe (.bool (!J.2)) (bo rfl) (en C6 (oF F (fun CS F=>?_) fun CS F=>?_))))
  ·refine cf (am CS) (sn CY (sR fun _ C7=>pe (pt CR (0 + 0)) (ae rfl) (pe (i_ J.1.1) (ac rfl ((S.boxAt 0 rfl) 0 _ rfl)) (pe (pt CR (0 + 1)) (ae rfl) (pe U (ac rfl ((S.boxAt 0 rfl) 1 _ rfl)) (pe (.agg #[i_ J.1.1,U]) (bq [(0,[i_ J.1.1]),(1,[U])] [i_ J.1.1,U] (dk rfl (dk (aX rfl (oc (S.rdAt (R:=R2_) 1 rfl))) rfl)) rfl) ?_))))));refine ap (S.top 2 rfl) rfl [i_ J.1.1,U] rfl rfl dt (all_cons rfl (all_cons (oc (S.rdAt (R:=R2_) 1 rfl)) rfl)) ?_;intro C8 S;replace S:Sat w0 C8 [Box Z 124 [i_ J.1.1,U],Box CR 38 [i_ J.1.1,U],Own R2_ [U] J.1.2]:=S;refine pa (.bool true) (en C7 (aj ?_));refine fL (cs:=[i_ J.1.1,U]) rfl rfl rfl (aA (S.boxAt 0 rfl)) rfl ?_;replace S:=S.t2;have hr:=oI F;exact ⟨U,cR hr fun r=>.tuple #[.agg #[i_ r.1.1,U],.bool r.2],sP hr (fun r=>[Own R2_ [U] r.1.2]) (S.keep 1)⟩
  refine ct (an CS) (sg fun _ C9=>?_);replace S:=S.r1.r0;refine ai (pe (.agg #[i_ 0,n_]) (bq [] [i_ 0,n_] rfl rfl) ?_);refine ap (S.top 0 rfl) rfl [i_ 0,n_] rfl rfl dt (all_cons rfl (all_cons rfl rfl)) ?_;intro Da S;replace S:Sat w0 Da [Box Z 124 [i_ 0,n_]]:=S;refine pa (.bool false) (en C9 (aj (tr CY ?_)));replace S:=S.nil R0_ 24;refine fL (cs:=[i_ 0,n_]) rfl rfl rfl (aA (S.boxAt 1 rfl)) rfl ?_;have hr:=oI F;exact ⟨n_,cR hr fun r=>.tuple #[.agg #[i_ r.1.1,n_],.bool r.2],sP hr (fun r=>[Own R2_ [n_] r.1.2]) (S.keep 1)⟩
 refine eo (an Y) (eo (an Y) (eo (an Y) (eo (an Y) (eo (an Y) (pe (.bool true) (ax rfl (an Y) rfl) (en CV (ct rfl (sg fun _ Db=>?_))))))));replace S:=S.r1;refine ai (pe (.agg #[i_ 0,n_]) (bq [] [i_ 0,n_] rfl rfl) ?_);refine ap (S.top 0 rfl) rfl [i_ 0,n_] rfl rfl dt (all_cons rfl (all_cons rfl rfl)) ?_;intro Dc S;replace S:Sat w0 Dc [Box Z 124 [i_ 0,n_]]:=S;refine pa (.bool false) (en Db (aj (tr CT ?_)));replace S:=S.nil R0_ 24;refine fL (cs:=[i_ 0,n_]) rfl rfl rfl (aA (S.boxAt 1 rfl)) rfl ?_;have hr:=oI F;exact ⟨n_,cR hr fun r=>.tuple #[.agg #[i_ r.1.1,n_],.bool r.2],sP hr (fun r=>[Own R2_ [n_] r.1.2]) (S.keep 1)⟩
end
end Go.Proofs.YtdapplkijobjoaaGreat
