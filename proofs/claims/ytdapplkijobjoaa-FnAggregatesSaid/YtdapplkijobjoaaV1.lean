/- Plain laws: the rows of a trie that begin with a prefix, and the values behind it. -/
import Derived.Test.YtdapplkijobjoaaV0
namespace Go.Proofs.Ytdapplkijobjoaa
open Go.RowKit

abbrev gE (xs:List Int):Prop:=xs.Pairwise (·<·)
theorem lO:∀ (n:Nat) (a b:List Int),a.take n=b.take n→n<a.length→n<b.length→aX a b<0→a.getD n 0≤b.getD n 0
 | _,[],_,_,h,_,_=>absurd h (by simp)
 | _,_ :: _,[],_,_,h,_=>absurd h (by simp)
 | 0,x :: a,y :: b,_,_,_,h=>by
  unfold aX at h
  show x≤y
  by_cases h1:x<y
  ·omega
  ·rw [if_neg h1] at h
   by_cases h2:y<x
   ·rw [if_pos h2] at h;exact absurd h (by decide)
   ·omega
 | n+1,x :: a,y :: b,e,h1,h2,h=>by
  rw [List.take_succ_cons,List.take_succ_cons,List.cons.injEq] at e
  unfold aX at h
  rw [if_neg (by omega),if_neg (by omega)] at h
  simp only [List.length_cons] at h1 h2
  exact lO n a b e.2 (by omega) (by omega) h
end Go.Proofs.Ytdapplkijobjoaa
namespace Go.Proofs.Ytdapplkijobjoaa
open Go.RowKit

theorem oO {xs:List Int} (h:gE xs):xs.Nodup:=List.Pairwise.imp (fun {a b} (hab:a<b) (e:a=b)=>by omega) h
structure VRel (vs:List Int) (rows:bb):Prop where
 asc:gE vs
 bd:∀ v∈vs,0≤v∧v<5
 val:bm (vs.length:Int) rows=true
theorem VRel.len {vs:List Int} {rows:bb} (h:VRel vs rows):vs.length≤5:=lq 5 vs (oO h.asc) h.bd
theorem VRel.row {vs:List Int} {rows:bb} (h:VRel vs rows) {r:List Int} (hr:r∈rows):r.length=vs.length∧aM r=true:=by
 obtain ⟨_,_,_,v4⟩:=dR h.val
 obtain ⟨i,hi,rfl⟩:=List.getElem_of_mem hr
 obtain ⟨g1,g2,_⟩:=v4 i hi
 exact ⟨by omega,g2⟩
end Go.Proofs.Ytdapplkijobjoaa
namespace Go.Proofs.Ytdapplkijobjoaa
open Go.RowKit

abbrev Nxt:=List Int→List Int × Int
structure NxtOk (f:Nxt):Prop where
 len:∀ p,(f p).1.length≤16
 asc:∀ p,gE (f p).1
 val:∀ p,∀ v∈(f p).1,0≤v∧v≤99
 st0:∀ p,0≤(f p).2
 st1:∀ p,(f p).2≤1000
end Go.Proofs.Ytdapplkijobjoaa
namespace Go.Proofs.Ytdapplkijobjoaa
open Go.RowKit

def l9 (Ls:bb) (A:List Nat) (k:Nat):Int:=(Ls.getD k []).getD (A.getD k 0) 0
structure LInv (Ls:bb) (A:List Nat) (most:Int) (out:List Int) (s:Nat):Prop where
 pos:0<Ls.length
 len:A.length=Ls.length
 asc:∀ l∈Ls,gE l
 lt:∀ k,k<Ls.length→A.getD k 0<(Ls.getD k []).length
 cyc:∀ i j,i≤j→j<Ls.length→l9 Ls A ((s+i) % Ls.length)≤l9 Ls A ((s+j) % Ls.length)
 top:l9 Ls A ((s+(Ls.length-1)) % Ls.length)=most
 oasc:gE out
 olt:∀ x∈out,x<most
 ocom:∀ x∈out,∀ l∈Ls,x∈l
 all:∀ x,(∀ l∈Ls,x∈l)→x∈out∨∀ k,k<Ls.length→l9 Ls A k≤x
end Go.Proofs.Ytdapplkijobjoaa
namespace Go.Proofs.Ytdapplkijobjoaa
open Go.RowKit

def lV (ts:List gg) (a:l6):bb:=cv 20 (li a.2 (iR ts a.1).1.2)
theorem n0 (n:Nat):gh (cV n) (n:Int)=true:=mE (ma n) fun x hx=>by have:=nZ.1 hx;omega
structure QPair (ts:List gg) (atoms:List l6):Prop where
 a1:1≤atoms.length
 a4:atoms.length≤4
 al:∀ a∈atoms,a.2.length≤5∧∀ v∈a.2,0≤v∧v<5
 rel:∀ a∈atoms,pX ts a.1 a.2=(((jy a.2).length:Int),lV ts a)∧VRel (jy a.2) (lV ts a)∧(lV ts a).length≤16
end Go.Proofs.Ytdapplkijobjoaa
namespace Go.Proofs.Ytdapplkijobjoaa
open Go.RowKit

theorem d9 {n:Int} (h:0≤n):clp n=if n≤1000000000 then n else 1000000000:=by
 unfold clp imx imn;(repeat' split) <;> omega
theorem bu {n:Int} (h:0≤n∧n≤1000000000):clp n=n:=by rw [d9 h.1,if_pos h.2]
theorem gd {n:Int} (h:1000000000≤n):clp n=1000000000:=by rw [d9 (by omega)];split <;> omega
theorem kt {x c:Int} (hx:0≤x) (hc:0≤c):clp (clp x*c)=clp (x*c):=by
 by_cases h:x≤1000000000
 ·rw [bu ⟨hx,h⟩]
 ·rw [gd (n:=x) (by omega)]
  by_cases h0:c=0
  ·subst h0;simp
  ·have h1:=Int.mul_le_mul_of_nonneg_left (show (1:Int)≤c by omega) hx
   rw [gd (n:=1000000000*c) (by omega),gd (by omega)]
theorem kh {x c:Int} (hx:0≤x) (hc:0≤c):clp (c*clp x)=clp (c*x):=by rw [Int.mul_comm c,kt hx hc,Int.mul_comm]
theorem gO {x y:Int} (hx:0≤x) (hy:0≤y):clp (clp x+clp y)=clp (x+y):=by
 rw [d9 hx,d9 hy]
 split <;> split
 ·rfl
 all_goals (rw [gd (by omega),gd (by omega)])
theorem ov {c x y:Int} (hc:0≤c) (hx:0≤x) (hy:0≤y):clp (c*imx x y)=imx (clp (c*x)) (clp (c*y)):=by
 have h1:=Int.mul_nonneg hc hx;have h2:=Int.mul_nonneg hc hy
 unfold imx
 by_cases h:x<y
 ·have h3:=Int.mul_le_mul_of_nonneg_left (Int.le_of_lt h) hc
  rw [if_pos h,d9 h1,d9 h2]
  (repeat' split) <;> omega
 ·have h3:=Int.mul_le_mul_of_nonneg_left (show y≤x by omega) hc
  rw [if_neg h,d9 h1,d9 h2]
  (repeat' split) <;> omega
theorem kv (k a b:Int):bq k a b=bq k b a:=by
 unfold bq imn imx
 rw [Int.add_comm (clp a)]
 (repeat' split) <;> omega
theorem ku (k a b:Int):bl k a b=bl k b a:=by
 unfold bl
 rw [Int.mul_comm (clp a),Int.add_comm (clp a)]
 (repeat' split) <;> omega
theorem jR (k a b c:Int):bq k (bq k a b) c=bq k a (bq k b c):=by
 have ha:=be a;have hb:=be b;have hc:=be c
 unfold bq
 by_cases h1:k=1
 ·simp only [if_pos h1]
  have e1:=gO (x:=clp a+clp b) (y:=clp c) (by omega) (by omega)
  have e2:=gO (x:=clp a) (y:=clp b+clp c) (by omega) (by omega)
  have i1:=bu (be (clp a+clp b));have i2:=bu (be (clp b+clp c));have i3:=bu hc;have i4:=bu ha
  rw [i3] at e1;rw [i4] at e2
  rw [i1,i2,e1,e2,Int.add_assoc]
 ·by_cases h2:k=2
  ·simp only [if_neg h1,if_pos h2]
   have i1:clp (imn (clp a) (clp b))=imn (clp a) (clp b):=bu (by unfold imn;split <;> omega)
   have i2:clp (imn (clp b) (clp c))=imn (clp b) (clp c):=bu (by unfold imn;split <;> omega)
   rw [i1,i2];unfold imn;(repeat' split) <;> omega
  ·by_cases h3:k=3
   ·simp only [if_neg h1,if_neg h2,if_pos h3]
    have o1:clp 1=1:=by decide
    have o0:clp 0=0:=by decide
    by_cases x:0<clp a <;> by_cases y:0<clp b <;> by_cases z:0<clp c <;> simp [x,y,z,o1,o0]
   ·by_cases h4:k=4
    ·simp only [if_neg h1,if_neg h2,if_neg h3,if_pos h4]
     have i1:clp (imx (clp a) (clp b))=imx (clp a) (clp b):=bu (by unfold imx;split <;> omega)
     have i2:clp (imx (clp b) (clp c))=imx (clp b) (clp c):=bu (by unfold imx;split <;> omega)
     rw [i1,i2];unfold imx;(repeat' split) <;> omega
    ·simp only [if_neg h1,if_neg h2,if_neg h3,if_neg h4]
theorem mf (k a b c:Int):bl k (bl k a b) c=bl k a (bl k b c):=by
 have ha:=be a;have hb:=be b;have hc:=be c
 have m1:=Int.mul_nonneg ha.1 hb.1;have m2:=Int.mul_nonneg hb.1 hc.1
 unfold bl
 by_cases h1:k=1∨k=4
 ·simp only [if_pos h1]
  rw [bu (be (clp a*clp b)),bu (be (clp b*clp c)),kt m1 hc.1,kh m2 ha.1,Int.mul_assoc]
 ·by_cases h2:k=2
  ·simp only [if_neg h1,if_pos h2]
   have e1:=gO (x:=clp a+clp b) (y:=clp c) (by omega) (by omega)
   have e2:=gO (x:=clp a) (y:=clp b+clp c) (by omega) (by omega)
   rw [bu hc] at e1;rw [bu ha] at e2
   rw [bu (be (clp a+clp b)),bu (be (clp b+clp c)),e1,e2,Int.add_assoc]
  ·by_cases h3:k=3
   ·simp only [if_neg h1,if_neg h2,if_pos h3]
    have o1:clp 1=1:=by decide
    have o0:clp 0=0:=by decide
    by_cases x:0<clp a <;> by_cases y:0<clp b <;> by_cases z:0<clp c <;> simp [x,y,z,o1,o0]
   ·simp only [if_neg h1,if_neg h2,if_neg h3]
theorem pz (k a b c:Int):bl k c (bq k a b)=bq k (bl k c a) (bl k c b):=by
 have ha:=be a;have hb:=be b;have hc:=be c
 have m1:=Int.mul_nonneg hc.1 ha.1;have m2:=Int.mul_nonneg hc.1 hb.1
 unfold bl bq
 by_cases h1:k=1
 ·simp only [if_pos h1,if_pos (show k=1∨k=4 from .inl h1)]
  rw [bu (be (clp a+clp b)),kh (show 0≤clp a+clp b by omega) hc.1,bu (be (clp c*clp a)),bu (be (clp c*clp b)),gO m1 m2,Int.mul_add]
 ·by_cases h4:k=4
  ·have n2:¬ k=2:=by omega
   have n3:¬ k=3:=by omega
   simp only [if_neg h1,if_neg n2,if_neg n3,if_pos h4,if_pos (show k=1∨k=4 from .inr h4)]
   have i1:clp (imx (clp a) (clp b))=imx (clp a) (clp b):=bu (by unfold imx;split <;> omega)
   rw [i1,ov hc.1 ha.1 hb.1,bu (be (clp c*clp a)),bu (be (clp c*clp b))]
  ·have h14:¬ (k=1∨k=4):=by omega
   by_cases h2:k=2
   ·simp only [if_neg h1,if_neg h14,if_pos h2]
    have i1:clp (imn (clp a) (clp b))=imn (clp a) (clp b):=bu (by unfold imn;split <;> omega)
    rw [i1,bu (be (clp c+clp a)),bu (be (clp c+clp b)),d9 (show 0≤clp c+clp a by omega),d9 (show 0≤clp c+clp b by omega),d9 (show 0≤clp c+imn (clp a) (clp b) by unfold imn;split <;> omega)]
    unfold imn
    (repeat' split) <;> omega
   ·by_cases h3:k=3
    ·simp only [if_neg h1,if_neg h14,if_neg h2,if_pos h3]
     have o1:clp 1=1:=by decide
     have o0:clp 0=0:=by decide
     by_cases x:0<clp a <;> by_cases y:0<clp b <;> by_cases z:0<clp c <;> simp [x,y,z,o1,o0]
    ·simp only [if_neg h1,if_neg h14,if_neg h2,if_neg h3,if_neg h4]
theorem mi (k a:Int):bl k (cH k) a=bq k (aQ k) a:=by
 have ha:=be a
 have o1:clp 1=1:=by decide
 have o0:clp 0=0:=by decide
 have oB:clp 1000000000=1000000000:=by decide
 have hid:=bu ha
 unfold bl bq cH aQ
 by_cases h1:k=1
 ·subst h1;simp [o1,o0,hid]
 ·by_cases h2:k=2
  ·subst h2
   simp [o0,oB,hid]
   unfold imn;split <;> omega
  ·by_cases h3:k=3
   ·subst h3;simp [o1,o0]
   ·by_cases h4:k=4
    ·subst h4
     simp [o1,o0,hid]
     unfold imx;split <;> omega
    ·simp [h1,h2,h3,h4]
theorem pd (k a:Int):bl k (aQ k) a=bl k (aQ k) (aQ k):=by
 have ha:=be a
 have o0:clp 0=0:=by decide
 have oB:clp 1000000000=1000000000:=by decide
 unfold bl aQ
 by_cases h2:k=2
 ·subst h2
  simp [oB]
  rw [gd (by omega)];decide
 ·simp [h2,o0]
end Go.Proofs.Ytdapplkijobjoaa
namespace Go.Proofs.Ytdapplkijobjoaa
open Go.RowKit

theorem jU (a:Int) {m:Nat} (hm:m≤4611686018427387904):0≤cU a (m:Int)∧cU a (m:Int)≤(m:Int):=by
 have h1:(BitVec.ofInt IntKind.i64.bits a &&& BitVec.ofInt IntKind.i64.bits (m:Int)).toNat≤m:=by
  rw [BitVec.toNat_and]
  refine Nat.le_trans Nat.and_le_right ?_
  rw [BitVec.toNat_ofInt]
  have:IntKind.i64.bits=64:=rfl
  rw [this]
  omega
 unfold cU
 rw [eS (gP (by omega) (by omega))]
 omega
theorem lD (a:Int) {b:Nat}:∃ v,sr a (b:Int)=some v:=by unfold sr;rw [if_pos (by omega)];exact ⟨_,rfl⟩
abbrev eR (a:List Int):Prop:=a.length≤1048576∧∀ v∈a,0≤v∧v≤255
def dA (a:List Int) (p:Int):Prop:=0≤p∧p≤(a.length:Int)
section
variable {N:Nat}
theorem ou (a:List Int) (ha:eR a):∀ (m i k:Nat) (h:Int),i+m=4000→m<k→0≤h→h≤1073741823→∃ v,de N k a h (i:Int)=some v:=by
 intro m
 induction m with
 | zero =>
  intro i k h hi hk _ _
  obtain ⟨k,rfl⟩:∃ g,k=g+1:=⟨k-1,by omega⟩
  rw [de,decide_eq_false (show ¬ (i:Int)<4000 by omega)]
  cases decide ((i:Int)<(a.length:Int)) <;> exact ⟨_,rfl⟩
 | succ m ih =>
  intro i k h hi hk h0 h1
  obtain ⟨k,rfl⟩:∃ g,k=g+1:=⟨k-1,by omega⟩
  rw [de]
  by_cases hl:i<a.length
  ·have hb:=ha.2 _ (List.getElem_mem hl)
   rw [dlt hl,cond_true,decide_eq_true (show (i:Int)<4000 by omega),cond_true,gx (by omega) (by omega),bs,aS hl,bs,eS (gP (by omega) (by omega)),cF (by omega) (by omega),bs,cF (by omega) (by omega),bs,ad1 (by omega),bs]
   have hi':=jU (h*131+a[i]+7) (m:=1073741823) (by decide)
   exact ih (i+1) k _ (by omega) (by omega) hi'.1 hi'.2
  ·rw [dge hl,cond_false];exact ⟨_,rfl⟩
theorem mg (hN:1073741824≤N) {a:List Int} (ha:eR a):∃ h,fd N a=some (0,h):=by
 have hl:=ha.1
 obtain ⟨v,hv⟩:=ou (N:=N) a ha 4000 0 N (10101+(a.length:Int)) (by omega) (by omega) (by omega) (by omega)
 unfold fd
 rw [cF (by omega) (by omega),bs]
 have hv':de N N a (10101+(a.length:Int)) 0=some v:=hv
 rw [hv',bs]
 exact ⟨_,rfl⟩
theorem eG {a:List Int} (ha:eR a) {p h:Int} (hc:dA a p):∃ x q g,c4 N a p h=some (x,q,g)∧0≤x∧x≤255∧dA a q:=by
 have hl:=ha.1
 have h0:=hc.1;have h1:=hc.2
 unfold c4
 obtain ⟨x1,e1⟩:=lD (IntKind.i64.wrap ((IntKind.i64.wrap (h*6364136223846793005))+1442695040888963407)) (b:=33)
 obtain ⟨x2,e2⟩:=lD (IntKind.i64.wrap ((IntKind.i64.wrap (h*6364136223846793005))+1442695040888963407)) (b:=45)
 have e1':sr (IntKind.i64.wrap ((IntKind.i64.wrap (h*6364136223846793005))+1442695040888963407)) 33=some x1:=e1
 have e2':sr (IntKind.i64.wrap ((IntKind.i64.wrap (h*6364136223846793005))+1442695040888963407)) 45=some x2:=e2
 rw [e1',bs,e2',bs]
 by_cases hp:p<(a.length:Int)
 ·rw [decide_eq_true hp,cond_true,jp h0 hp,bs]
  have hb:=jU (IntKind.i64.wrap ((cU (eb x1 x2) 255)+(IntKind.i64.wrap a[p.toNat]))) (m:=255) (by decide)
  refine ⟨_,_,_,rfl,hb.1,hb.2,?_⟩
  rw [eS (gP (by omega) (by omega))]
  exact ⟨by omega,by omega⟩
 ·rw [decide_eq_false hp,cond_false]
  have hb:=jU (eb x1 x2) (m:=255) (by decide)
  exact ⟨_,_,_,rfl,hb.1,hb.2,hc⟩
theorem ep {a:List Int} (ha:eR a) {p h n:Int} (hc:dA a p):∃ x q g,cG N a p h n=some (x,q,g)∧0≤x∧(0<n→x<n)∧(n≤0→x=0)∧dA a q:=by
 unfold cG
 by_cases h0:n≤0
 ·rw [decide_eq_true h0,cond_true]
  exact ⟨_,_,_,rfl,Int.le_refl _,fun h=>by omega,fun _=>rfl,hc⟩
 ·rw [decide_eq_false h0,cond_false]
  by_cases h1:n≤256
  ·obtain ⟨x,q,g,e,b0,b1,hc'⟩:=eG (N:=N) ha (h:=h) hc
   rw [decide_eq_true h1,cond_true,e,bs,gw (by omega),bs]
   have:=ga b0 (show 0<n by omega)
   exact ⟨_,_,_,rfl,this.1,fun _=>this.2,fun h=>by omega,hc'⟩
  ·rw [decide_eq_false h1,cond_false]
   obtain ⟨x,q,g,e,b0,b1,hc1⟩:=eG (N:=N) ha (h:=h) hc
   rw [e,bs]
   obtain ⟨y,q2,g2,e2,c0,c1,hc2⟩:=eG (N:=N) ha (h:=g) hc1
   dsimp only
   rw [e2,bs]
   obtain ⟨z,q3,g3,e3,d0,d1,hc3⟩:=eG (N:=N) ha (h:=g2) hc2
   dsimp only
   rw [e3,bs]
   obtain ⟨w,q4,g4,e4,f0,f1,hc4⟩:=eG (N:=N) ha (h:=g3) hc3
   dsimp only
   rw [e4,bs]
   dsimp only
   rw [gx (by omega) (by omega),bs,gx (by omega) (by omega),bs,cF (by omega) (by omega),bs,gx (by omega) (by omega),bs,cF (by omega) (by omega),bs,cF (by omega) (by omega),bs,gw (by omega),bs]
   have:=ga (show 0≤x*16777216+y*65536+z*256+w by omega) (show 0<n by omega)
   exact ⟨_,_,_,rfl,this.1,fun _=>this.2,fun h=>by omega,hc4⟩
theorem ft {a l:List Int} (ha:eR a) {p h:Int} (hc:dA a p) (hl:0<l.length):∃ x q g,cX N a p h l=some (x,q,g)∧x∈l∧dA a q:=by
 obtain ⟨x,q,g,e,b0,b1,_,hc'⟩:=ep (N:=N) ha (h:=h) (n:=(l.length:Int)) hc
 have b2:=b1 (by omega)
 unfold cX
 rw [e,bs]
 dsimp only
 rw [jp b0 b2,bs]
 exact ⟨_,_,_,rfl,List.getElem_mem _,hc'⟩
end
end Go.Proofs.Ytdapplkijobjoaa
namespace Go.Proofs.Ytdapplkijobjoaa
open Go.RowKit

section
variable {N:Nat}
theorem oL {a:List Int} (ha:eR a) {n m:Int} (hm:0<m):∀ (d k:Nat) (acc:List Int) (p h:Int),dA a p→acc.length+d=n.toNat→d<k→n≤1048576→(∀ v∈acc,0≤v∧v<m) →
  ∃ q g row,dz N k a p h n m acc=some (q,g,row)∧dA a q∧row.length=n.toNat∧∀ v∈row,0≤v∧v<m:=by
 intro d
 induction d with
 | zero =>
  intro k acc p h hc hd hk _ hv
  obtain ⟨k,rfl⟩:∃ g,k=g+1:=⟨k-1,by omega⟩
  rw [dz,decide_eq_false (show ¬ (acc.length:Int)<n by omega),cond_false]
  exact ⟨_,_,_,rfl,hc,by omega,hv⟩
 | succ d ih =>
  intro k acc p h hc hd hk hn hv
  obtain ⟨k,rfl⟩:∃ g,k=g+1:=⟨k-1,by omega⟩
  obtain ⟨x,q,g,e,b0,b1,_,hc'⟩:=ep (N:=N) ha (h:=h) (n:=m) hc
  rw [dz,decide_eq_true (show (acc.length:Int)<n by omega),cond_true,e,bs]
  dsimp only
  rw [di (by decide) (by simp;omega),bs]
  refine ih k _ q g hc' (by simp;omega) (by omega) hn fun v hv'=>?_
  rcases List.mem_append.1 hv' with h | h
  ·exact hv v h
  ·rw [List.mem_singleton] at h;rw [h];exact ⟨b0,b1 hm⟩
theorem jn (hN:1073741824≤N) {a:List Int} (ha:eR a) {p h n m:Int} (hc:dA a p) (hm:0<m) (hn:n≤1048576) :
  ∃ row q g,eC N a p h n m=some (row,q,g)∧dA a q∧row.length=n.toNat∧∀ v∈row,0≤v∧v<m:=by
 obtain ⟨q,g,row,e,h1,h2,h3⟩:=oL (N:=N) ha (n:=n) hm n.toNat N [] p h hc (by simp) (by omega) hn (by simp)
 unfold eC
 rw [e]
 exact ⟨row,q,g,rfl,h1,h2,h3⟩
theorem oF (hN:1073741824≤N) {a:List Int} (ha:eR a) {n m y:Int} {z:bb} (hm:0<m) (hn:n≤1048576):∀ (d k:Nat) (acc:bb) (p h c:Int),dA a p→c.toNat=d→c≤1048576→d<k→acc.length+d≤1048576→(∀ r∈acc,r.length=n.toNat∧∀ v∈r,0≤v∧v<m) →
  ∃ q g rows c',dy N k a p h n m y z acc c=some (q,g,rows,c')∧dA a q∧rows.length≤acc.length+d∧∀ r∈rows,r.length=n.toNat∧∀ v∈r,0≤v∧v<m:=by
 intro d
 induction d with
 | zero =>
  intro k acc p h c hc hd _ hk hl hv
  obtain ⟨k,rfl⟩:∃ g,k=g+1:=⟨k-1,by omega⟩
  rw [dy,decide_eq_false (show ¬ 0<c by omega),cond_false]
  exact ⟨_,_,_,_,rfl,hc,by omega,hv⟩
 | succ d ih =>
  intro k acc p h c hc hd hcc hk hl hv
  obtain ⟨k,rfl⟩:∃ g,k=g+1:=⟨k-1,by omega⟩
  obtain ⟨row,q,g,e,hc',h2,h3⟩:=jn hN ha (h:=h) (n:=n) hc hm hn
  rw [dy,decide_eq_true (show 0<c by omega),cond_true,e,bs]
  dsimp only
  rw [di (by decide) (by simp;omega),bs,et (by omega) (by omega),bs]
  obtain ⟨q',g',rows,c',e',k1,k2,k3⟩:=ih k (acc++[row]) q g (c-1) hc' (by omega) (by omega) (by omega) (by simp;omega) fun r hr=>by
   rcases List.mem_append.1 hr with h | h
   ·exact hv r h
   ·rw [List.mem_singleton] at h;rw [h];exact ⟨h2,h3⟩
  exact ⟨q',g',rows,c',e',k1,by simp at k2;omega,k3⟩
theorem l8 (hM:1073742848≤N) {a:List Int} (ha:eR a) {p h n m y:Int} (hc:dA a p) (hm:0<m∧m≤100) (hn:0≤n∧n≤5) (hy:0≤y∧y≤100) :
  ∃ rows q g,fc N a p h n y m=some ((n,rows),q,g)∧dA a q∧(rows.length:Int)≤y∧∀ r∈rows,(r.length:Int)=n∧∀ v∈r,0≤v∧v<m:=by
 have hN:1073741824≤N:=by omega
 obtain ⟨x,q,g,e,b0,b1,_,hc'⟩:=ep (N:=N) ha (h:=h) (n:=y+1) hc
 have b1:=b1 (by omega)
 obtain ⟨q',g',rows,c',e',k1,k2,k3⟩:=oF hN ha (n:=n) (m:=m) (y:=0) (z:=[]) hm.1 (by omega) x.toNat N [] q g x hc' rfl (by omega) (by omega) (by simp;omega) (by simp)
 unfold fc
 rw [cF (by omega) (by omega),bs,e,bs]
 dsimp only
 rw [e']
 simp only [List.length_nil,Nat.zero_add] at k2
 have hf:∀ r∈rows,(r.length:Int)=n∧aM r=true:=fun r hr=>by
  have:=k3 r hr
  refine ⟨by omega,?_⟩
  unfold aM
  refine List.all_eq_true.2 fun v hv=>?_
  have:=this.2 v hv
  unfold inR
  simp only [Bool.and_eq_true,decide_eq_true_eq]
  omega
 have hok:dW rows:=⟨by omega,fun r hr=>⟨by have:=(k3 r hr).1;omega,fun _ _=>trivial⟩⟩
 rw [bs]
 unfold lpB
 dsimp only
 rw [ij hM hok,bs,lh hn (by omega) hf]
 have hsl:=fL 20 rows
 refine ⟨cv 20 rows,q',g',rfl,k1,by omega,fun r hr=>?_⟩
 have hr':=fK 20 rows r hr
 exact ⟨(hf r hr').1,(k3 r hr').2⟩
def kE (r:Int × bb):Prop:=(-1≤r.1∧r.1≤6)∧r.2.length≤7∧∀ w∈r.2,w.length≤6∧∀ v∈w,-1≤v∧v≤100
theorem mc (hM:1073742848≤N) {a:List Int} (ha:eR a) {p h:Int} (hc:dA a p):∃ r q g,ff N a p h=some (r,q,g)∧dA a q∧kE r:=by
 have hN:1073741824≤N:=by omega
 obtain ⟨n,q,g,e,b0,b1,_,hc1⟩:=ep (N:=N) ha (h:=h) (n:=4) hc
 have b1:=b1 (by decide)
 obtain ⟨rows,q2,g2,e2,hc2,hl,hr⟩:=l8 hM ha (h:=g) (n:=n) (m:=4) (y:=6) hc1 (by decide) (by omega) (by decide)
 obtain ⟨s,q3,g3,e3,_,_,_,hc3⟩:=ep (N:=N) ha (h:=g2) (n:=14) hc2
 have hsm:∀ w∈rows,w.length≤6∧∀ v∈w,-1≤v∧v≤100:=fun w hw=>by
  have:=hr w hw
  exact ⟨by omega,fun v hv=>by have:=this.2 v hv;omega⟩
 have base:kE (n,rows):=⟨⟨by show -1≤n;omega,by show n≤6;omega⟩,by show rows.length≤7;omega,hsm⟩
 unfold ff
 rw [e,bs]
 dsimp only
 rw [e2,bs]
 dsimp only
 rw [e3,bs]
 dsimp only
 cases h0:(s == 0)
 ·rw [cond_false]
  cases h1:(s == 1)
  ·rw [cond_false]
   cases h2:(s == 2)
   ·exact ⟨_,_,_,rfl,hc3,base⟩
   ·rw [cond_true]
    by_cases hp:0<rows.length
    ·rw [decide_eq_true (show (0:Int)<(rows.length:Int) by omega),cond_true]
     by_cases hn:0<n
     ·have hm0:=hr _ (List.getElem_mem hp)
      have hm1:=hsm _ (List.getElem_mem hp)
      have hp0:0<rows[0].length:=by omega
      obtain ⟨x,q4,g4,e4,hx,hc4⟩:=ft (N:=N) ha (h:=g3) hc3 (l:=[(-1),100,99]) (by decide)
      have i0:ix rows 0=some rows[0]:=aS hp
      have i1:ix rows[0] 0=some rows[0][0]:=aS hp0
      have s1:sto rows[0] 0 x=some (rows[0].set 0 x):=gJ hp0
      have s2:sto rows 0 (rows[0].set 0 x)=some (rows.set 0 (rows[0].set 0 x)):=gJ hp
      have hxb:-1≤x∧x≤100:=by
       simp only [List.mem_cons,List.not_mem_nil,or_false] at hx
       omega
      rw [decide_eq_true hn,cond_true,i0,bs,e4,bs,i1,bs,s1,bs,s2,bs]
      refine ⟨_,_,_,rfl,hc4,⟨base.1,by show (rows.set 0 _).length≤7;rw [List.length_set];omega,fun w hw=>?_⟩⟩
      rcases List.mem_or_eq_of_mem_set hw with h | h
      ·exact hsm w h
      ·subst h
       refine ⟨by rw [List.length_set];exact hm1.1,fun v hv=>?_⟩
       rcases List.mem_or_eq_of_mem_set hv with h | h
       ·exact hm1.2 v h
       ·rw [h];exact hxb
     ·rw [decide_eq_false hn,cond_false]
      exact ⟨_,_,_,rfl,hc3,base⟩
    ·rw [decide_eq_false (show ¬ (0:Int)<(rows.length:Int) by omega),cond_false]
     exact ⟨_,_,_,rfl,hc3,base⟩
  ·rw [cond_true]
   have hi:imx 0 n=n:=by unfold imx;split <;> omega
   obtain ⟨w,q4,g4,e4,hc4,hw1,hw2⟩:=jn hN ha (h:=g3) (n:=n) (m:=4) hc3 (by decide) (by omega)
   rw [hi,e4,bs]
   dsimp only
   rw [di (by decide) (by simp;omega),bs]
   refine ⟨_,_,_,rfl,hc4,base.1,by show (rows++[w]).length≤7;simp;omega,fun v hv=>?_⟩
   rcases List.mem_append.1 hv with h | h
   ·exact hsm v h
   ·rw [List.mem_singleton] at h;subst h
    exact ⟨by omega,fun v hv=>by have:=hw2 v hv;omega⟩
 ·obtain ⟨x,q4,g4,e4,hx,hc4⟩:=ft (N:=N) ha (h:=g3) hc3 (l:=[(-1),6,n+1]) (Nat.zero_lt_succ _)
  rw [cond_true,cF (by omega) (by omega),bs,e4,bs]
  refine ⟨_,_,_,rfl,hc4,⟨?_,base.2⟩⟩
  simp only [List.mem_cons,List.not_mem_nil,or_false] at hx
  show -1≤x∧x≤6
  omega
end
end Go.Proofs.Ytdapplkijobjoaa
namespace Go.Proofs.Ytdapplkijobjoaa
open Go.RowKit

def dP (F:Nat→List (List Int)):Nat→List (List Int)
 | 0=>[]
 | j+1=>dP F j++F j
def bL (nodes:List av):Nat→Int→List Int→List (List Int)
 | 0,_,_=>[]
 | f+1,nd,pre=>if nd=0 then [pre] else
   dP (fun j=>bL nodes f ((nodes.getD nd.toNat ([],[])).2.getD j 0) (pre++[(nodes.getD nd.toNat ([],[])).1.getD j 0])) (nodes.getD nd.toNat ([],[])).1.length
end Go.Proofs.Ytdapplkijobjoaa
namespace Go.Proofs.Ytdapplkijobjoaa
open Go.RowKit

def WFn (ns:List av):Prop:=1≤ns.length∧∀ i,i<ns.length→∀ c∈(ns.getD i ([],[])).2,0≤c∧c<(i:Int)
def cr (a b:List av):Prop:=∃ t,b=a++t
theorem cr.refl (a:List av):cr a a:=⟨[],by simp⟩
theorem cr.trans {a b c:List av} (h:cr a b) (k:cr b c):cr a c:=by
 obtain ⟨t,rfl⟩:=h;obtain ⟨u,rfl⟩:=k;exact ⟨t++u,by simp⟩
theorem cr.get {a b:List av} (h:cr a b) {i:Nat} (hi:i<a.length):b.getD i ([],[])=a.getD i ([],[]):=by
 obtain ⟨t,rfl⟩:=h
 rw [List.getD_eq_getElem?_getD,List.getD_eq_getElem?_getD,List.getElem?_append_left hi]
theorem cr.len {a b:List av} (h:cr a b):a.length≤b.length:=by
 obtain ⟨t,rfl⟩:=h;simp
theorem k7 {ns:List av} {x:av} {j:Nat}:∀ f i,fC ns x f i=some j→i≤j∧j<i+f∧ns.getD j ([],[])=x
 | 0,_,h=>by simp [fC] at h
 | f+1,i,h=>by
  unfold fC at h
  split at h
  ·rename_i e
   obtain rfl:=Option.some.inj h
   exact ⟨Nat.le_refl _,by omega,e⟩
  ·have:=k7 f (i+1) h
   exact ⟨by omega,by omega,this.2.2⟩
theorem j4 {ns:List av} {x:av} (hw:WFn ns) (hx:∀ c∈x.2,0≤c∧c<(ns.length:Int)) :
  WFn (df ns x).2∧cr ns (df ns x).2∧∃ k:Nat,(df ns x).1=(k:Int)∧1≤k∧k<(df ns x).2.length∧(df ns x).2.getD k ([],[])=x∧∀ i,ns.length≤i→i<(df ns x).2.length→i=k:=by
 unfold df
 split
 ·rename_i i e
  have:=k7 _ _ e
  exact ⟨hw,cr.refl _,i,rfl,by omega,by show i<ns.length;omega,this.2.2,fun j h1 h2=>absurd h2 (by show ¬ j<ns.length;omega)⟩
 ·have hg:(ns++[x]).getD ns.length ([],[])=x:=by simp
  refine ⟨⟨by simp,fun i hi c hc=>?_⟩,⟨[x],rfl⟩,ns.length,rfl,hw.1,by simp,hg,fun j h1 h2=>by simp at h2;omega⟩
  simp only [List.length_append,List.length_singleton] at hi
  by_cases h:i<ns.length
  ·rw [cr.get ⟨[x],rfl⟩ h] at hc
   exact hw.2 i h c hc
  ·have e:i=ns.length:=by omega
   subst e
   rw [hg] at hc
   exact hx c hc
def nA (ns:List av) (nd:Int) (pre:List Int) (rs:List (List Int)):Prop :=
 (0≤nd∧nd<(ns.length:Int))∧∀ ns',cr ns ns'→∀ f:Nat,nd<(f:Int)→bL ns' f nd pre=rs
theorem eA {F G:Nat→List (List Int)}:∀ n,(∀ j,j<n→F j=G j)→dP F n=dP G n
 | 0,_=>rfl
 | n+1,h=>by unfold dP;rw [eA n (fun j hj=>h j (by omega)),h n (by omega)]
theorem g9 {ns ns':List av} (hw:WFn ns) (hp:cr ns ns'):∀ (f:Nat) (nd:Int) (pre:List Int),0≤nd→nd<(ns.length:Int)→bL ns' f nd pre=bL ns f nd pre
 | 0,_,_,_,_=>rfl
 | f+1,nd,pre,h0,h1=>by
  obtain ⟨k,rfl⟩:=Int.eq_ofNat_of_zero_le h0
  rw [bL,bL]
  by_cases hz:(k:Int)=0
  ·rw [if_pos hz,if_pos hz]
  ·have hk:k<ns.length:=by omega
   rw [if_neg hz,if_neg hz,Int.toNat_natCast,hp.get hk]
   refine eA _ fun j _=>g9 hw hp f _ _ ?_ ?_ <;>
   ·by_cases hj:j<(ns.getD k ([],[])).2.length
    ·rw [List.getD_eq_getElem?_getD,List.getElem?_eq_getElem hj,Option.getD_some]
     have:=hw.2 k hk _ (List.getElem_mem hj)
     omega
    ·rw [List.getD_eq_getElem?_getD,List.getElem?_eq_none (by omega),Option.getD_none]
     omega
theorem lb {F:Nat→List (List Int)} {g:List Int→List Int}:∀ n,dP (fun j=>(F j).map g) n=(dP F n).map g
 | 0=>rfl
 | n+1=>by unfold dP;rw [lb n,List.map_append]
theorem gZ (ns:List av):∀ (f:Nat) (nd:Int) (p q:List Int),bL ns f nd (p++q)=(bL ns f nd q).map (p++·)
 | 0,_,_,_=>rfl
 | f+1,nd,p,q=>by
  rw [bL,bL]
  by_cases hz:nd=0
  ·rw [if_pos hz,if_pos hz];rfl
  ·rw [if_neg hz,if_neg hz,← lb]
   refine eA _ fun j _=>?_
   rw [List.append_assoc,gZ ns f _ p]
def ql (E:Nat) (ns:List av):Prop:=∀ i:Nat,i<ns.length→∀ f:Nat,i<f→∀ r∈bL ns f (i:Int) [],r.length≤E
def WFd (E:Nat) (ns:List av):Prop:=WFn ns∧ql E ns
theorem jl {rows:List (List Int)} {d:Nat} {v:Int}:∀ f k j,k≤j→j<ea rows d v f k→(rows.getD j []).getD d 0=v
 | 0,k,j,h1,h2=>by unfold ea at h2;omega
 | f+1,k,j,h1,h2=>by
  unfold ea at h2
  split at h2
  ·rename_i e
   by_cases h:j=k
   ·rw [h];exact e
   ·exact jl f (k+1) j (by omega) h2
  ·omega
def kJ (E:Nat) (rec:List av→List (List Int)→Int × List av) (n d:Nat):Prop :=
 ∀ ns rs pre,WFd E ns→rs≠[]→rs.Nodup→(∀ r∈rs,r.length=n∧r.take d=pre)→WFd E (rec ns rs).2∧cr ns (rec ns rs).2∧nA (rec ns rs).2 (rec ns rs).1 pre rs
theorem k6 {α:Type} {l t:List α} {j:Nat} {z:α} (h:j<l.length):(l++t).getD j z=l.getD j z:=by
 rw [List.getD_eq_getElem?_getD,List.getD_eq_getElem?_getD,List.getElem?_append_left h]
theorem gA {E:Nat} {rec:List av→List (List Int)→Int × List av} {n d:Nat} (hr:kJ E rec n (d+1)) (hdn:d<n) {rows:List (List Int)} {pre:List Int} (hnd:rows.Nodup) (hrow:∀ r∈rows,r.length=n∧r.take d=pre) :
  ∀ f ns vals chs i,rows.length-i≤f→i≤rows.length→WFd E ns→vals.length=chs.length→(∀ c∈chs,0≤c∧c<(ns.length:Int)) →
   (∀ ns',cr ns ns'→∀ g:Nat,(∀ c∈chs,c<(g:Int))→dP (fun j=>bL ns' g (chs.getD j 0) (pre++[vals.getD j 0])) vals.length=rows.take i) →
   WFd E (bw rec rows d f ns vals chs i).1∧cr ns (bw rec rows d f ns vals chs i).1∧(bw rec rows d f ns vals chs i).2.1.length=(bw rec rows d f ns vals chs i).2.2.length ∧
   (∀ c∈(bw rec rows d f ns vals chs i).2.2,0≤c∧c<((bw rec rows d f ns vals chs i).1.length:Int)) ∧
   ∀ ns',cr (bw rec rows d f ns vals chs i).1 ns'→∀ g:Nat,(∀ c∈(bw rec rows d f ns vals chs i).2.2,c<(g:Int)) →
    dP (fun j=>bL ns' g ((bw rec rows d f ns vals chs i).2.2.getD j 0) (pre++[(bw rec rows d f ns vals chs i).2.1.getD j 0])) (bw rec rows d f ns vals chs i).2.1.length=rows
 | 0,ns,vals,chs,i,hf,hi,hw,hl,hc,hu=>by
  have e:rows.take i=rows:=List.take_of_length_le (by omega)
  unfold bw
  exact ⟨hw,cr.refl _,hl,hc,fun ns' h g hg=>(hu ns' h g hg).trans e⟩
 | f+1,ns,vals,chs,i,hf,hi,hw,hl,hc,hu=>by
  unfold bw
  split
  ·rename_i hlt
   have hb:=ge (d:=d) hlt
   have hgm:∀ r∈(rows.take (cC rows d i)).drop i,r.length=n∧r.take (d+1)=pre++[(rows.getD i []).getD d 0]:=fun r hm=>by
    obtain ⟨j,hj,rfl⟩:=List.getElem_of_mem hm
    rw [List.getElem_drop,List.getElem_take]
    rw [List.length_drop,List.length_take] at hj
    have h0:=hrow _ (List.getElem_mem (show i+j<rows.length by omega))
    have hv:=jl (rows:=rows) (d:=d) (v:=(rows.getD i []).getD d 0) (rows.length-i) i (i+j) (by omega) (by show i+j<cC rows d i;omega)
    rw [List.getD_eq_getElem?_getD (l:=rows),List.getElem?_eq_getElem (show i+j<rows.length by omega),Option.getD_some] at hv
    refine ⟨h0.1,?_⟩
    have hdl:d<(rows[i+j]'(by omega)).length:=by omega
    rw [List.take_succ_eq_append_getElem hdl,h0.2]
    rw [List.getD_eq_getElem?_getD (l:=rows[i+j]'(by omega)),List.getElem?_eq_getElem hdl,Option.getD_some] at hv
    rw [hv]
   have hne:(rows.take (cC rows d i)).drop i≠[]:=by
    intro h
    have:=congrArg List.length h
    simp only [List.length_drop,List.length_take,List.length_nil] at this
    omega
   have hnd':((rows.take (cC rows d i)).drop i).Nodup:=(hnd.sublist (List.take_sublist _ _)).sublist (List.drop_sublist _ _)
   obtain ⟨k1,k2,k3,k4⟩:=hr ns _ _ hw hne hnd' hgm
   obtain ⟨m1,m2,m3,m4,m5⟩:=gA hr hdn hnd hrow f (rec ns ((rows.take (cC rows d i)).drop i)).2 (vals++[(rows.getD i []).getD d 0]) (chs++[(rec ns ((rows.take (cC rows d i)).drop i)).1]) (cC rows d i) (by omega) hb.2 k1 (by simp [hl]) (fun c hc'=>by
     rcases List.mem_append.1 hc' with h | h
     ·have:=hc c h;have:=k2.len;omega
     ·rw [List.mem_singleton] at h;rw [h];exact k3) (fun ns' hp g hg=>by
     have h1:=hu ns' (k2.trans hp) g (fun c h=>hg c (List.mem_append_left _ h))
     rw [List.length_append,List.length_singleton]
     unfold dP
     rw [eA vals.length (G:=fun j=>bL ns' g (chs.getD j 0) (pre++[vals.getD j 0])) (fun j hj=>by
      rw [k6 (by omega),k6 hj]),h1]
     have e1:(chs++[(rec ns ((rows.take (cC rows d i)).drop i)).1]).getD vals.length 0=(rec ns ((rows.take (cC rows d i)).drop i)).1:=by rw [hl];simp
     have e2:(vals++[(rows.getD i []).getD d 0]).getD vals.length 0=(rows.getD i []).getD d 0:=by simp
     rw [e1,e2,k4 ns' hp g (hg _ (by simp))]
     have e3:rows.take i=(rows.take (cC rows d i)).take i:=by rw [List.take_take,Nat.min_eq_left (by omega)]
     rw [e3,List.take_append_drop])
   exact ⟨m1,k2.trans m2,m3,m4,m5⟩
  ·have e:rows.take i=rows:=List.take_of_length_le (by omega)
   exact ⟨hw,cr.refl _,hl,hc,fun ns' h g hg=>(hu ns' h g hg).trans e⟩
theorem dB {E n:Nat}:∀ (e d:Nat),d+e=n→e≤E→kJ E (fun ns rs=>bh e ns rs d) n d
 | 0,d,hd,_=>fun ns rs pre hw hne hnd hrow=>by
  have hall:∀ r∈rs,r=pre:=fun r hr=>by
   have:=hrow r hr
   rw [← this.2,List.take_of_length_le (by omega)]
  have he:rs=[pre]:=by
   cases rs with
   | nil=>exact absurd rfl hne
   | cons a t =>
    obtain rfl:=hall a (by simp)
    cases t with
    | nil=>rfl
    | cons b t =>
     have:=hall b (by simp)
     subst this
     simp at hnd
  refine ⟨hw,cr.refl _,⟨by show (0:Int)≤0;omega,by show (0:Int)<ns.length;have:=hw.1.1;omega⟩,fun ns' _ f hf=>?_⟩
  have hf:(0:Int)<(f:Int):=hf
  obtain ⟨g,rfl⟩:∃ g,f=g+1:=⟨f-1,by omega⟩
  show bL ns' (g+1) 0 pre=rs
  rw [he,bL,if_pos rfl]
 | e+1,d,hd,hE=>fun ns rs pre hw hne hnd hrow=>by
  obtain ⟨m1,m2,m3,m4,m5⟩:=gA (dB e (d+1) (by omega) (by omega)) (by omega) hnd hrow rs.length ns [] [] 0 (by omega) (by omega) hw rfl (by simp) (fun ns' _ g _=>by simp [dP])
  show WFd E (bh (e+1) ns rs d).2∧cr ns (bh (e+1) ns rs d).2∧nA (bh (e+1) ns rs d).2 (bh (e+1) ns rs d).1 pre rs
  unfold bh
  generalize hL:bw (fun ns rs=>bh e ns rs (d+1)) rs d rs.length ns [] [] 0=L at m1 m2 m3 m4 m5 ⊢
  obtain ⟨p1,p2,k,p3,p4,p5,p6,p7⟩:=j4 (x:=L.2) m1.1 m4
  have hun:nA (df L.1 L.2).2 (df L.1 L.2).1 pre rs:=by
   refine ⟨by omega,fun ns' hp f hf=>?_⟩
   rw [p3] at hf ⊢
   obtain ⟨g,rfl⟩:∃ g,f=g+1:=⟨f-1,by omega⟩
   have hk:ns'.getD (k:Int).toNat ([],[])=L.2:=by rw [Int.toNat_natCast,hp.get p5,p6]
   have hch:∀ c∈L.2.2,c<(g:Int):=fun c hc=>by
    have:=p1.2 k p5 c (by rw [p6];exact hc)
    omega
   rw [bL,if_neg (by omega),hk]
   exact m5 ns' (p2.trans hp) g hch
  refine ⟨⟨p1,fun i hi f hf r hr=>?_⟩,m2.trans p2,hun⟩
  by_cases h:i<L.1.length
  ·rw [g9 m1.1 p2 f _ _ (by omega) (by omega)] at hr
   exact m1.2 i h f hf r hr
  ·obtain rfl:=p7 i (by omega) hi
   have h1:=hun.2 _ (cr.refl _) f (by omega)
   rw [p3] at h1
   have h2:=gZ (df L.1 L.2).2 f (i:Int) pre []
   rw [List.append_nil,h1] at h2
   have h3:pre++r∈rs:=by rw [h2];exact List.mem_map.2 ⟨r,hr,rfl⟩
   have h4:=hrow _ h3
   have h5:=congrArg List.length h4.2
   rw [List.length_take,h4.1] at h5
   have h6:=h4.1
   rw [List.length_append] at h6
   omega
end Go.Proofs.Ytdapplkijobjoaa
namespace Go.Proofs.Ytdapplkijobjoaa
open Go.RowKit

theorem gR (E:Nat):WFd E zN:=by
 refine ⟨⟨by decide,fun i hi c hc=>?_⟩,fun i hi f hf r hr=>?_⟩
 ·obtain rfl:i=0:=by simp [zN] at hi;exact hi
  simp [zN] at hc
 ·obtain rfl:i=0:=by simp [zN] at hi;exact hi
  obtain ⟨g,rfl⟩:∃ g,f=g+1:=⟨f-1,by omega⟩
  have e:bL zN (g+1) ((0:Nat):Int) []=[[]]:=by rw [bL];exact if_pos rfl
  rw [e,List.mem_singleton] at hr
  subst hr;simp
theorem jA {n:Nat} {rows:List (List Int)} (hnd:rows.Nodup) (hrow:∀ r∈rows,r.length=n) (hne:rows≠[]):(bh n zN rows 0).1=(((bh n zN rows 0).2.length:Int)-1):=by
  have hr0:∀ r∈rows,r.length=n∧r.take 0=[]:=fun r hr=>⟨hrow r hr,rfl⟩
  obtain ⟨w1,_,u1,u2⟩:=dB (E:=n) n 0 (by omega) (Nat.le_refl _) zN rows [] (gR _) hne hnd hr0
  cases n with
  | zero=>rfl
  | succ e =>
   obtain ⟨m1,_,m3,m4,_⟩:=gA (dB (E:=e) e 1 (by omega) (Nat.le_refl _)) (by omega) hnd hr0 rows.length zN [] [] 0 (by omega) (by omega) (gR _) rfl (by simp) (fun ns' _ g _=>by simp [dP])
   dsimp only at u1 u2
   unfold bh at u1 u2 ⊢
   generalize hL:bw (fun ns rs=>bh e ns rs (0+1)) rows 0 rows.length zN [] [] 0=L at m1 m3 m4 u1 u2 ⊢
   obtain ⟨_,p2,k,p3,p4,p5,p6,_⟩:=j4 (x:=L.2) m1.1 m4
   have hl:=jc L.1 L.2
   have hk:L.1.length≤k:=by
    apply Classical.byContradiction
    intro hlt
    have hlt:k<L.1.length:=by omega
    have h1:=u2 _ (cr.refl _) (k+1) (by rw [p3];omega)
    rw [p3,g9 m1.1 p2 _ _ _ (by omega) (by omega)] at h1
    obtain ⟨r,hr⟩:=List.exists_mem_of_ne_nil rows hne
    have h2:=m1.2 k hlt (k+1) (by omega) r (by rw [h1];exact hr)
    have:=hrow r hr
    omega
   rw [p3];omega
theorem jQ {n:Nat} {rows:List (List Int)} (hnd:rows.Nodup) (hrow:∀ r∈rows,r.length=n) :
  WFn (a7 n rows)∧∀ f:Nat,(a7 n rows).length≤f→bL (a7 n rows) f (((a7 n rows).length:Int)-1) []=rows:=by
 by_cases hne:rows=[]
 ·subst hne
  unfold a7
  rw [if_pos rfl]
  refine ⟨⟨by decide,fun i hi c hc=>?_⟩,fun f hf=>?_⟩
  ·have:i=0∨i=1:=by simp at hi;omega
   rcases this with rfl | rfl <;> simp at hc
  ·simp only [List.length_cons,List.length_nil] at hf
   obtain ⟨g,rfl⟩:∃ g,f=g+1:=⟨f-1,by omega⟩
   rw [bL,if_neg (by simp)]
   simp [dP]
 ·have hF:a7 n rows=(bh n zN rows 0).2:=by unfold a7;rw [if_neg hne];rfl
  rw [hF]
  have hr0:∀ r∈rows,r.length=n∧r.take 0=[]:=fun r hr=>⟨hrow r hr,rfl⟩
  obtain ⟨w1,_,u1,u2⟩:=dB (E:=n) n 0 (by omega) (Nat.le_refl _) zN rows [] (gR _) hne hnd hr0
  refine ⟨w1.1,fun f hf=>?_⟩
  have h:=jA hnd hrow hne
  rw [← h]
  exact u2 _ (cr.refl _) f (by have:=u1.2;show (bh n zN rows 0).1<(f:Int);omega)
end Go.Proofs.Ytdapplkijobjoaa
namespace Go.Proofs.Ytdapplkijobjoaa
open Go.RowKit

def qb (l:List Int):Int:=l.getD 0 0
def hdI (ls:bb) (j:Int):Int:=qb (ls.getD j.toNat [])
def leI (a b:Int):Prop:=a≤b
structure OrdOk (ls:bb) (O:List Int) (i:Nat):Prop where
 len:O.length=i
 nd:O.Nodup
 bd:∀ j∈O,0≤j∧j<i
 so:(O.map (hdI ls)).Pairwise leI
theorem kZ:∀ {xs:List Int},gE xs→asc xs=true
 | [],_=>rfl
 | [_],_=>rfl
 | x :: y :: t,h=>by
  obtain ⟨h1,h2⟩:=List.pairwise_cons.1 h
  unfold asc
  rw [decide_eq_true (h1 y List.mem_cons_self),kZ h2];rfl
end Go.Proofs.Ytdapplkijobjoaa
namespace Go.Proofs.Ytdapplkijobjoaa
open Go.RowKit

def fQ (ns:List av):Nat→Int→Int
 | 0,_=>0
 | f+1,nd=>if nd=0 then 0 else fQ ns f ((ns.getD nd.toNat ([],[])).2.getD 0 0)+1
def dep (ns:List av) (nd:Int):Int:=fQ ns ns.length nd
theorem fI {ns:List av} (hw:WFn ns) {k:Nat} (h1:1≤k) (hk:k<ns.length):0≤(ns.getD k ([],[])).2.getD 0 0∧(ns.getD k ([],[])).2.getD 0 0<(k:Int):=by
 by_cases hj:0<(ns.getD k ([],[])).2.length
 ·rw [List.getD_eq_getElem?_getD,List.getElem?_eq_getElem hj,Option.getD_some]
  exact hw.2 k hk _ (List.getElem_mem hj)
 ·rw [List.getD_eq_getElem?_getD,List.getElem?_eq_none (by omega),Option.getD_none]
  omega
theorem lm {ns ns':List av} (hw:WFn ns) (hp:cr ns ns'):∀ (f:Nat) (nd:Int),0≤nd→nd<(ns.length:Int)→fQ ns' f nd=fQ ns f nd
 | 0,_,_,_=>rfl
 | f+1,nd,h0,h1=>by
  obtain ⟨k,rfl⟩:=Int.eq_ofNat_of_zero_le h0
  rw [fQ,fQ]
  by_cases hz:(k:Int)=0
  ·rw [if_pos hz,if_pos hz]
  ·have hk:k<ns.length:=by omega
   have:=fI hw (by omega) hk
   rw [if_neg hz,if_neg hz,Int.toNat_natCast,hp.get hk,lm hw hp f _ this.1 (by omega)]
theorem iL {ns:List av} (hw:WFn ns):∀ (f f':Nat) (nd:Int),nd<(f:Int)→nd<(f':Int)→0≤nd→nd<(ns.length:Int)→fQ ns f nd=fQ ns f' nd
 | 0,_,_,h,_,h0,_=>by omega
 | f+1,0,_,_,h,h0,_=>by omega
 | f+1,f'+1,nd,h,h',h0,h1=>by
  obtain ⟨k,rfl⟩:=Int.eq_ofNat_of_zero_le h0
  rw [fQ,fQ]
  by_cases hz:(k:Int)=0
  ·rw [if_pos hz,if_pos hz]
  ·have hk:k<ns.length:=by omega
   have:=fI hw (by omega) hk
   rw [if_neg hz,if_neg hz,Int.toNat_natCast,iL hw f f' _ (by omega) (by omega) this.1 (by omega)]
theorem iS {ns ns':List av} (hw:WFn ns) (hp:cr ns ns') {nd:Int} (h0:0≤nd) (h1:nd<(ns.length:Int)):dep ns' nd=dep ns nd:=by
 unfold dep
 have:=hp.len
 rw [lm hw hp _ _ h0 h1,iL hw ns'.length ns.length nd (by omega) h1 h0 h1]
theorem eV {ns:List av} (hw:WFn ns):dep ns 0=0:=by
 unfold dep
 obtain ⟨g,hg⟩:∃ g,ns.length=g+1:=⟨ns.length-1,by have:=hw.1;omega⟩
 rw [hg,fQ,if_pos rfl]
theorem eU {ns:List av} (hw:WFn ns) {k:Nat} (h1:1≤k) (hk:k<ns.length):dep ns (k:Int)=dep ns ((ns.getD k ([],[])).2.getD 0 0)+1:=by
 have:=fI hw h1 hk
 unfold dep
 obtain ⟨g,hg⟩:∃ g,ns.length=g+1:=⟨ns.length-1,by omega⟩
 rw [hg,fQ,if_neg (by omega),Int.toNat_natCast,iL hw g (g+1) _ (by omega) (by omega) this.1 (by omega)]
structure NodeOk (ns:List av) (i:Nat):Prop where
 lens:(ns.getD i ([],[])).1.length=(ns.getD i ([],[])).2.length
 vals:aM (ns.getD i ([],[])).1=true
 asc:gE (ns.getD i ([],[])).1
 ne:(ns.getD i ([],[])).1≠[]
 chs:∀ c∈(ns.getD i ([],[])).2,dep ns c=dep ns ((ns.getD i ([],[])).2.getD 0 0)
 new:∀ j,1≤j→j<i→ns.getD j ([],[])≠ns.getD i ([],[])
def d4 (ns:List av):Prop:=∀ i,1≤i→i<ns.length→NodeOk ns i
theorem jE {ns:List av} {x:av}:∀ f i,fC ns x f i=none→∀ j,i≤j→j<i+f→ns.getD j ([],[])≠x
 | 0,_,_,j,h1,h2=>by omega
 | f+1,i,h,j,h1,h2=>by
  unfold fC at h
  split at h
  ·cases h
  ·rename_i e
   by_cases hj:j=i
   ·rw [hj];exact e
   ·exact jE f (i+1) h j (by omega) (by omega)
theorem nx {ns:List av} {x:av} (hw:WFn ns) (hx:∀ c∈x.2,0≤c∧c<(ns.length:Int)) (ho:d4 ns) (h1:x.1.length=x.2.length) (h2:aM x.1=true) (h3:gE x.1) (h4:x.1≠[])
  {e:Int} (h5:∀ c∈x.2,dep ns c=e):d4 (df ns x).2∧dep (df ns x).2 (df ns x).1=e+1:=by
 obtain ⟨w,hp,k,p3,p4,p5,p6,_⟩:=j4 hw hx
 have hne:0<x.2.length:=by
  rw [← h1];exact List.length_pos_iff.2 h4
 have hx0:x.2.getD 0 0=x.2[0]:=by rw [List.getD_eq_getElem?_getD,List.getElem?_eq_getElem hne,Option.getD_some]
 have hd:∀ c∈x.2,dep (df ns x).2 c=e:=fun c hc=>by
  have:=hx c hc
  rw [iS hw hp this.1 this.2];exact h5 c hc
 refine ⟨?_,by rw [p3,eU w p4 p5,p6,hx0,hd _ (List.getElem_mem hne)]⟩
 revert w hp p3 p4 p5 p6 hd
 unfold df
 split
 ·exact fun _ _ _ _ _ _ _=>ho
 ·rename_i hf
  intro w hp p3 p4 p5 p6 hd i hi1 hi2
  have hi2:i<(ns++[x]).length:=hi2
  show NodeOk (ns++[x]) i
  by_cases hlt:i<ns.length
  ·have q:=ho i hi1 hlt
   have g:=cr.get (a:=ns) (b:=ns++[x]) ⟨[x],rfl⟩ hlt
   have c0:=fI hw hi1 hlt
   refine ⟨by rw [g];exact q.lens,by rw [g];exact q.vals,by rw [g];exact q.asc,by rw [g];exact q.ne,fun c hc=>?_,fun j j1 j2=>?_⟩
   ·rw [g] at hc ⊢
    have:=hw.2 i hlt c hc
    rw [iS hw ⟨[x],rfl⟩ this.1 (by omega),iS hw ⟨[x],rfl⟩ c0.1 (by omega)]
    exact q.chs c hc
   ·rw [g,cr.get (a:=ns) (b:=ns++[x]) ⟨[x],rfl⟩ (show j<ns.length by omega)]
    exact q.new j j1 j2
  ·have e1:i=ns.length:=by simp at hi2;omega
   subst e1
   have g:(ns++[x]).getD ns.length ([],[])=x:=by simp
   refine ⟨by rw [g];exact h1,by rw [g];exact h2,by rw [g];exact h3,by rw [g];exact h4,fun c hc=>?_,fun j j1 j2=>?_⟩
   ·rw [g] at hc ⊢
    rw [hd c hc,hx0,hd _ (List.getElem_mem hne)]
   ·rw [g,cr.get (a:=ns) (b:=ns++[x]) ⟨[x],rfl⟩ j2]
    exact jE _ _ hf j j1 (by omega)
end Go.Proofs.Ytdapplkijobjoaa
namespace Go.Proofs.Ytdapplkijobjoaa
open Go.RowKit

theorem ko {rows:List (List Int)} {d:Nat} {v:Int}:∀ f k,ea rows d v f k<k+f→(rows.getD (ea rows d v f k) []).getD d 0≠v
 | 0,k,h=>by unfold ea at h;omega
 | f+1,k,h=>by
  unfold ea at h ⊢
  split
  ·rename_i e
   rw [if_pos e] at h
   exact ko f (k+1) (by omega)
  ·rename_i e
   exact e
theorem nt {rows:List (List Int)} {j:Nat} (h:j<rows.length):rows.getD j []=rows[j]:=by
 rw [List.getD_eq_getElem?_getD,List.getElem?_eq_getElem h,Option.getD_some]
theorem mU {rows:List (List Int)} {d i:Nat} (hlt:i<rows.length):(rows.take (cC rows d i)).drop i≠[]:=by
 have hb:=ge (d:=d) hlt
 intro h
 have:=congrArg List.length h
 simp only [List.length_drop,List.length_take,List.length_nil] at this
 omega
theorem j6 {rows:List (List Int)} {d i:Nat}:((rows.take (cC rows d i)).drop i).Sublist rows:=(List.drop_sublist _ _).trans (List.take_sublist _ _)
theorem lN {rows:List (List Int)} {n d i:Nat} {pre:List Int} (hdn:d<n) (hlt:i<rows.length) (hrow:∀ r∈rows,r.length=n∧r.take d=pre):∀ r∈(rows.take (cC rows d i)).drop i,r.length=n∧r.take (d+1)=pre++[(rows.getD i []).getD d 0]:=fun r hm=>by
 have hb:=ge (d:=d) hlt
 obtain ⟨j,hj,rfl⟩:=List.getElem_of_mem hm
 rw [List.getElem_drop,List.getElem_take]
 rw [List.length_drop,List.length_take] at hj
 have h0:=hrow _ (List.getElem_mem (show i+j<rows.length by omega))
 have hv:=jl (rows:=rows) (d:=d) (v:=(rows.getD i []).getD d 0) (rows.length-i) i (i+j) (by omega) (by show i+j<cC rows d i;omega)
 rw [List.getD_eq_getElem?_getD (l:=rows),List.getElem?_eq_getElem (show i+j<rows.length by omega),Option.getD_some] at hv
 refine ⟨h0.1,?_⟩
 have hdl:d<(rows[i+j]'(by omega)).length:=by omega
 rw [List.take_succ_eq_append_getElem hdl,h0.2]
 rw [List.getD_eq_getElem?_getD (l:=rows[i+j]'(by omega)),List.getElem?_eq_getElem hdl,Option.getD_some] at hv
 rw [hv]
theorem lI {rows:List (List Int)} {n d:Nat} {pre:List Int} (hdn:d<n) (ha:d7 rows) (hrow:∀ r∈rows,r.length=n∧r.take d=pre) {i j:Nat} (h:i≤j) (hj:j<rows.length):(rows.getD i []).getD d 0≤(rows.getD j []).getD d 0:=by
 by_cases e:i=j
 ·rw [e];exact Int.le_refl _
 ·rw [nt hj,nt (show i<rows.length by omega)]
  have h1:=hrow _ (List.getElem_mem (show i<rows.length by omega))
  have h2:=hrow _ (List.getElem_mem hj)
  exact lO d _ _ (h1.2.trans h2.2.symm) (by omega) (by omega) (List.pairwise_iff_getElem.1 ha i j (by omega) hj (by omega))
def m0 (E:Nat) (rec:List av→List (List Int)→Int × List av) (n d:Nat):Prop :=
 ∀ ns rs pre,WFd E ns→d4 ns→rs≠[]→d7 rs→(∀ r∈rs,r.length=n∧r.take d=pre)→(∀ r∈rs,aM r=true)→d4 (rec ns rs).2∧dep (rec ns rs).2 (rec ns rs).1=((n-d:Nat):Int)
theorem pU {r:List Int} {d:Nat} (h:aM r=true) (hd:d<r.length):inR (r.getD d 0) 0 99=true:=by
 rw [List.getD_eq_getElem?_getD,List.getElem?_eq_getElem hd,Option.getD_some]
 exact List.all_eq_true.1 h _ (List.getElem_mem hd)
theorem kw {E:Nat} {rec:List av→List (List Int)→Int × List av} {n d:Nat} (hr:kJ E rec n (d+1)) (hq:m0 E rec n (d+1)) (hdn:d<n) {rows:List (List Int)} {pre:List Int} (ha:d7 rows) (hnd:rows.Nodup)
  (hrow:∀ r∈rows,r.length=n∧r.take d=pre) (hvv:∀ r∈rows,aM r=true) :
  ∀ f ns vals chs i,WFd E ns→d4 ns→(∀ c∈chs,(0≤c∧c<(ns.length:Int))∧dep ns c=((n-d-1:Nat):Int))→gE vals→aM vals=true→(∀ v∈vals,∀ j,i≤j→j<rows.length→v<(rows.getD j []).getD d 0) →
   d4 (bw rec rows d f ns vals chs i).1∧(∀ c∈(bw rec rows d f ns vals chs i).2.2,dep (bw rec rows d f ns vals chs i).1 c=((n-d-1:Nat):Int)) ∧
   gE (bw rec rows d f ns vals chs i).2.1∧aM (bw rec rows d f ns vals chs i).2.1=true
 | 0,ns,vals,chs,i,hw,ho,hc,hv,hvl,hb=>by
  unfold bw
  exact ⟨ho,fun c h=>(hc c h).2,hv,hvl⟩
 | f+1,ns,vals,chs,i,hw,ho,hc,hv,hvl,hb=>by
  unfold bw
  split
  ·rename_i hlt
   have hgb:=ge (d:=d) hlt
   obtain ⟨k1,k2,k3,_⟩:=hr ns _ _ hw (mU (d:=d) hlt) (hnd.sublist j6) (lN hdn hlt hrow)
   obtain ⟨q1,q2⟩:=hq ns _ _ hw ho (mU (d:=d) hlt) (List.Pairwise.sublist j6 ha) (lN hdn hlt hrow) (fun r hr'=>hvv r (j6.subset hr'))
   refine kw hr hq hdn ha hnd hrow hvv f _ _ _ _ k1 q1 (fun c hc'=>?_) ?_ ?_ (fun v hv' j h1 h2=>?_)
   ·rcases List.mem_append.1 hc' with h | h
    ·have h3:=hc c h
     refine ⟨⟨h3.1.1,by have:=k2.len;omega⟩,?_⟩
     rw [iS hw.1 k2 h3.1.1 h3.1.2];exact h3.2
    ·rw [List.mem_singleton] at h;subst h
     exact ⟨k3,q2⟩
   ·refine List.pairwise_append.2 ⟨hv,List.pairwise_singleton _ _,fun a h1 b h2=>?_⟩
    rw [List.mem_singleton] at h2;subst h2
    exact hb a h1 i (Nat.le_refl _) hlt
   ·unfold aM
    rw [List.all_append,Bool.and_eq_true]
    refine ⟨hvl,?_⟩
    rw [List.all_cons,List.all_nil,Bool.and_true,nt hlt]
    exact pU (hvv _ (List.getElem_mem hlt)) (by have:=hrow _ (List.getElem_mem hlt);omega)
   ·rcases List.mem_append.1 hv' with h | h
    ·exact hb v h j (by omega) h2
    ·rw [List.mem_singleton] at h;subst h
     have hs:=ko (rows:=rows) (d:=d) (v:=(rows.getD i []).getD d 0) (rows.length-i) i (by show cC rows d i<_;omega)
     have hs:(rows.getD (cC rows d i) []).getD d 0≠(rows.getD i []).getD d 0:=hs
     have l1:=lI hdn ha hrow (show i≤cC rows d i by omega) (by omega)
     have l2:=lI hdn ha hrow h1 h2
     omega
  ·exact ⟨ho,fun c h=>(hc c h).2,hv,hvl⟩
theorem jC {E n:Nat}:∀ (e d:Nat),d+e=n→e≤E→m0 E (fun ns rs=>bh e ns rs d) n d
 | 0,d,hd,_=>fun ns rs pre hw ho hne ha hrow hvv=>by
  refine ⟨ho,?_⟩
  show dep ns 0=_
  rw [eV hw.1,show n-d=0 by omega];rfl
 | e+1,d,hd,hE=>fun ns rs pre hw ho hne ha hrow hvv=>by
  have hnd:=eB ha
  obtain ⟨m1,m2,m3,m4,m5⟩:=gA (dB (E:=E) e (d+1) (by omega) (by omega)) (by omega) hnd hrow rs.length ns [] [] 0 (by omega) (by omega) hw rfl (by simp) (fun ns' _ g _=>by simp [dP])
  obtain ⟨v1,v2,v3,v4⟩:=kw (dB (E:=E) e (d+1) (by omega) (by omega)) (jC e (d+1) (by omega) (by omega)) (by omega) ha hnd hrow hvv rs.length ns [] [] 0 hw ho (by simp) List.Pairwise.nil rfl (by simp)
  show d4 (bh (e+1) ns rs d).2∧dep (bh (e+1) ns rs d).2 (bh (e+1) ns rs d).1=_
  unfold bh
  generalize hL:bw (fun ns rs=>bh e ns rs (d+1)) rs d rs.length ns [] [] 0=L at m1 m2 m3 m4 m5 v1 v2 v3 v4 ⊢
  have h4:L.2.1≠[]:=by
   intro h
   obtain ⟨g,hg⟩:∃ g:Nat,∀ c∈L.2.2,c<(g:Int):=⟨L.1.length,fun c hc=>(m4 c hc).2⟩
   have:=m5 L.1 (cr.refl _) g hg
   rw [h] at this
   exact hne this.symm
  obtain ⟨p1,p2⟩:=nx (x:=L.2) m1.1 m4 v1 m3 v4 v3 h4 v2
  exact ⟨p1,by rw [p2];omega⟩
end Go.Proofs.Ytdapplkijobjoaa
namespace Go.Proofs.Ytdapplkijobjoaa
open Go.RowKit

def dH (nodes:List av) (i:Nat):List Int:=(List.range i).map fun k:Nat=>dep nodes (k:Int)
theorem gj {nodes:List av} {i:Nat} {c:Int} (h0:0≤c) (h1:c<(i:Int)):(dH nodes i).getD c.toNat 0=dep nodes c:=by
 obtain ⟨k,rfl⟩:=Int.eq_ofNat_of_zero_le h0
 have hk:k<i:=by omega
 unfold dH
 rw [Int.toNat_natCast,List.getD_eq_getElem?_getD,List.getElem?_map,List.getElem?_range hk];rfl
theorem kn (nodes:List av) (i:Nat):dH nodes (i+1)=dH nodes i++[dep nodes (i:Int)]:=by
 unfold dH;rw [List.range_succ,List.map_append];rfl
theorem nQ {nodes:List av} {olen:Nat} (hw:WFn nodes) {i:Nat} (h1:1≤i) (hi:i<nodes.length) (ho:NodeOk nodes i):f7 nodes olen (dH nodes i) i (nodes.getD i ([],[]))=some (dep nodes (i:Int)):=by
 have c0:=fI hw h1 hi
 have hne:0<(nodes.getD i ([],[])).1.length:=List.length_pos_iff.2 ho.ne
 unfold f7
 rw [decide_eq_true ho.lens,ho.vals,kZ ho.asc,decide_eq_false (show ¬ (nodes.getD i ([],[])).1.length=0 by omega)]
 have ha:(List.range' 0 (nodes.getD i ([],[])).2.length).all (fR (dH nodes i) i (nodes.getD i ([],[])).2)=true:=by
  refine List.all_eq_true.2 fun j hj=>?_
  have hj:j<(nodes.getD i ([],[])).2.length:=by simpa using hj
  have hg:(nodes.getD i ([],[])).2.getD j 0=(nodes.getD i ([],[])).2[j]:=by rw [List.getD_eq_getElem?_getD,List.getElem?_eq_getElem hj,Option.getD_some]
  have hc:=hw.2 i hi _ (List.getElem_mem hj)
  unfold fR
  rw [hg,cS.2 (by omega),gj hc.1 hc.2,gj c0.1 c0.2,decide_eq_true (ho.chs _ (List.getElem_mem hj))];rfl
 have hn:gb nodes i (nodes.getD i ([],[]))=true:=by
  unfold gb
  refine List.all_eq_true.2 fun m hm=>?_
  obtain ⟨j,hj,rfl⟩:=List.getElem_of_mem hm
  rw [List.getElem_drop,List.getElem_take]
  rw [List.length_drop,List.length_take] at hj
  have:=ho.new (1+j) (by omega) (by omega)
  rw [iQ (show 1+j<nodes.length by omega)] at this
  rw [decide_eq_false this];rfl
 rw [ha,hn]
 show some _=some _
 rw [gj c0.1 c0.2,eU hw h1 hi]
theorem ju {nodes:List av} {olen:Nat} (hw:WFn nodes) (ho:d4 nodes):∀ m i,i+m=nodes.length→1≤i→dM (dj nodes olen) m i (dH nodes i)=.inr (dH nodes nodes.length)
 | 0,i,h,_=>by rw [dM,show i=nodes.length by omega]
 | m+1,i,h,h1=>by
  have e:dj nodes olen i (dH nodes i)=.inr (dH nodes (i+1)):=by
   unfold dj fW
   rw [nQ hw h1 (by omega) (ho i h1 (by omega)),kn]
  rw [dM,e]
  exact ju hw ho m (i+1) (by omega) (by omega)
theorem mA {order:List Int} {nodes:List av} (hp:eY order=true) (hl:nodes.length≤4000) (hz:nodes.getD 0 ([],[])=([],[])) (hw:WFn nodes) (ho:d4 nodes) (hd:dep nodes ((nodes.length:Int)-1)=(order.length:Int)):eH order nodes=true:=by
 have h1:=hw.1
 unfold eH
 have e:[0]=dH nodes 1:=by
  show [0]=[dep nodes ((0:Nat):Int)]
  rw [show ((0:Nat):Int)=0 from rfl,eV hw]
 rw [hp,hz,cS.2 (show (1:Int)≤nodes.length∧(nodes.length:Int)≤4000 by omega),e,ju hw ho _ 1 (by omega) (Nat.le_refl _)]
 have hg:=gj (nodes:=nodes) (i:=nodes.length) (c:=(nodes.length:Int)-1) (by omega) (by omega)
 rw [show ((nodes.length:Int)-1).toNat=nodes.length-1 by omega,hd] at hg
 dsimp only
 rw [decide_eq_true hg];rfl
end Go.Proofs.Ytdapplkijobjoaa
namespace Go.Proofs.Ytdapplkijobjoaa
open Go.RowKit

theorem oZ:d4 zN:=fun i h1 h2=>by simp [zN] at h2;omega
theorem i9 {n:Nat} {rows:List (List Int)} (hne:rows≠[]) (ha:d7 rows) (hrow:∀ r∈rows,r.length=n) (hvv:∀ r∈rows,aM r=true) :
  d4 (a7 n rows)∧dep (a7 n rows) (((a7 n rows).length:Int)-1)=(n:Int)∧(a7 n rows).getD 0 ([],[])=([],[]):=by
 have hr0:∀ r∈rows,r.length=n∧r.take 0=[]:=fun r hr=>⟨hrow r hr,rfl⟩
 have hF:a7 n rows=(bh n zN rows 0).2:=by unfold a7;rw [if_neg hne];rfl
 obtain ⟨v1,v2⟩:=jC (E:=n) n 0 (by omega) (Nat.le_refl _) zN rows [] (gR _) oZ hne ha hr0 hvv
 obtain ⟨w1,w2,_⟩:=dB (E:=n) n 0 (by omega) (Nat.le_refl _) zN rows [] (gR _) hne (eB ha) hr0
 have hroot:=jA (eB ha) hrow hne
 rw [hF]
 refine ⟨v1,?_,?_⟩
 ·rw [← hroot];exact v2
 ·exact (w2.get (i:=0) (by decide)).trans rfl
theorem ly {n:Nat} {rows:List (List Int)} (ha:d7 rows) (hrow:∀ r∈rows,r.length=n) (hvv:∀ r∈rows,aM r=true) (hl:(a7 n rows).length≤4000) {order:List Int} (hp:eY order=true) (ho:order.length=n):eH order (a7 n rows)=true:=by
 by_cases hne:rows=[]
 ·subst hne
  unfold a7
  rw [if_pos rfl]
  simp [eH,hp,dM,dj,fW,f7,aM,asc,inR]
 ·obtain ⟨h1,h2,h3⟩:=i9 hne ha hrow hvv
  exact mA hp hl h3 (jQ (eB ha) hrow).1 h1 (by rw [h2,ho])
end Go.Proofs.Ytdapplkijobjoaa
namespace Go.Proofs.Ytdapplkijobjoaa
open Go.RowKit

theorem mR {n:Nat} {rows:List (List Int)} (hn5:n≤5) (ha:fw n rows):(a7 n rows).length≤rows.length*n+2:=by
 have hl:=ha.1
 unfold a7
 by_cases h:rows=[]
 ·rw [if_pos h];show 2≤_;omega
 ·have hmul:rows.length*n≤4000*5:=Nat.mul_le_mul hl hn5
  have hz:zN.length=1:=rfl
  rw [if_neg h]
  have:=(iF (n:=n) n 0 zN rows lS ha h (by omega)).2
  show (bh n zN rows 0).2.length≤_
  have e:(bh n zN rows 0).2.length≤zN.length+rows.length*n+1:=this
  omega
end Go.Proofs.Ytdapplkijobjoaa
namespace Go.Proofs.Ytdapplkijobjoaa
open Go.RowKit

theorem jF {k:Int} (h:inR k 1 4=true):k=1∨k=2∨k=3∨k=4:=by have:=cS.1 h;omega
theorem gu:clp 0=0:=by decide
theorem oe:clp 1=1:=by decide
theorem oh:clp 1000000000=1000000000:=by decide
theorem n7 {a:Int} (h:0≤a∧a≤1000000000):imn 1000000000 a=a:=by unfold imn;split <;> omega
theorem n8 {a:Int} (h:0≤a):imx 0 a=a:=by unfold imx;split <;> omega
theorem lX (a b:Int):bq 1 a b=clp (clp a+clp b):=by unfold bq;rw [if_pos rfl]
theorem l0 (a b:Int):bq 2 a b=imn (clp a) (clp b):=by unfold bq;rw [if_neg (by decide),if_pos rfl]
theorem lU (a b:Int):bq 3 a b=if 0<clp a∨0<clp b then 1 else 0:=by unfold bq;rw [if_neg (by decide),if_neg (by decide),if_pos rfl]
theorem lT (a b:Int):bq 4 a b=imx (clp a) (clp b):=by unfold bq;rw [if_neg (by decide),if_neg (by decide),if_neg (by decide),if_pos rfl]
theorem pK (a b:Int):bl 1 a b=clp (clp a*clp b):=by unfold bl;rw [if_pos (.inl rfl)]
theorem p8 (a b:Int):bl 2 a b=clp (clp a+clp b):=by unfold bl;rw [if_neg (by decide),if_pos rfl]
theorem p9 (a b:Int):bl 3 a b=if 0<clp a∧0<clp b then 1 else 0:=by unfold bl;rw [if_neg (by decide),if_neg (by decide),if_pos rfl]
theorem pI (a b:Int):bl 4 a b=clp (clp a*clp b):=by unfold bl;rw [if_pos (.inr rfl)]
theorem nj:aQ 1=0:=by unfold aQ;rw [if_neg (by decide)]
theorem mZ:aQ 2=1000000000:=by unfold aQ;rw [if_pos rfl]
theorem mz:aQ 3=0:=by unfold aQ;rw [if_neg (by decide)]
theorem mC:aQ 4=0:=by unfold aQ;rw [if_neg (by decide)]
theorem kY {k:Int} (hk:inR k 1 4=true) (a b:Int):bq k (aQ k) (bq k a b)=bq k a b:=by
 have ha:=be a;have hb:=be b
 rcases jF hk with rfl | rfl | rfl | rfl
 ·have h:=be (clp a+clp b)
  rw [nj,lX,lX,gu,Int.zero_add,bu h,bu h]
 ·have h:0≤imn (clp a) (clp b)∧imn (clp a) (clp b)≤1000000000:=by unfold imn;split <;> omega
  rw [mZ,l0,l0,oh,bu h,n7 h]
 ·rw [mz,lU,lU]
  by_cases x:0<clp a∨0<clp b
  ·rw [if_pos x,gu,oe,if_pos (by omega)]
  ·rw [if_neg x,gu,if_neg (by omega)]
 ·have h:0≤imx (clp a) (clp b)∧imx (clp a) (clp b)≤1000000000:=by unfold imx;split <;> omega
  rw [mC,lT,lT,gu,bu h,n8 h.1]
theorem nP {k:Int} (hk:inR k 1 4=true) (a b:Int):bq k (aQ k) (bl k a b)=bl k a b:=by
 rcases jF hk with rfl | rfl | rfl | rfl
 ·have h:=be (clp a*clp b)
  rw [nj,pK,lX,gu,Int.zero_add,bu h,bu h]
 ·have h:=be (clp a+clp b)
  rw [mZ,p8,l0,oh,bu h,n7 h]
 ·rw [mz,p9,lU]
  by_cases x:0<clp a∧0<clp b
  ·rw [if_pos x,gu,oe,if_pos (by omega)]
  ·rw [if_neg x,gu,if_neg (by omega)]
 ·have h:=be (clp a*clp b)
  rw [mC,pI,lT,gu,bu h,n8 h.1]
theorem jZ {k:Int} (hk:inR k 1 4=true):bq k (aQ k) (cH k)=cH k:=by
 rcases jF hk with rfl | rfl | rfl | rfl <;> decide
theorem n6 {k:Int} (hk:inR k 1 4=true):bq k (aQ k) (aQ k)=aQ k:=by
 rcases jF hk with rfl | rfl | rfl | rfl <;> decide
theorem nD {k:Int} (hk:inR k 1 4=true) (c:Int):bl k c (aQ k)=aQ k:=by
 rw [ku,pd]
 rcases jF hk with rfl | rfl | rfl | rfl <;> decide
theorem one_mul {k:Int} (hk:inR k 1 4=true) (a b:Int):bl k (cH k) (bl k a b)=bl k a b:=by rw [mi,nP hk]
def jD (k:Int) (l:List Int):Int:=l.foldr (bl k) (cH k)
theorem nf {k:Int} (hk:inR k 1 4=true) (l:List Int):bl k (cH k) (jD k l)=jD k l:=by
 cases l with
 | nil=>show bl k (cH k) (cH k)=cH k;rw [mi,jZ hk]
 | cons a l=>exact one_mul hk _ _
theorem i6 {k:Int} (hk:inR k 1 4=true):∀ (l:List Int) (s:Int),bl k s (cH k)=s→l.foldl (bl k) s=bl k s (jD k l)
 | [],s,hs=>hs.symm
 | a :: l,s,hs=>by
  rw [List.foldl_cons,i6 hk l _ (by rw [ku,one_mul hk]),mf];rfl
theorem mq {k:Int} (hk:inR k 1 4=true) (l:List Int):l.foldl (bl k) (cH k)=jD k l:=by
 rw [i6 hk l _ (by rw [mi,jZ hk]),nf hk]
def eQ (k:Int):List Int→List Int→Int
 | v :: os,x :: xs=>bl k (vW k v x) (eQ k os xs)
 | _,_=>cH k
theorem jH (k:Int):∀ (os xs:List Int),eQ k os xs=jD k (List.zipWith (vW k) os xs)
 | [],_=>rfl
 | _ :: _,[]=>rfl
 | v :: os,x :: xs=>by rw [eQ,jH k os xs];rfl
def dQ (k:Int) (os:List Int) (rows:List (List Int)):Int:=rows.foldl (fun s r=>bq k s (eQ k os r)) (aQ k)
theorem gB {k:Int} (hk:inR k 1 4=true) {os:List Int}:∀ (rows:List (List Int)) (s:Int),bq k (aQ k) s=s→rows.foldl (fun s r=>bq k s (eQ k os r)) s=bq k s (dQ k os rows)
 | [],s,hs=>by rw [List.foldl_nil];show s=bq k s (aQ k);rw [kv,hs]
 | r :: rows,s,hs=>by
  unfold dQ
  rw [List.foldl_cons,List.foldl_cons,gB hk rows _ (kY hk _ _),gB hk rows _ (kY hk _ _),← jR,← jR,kv k s (aQ k),hs]
theorem nK {k:Int} (hk:inR k 1 4=true) (os:List Int) (rows:List (List Int)):bq k (aQ k) (dQ k os rows)=dQ k os rows:=by
 have:=gB hk (os:=os) rows (aQ k) (n6 hk)
 exact this.symm
theorem nV {k:Int} (hk:inR k 1 4=true) (os:List Int) (a b:List (List Int)):dQ k os (a++b)=bq k (dQ k os a) (dQ k os b):=by
 have h:=gB hk (os:=os) b (dQ k os a) (nK hk os a)
 rw [← h]
 unfold dQ
 rw [List.foldl_append]
theorem nB {k:Int} (hk:inR k 1 4=true) (o v:Int) (os:List Int) (rows:List (List Int)):dQ k (o :: os) (rows.map (v :: ·))=bl k (vW k o v) (dQ k os rows):=by
 have key:∀ (rows:List (List Int)) (s:Int),(rows.map (v :: ·)).foldl (fun s r=>bq k s (eQ k (o :: os) r)) (bl k (vW k o v) s)=bl k (vW k o v) (rows.foldl (fun s r=>bq k s (eQ k os r)) s):=by
  intro rows
  induction rows with
  | nil=>intro s;rfl
  | cons r rows ih =>
   intro s
   rw [List.map_cons,List.foldl_cons,List.foldl_cons]
   show List.foldl _ (bq k (bl k (vW k o v) s) (bl k (vW k o v) (eQ k os r))) _=_
   rw [← pz]
   exact ih _
 have:=key rows (aQ k)
 rw [nD hk] at this
 exact this
theorem oJ {k:Int} (hk:inR k 1 4=true) (row:List Int):ir k row=eQ k (cV row.length) row:=by
 have e:(List.range' 0 row.length).map (fun i:Nat=>vW k (i:Int) (row.getD i 0))=List.zipWith (vW k) (cV row.length) row:=by
  refine List.ext_getElem (by simp [cV]) fun i h1 h2=>?_
  have hi:i<row.length:=by simpa using h1
  rw [List.getElem_map,List.getElem_zipWith]
  simp [cV,hi]
 unfold ir
 rw [jH,← e,← mq hk,List.foldl_map]
theorem lQ {k:Int} (hk:inR k 1 4=true) {n:Nat} {rows:List (List Int)} (hr:∀ r∈rows,r.length=n):iM k rows=dQ k (cV n) rows:=by
 unfold iM dQ
 have key:∀ (rows:List (List Int)) (s:Int),(∀ r∈rows,r.length=n)→rows.foldl (fun s r=>bq k s (ir k r)) s=rows.foldl (fun s r=>bq k s (eQ k (cV n) r)) s:=by
  intro rows
  induction rows with
  | nil=>intro s _;rfl
  | cons r rows ih =>
   intro s h
   rw [List.foldl_cons,List.foldl_cons,ih _ fun r hr=>h r (List.mem_cons_of_mem _ hr),oJ hk,h r List.mem_cons_self]
 rw [← key rows _ hr]
 exact lj (fun s r=>bq k s (ir k r)) [] rows (aQ k)

theorem i8 {ns:List av} (hw:WFn ns):∀ (f f':Nat) (nd:Int) (pre:List Int),nd<(f:Int)→nd<(f':Int)→0≤nd→nd<(ns.length:Int)→bL ns f nd pre=bL ns f' nd pre
 | 0,_,_,_,h,_,h0,_=>by omega
 | f+1,0,_,_,_,h,h0,_=>by omega
 | f+1,f'+1,nd,pre,h,h',h0,h1=>by
  obtain ⟨k,rfl⟩:=Int.eq_ofNat_of_zero_le h0
  rw [bL,bL]
  by_cases hz:(k:Int)=0
  ·rw [if_pos hz,if_pos hz]
  ·have hk:k<ns.length:=by omega
   rw [if_neg hz,if_neg hz,Int.toNat_natCast]
   refine eA _ fun j hj=>?_
   have hc:0≤(ns.getD k ([],[])).2.getD j 0∧(ns.getD k ([],[])).2.getD j 0<(k:Int):=by
    by_cases hj:j<(ns.getD k ([],[])).2.length
    ·rw [List.getD_eq_getElem?_getD,List.getElem?_eq_getElem hj,Option.getD_some]
     exact hw.2 k hk _ (List.getElem_mem hj)
    ·rw [List.getD_eq_getElem?_getD,List.getElem?_eq_none (by omega),Option.getD_none]
     omega
   exact i8 hw f f' _ _ (by omega) (by omega) hc.1 (by omega)
def fX (ns:List av) (nd:Int):List (List Int):=bL ns ns.length nd []
theorem kp {ns:List av} (hw:WFn ns) {i:Nat} (h1:1≤i) (hi:i<ns.length) (hl:(ns.getD i ([],[])).1.length=(ns.getD i ([],[])).2.length) :
  fX ns (i:Int)=dP (fun j=>(fX ns ((ns.getD i ([],[])).2.getD j 0)).map ((ns.getD i ([],[])).1.getD j 0 :: ·)) (ns.getD i ([],[])).1.length:=by
 obtain ⟨g,hg⟩:∃ g,ns.length=g+1:=⟨ns.length-1,by omega⟩
 unfold fX
 conv=>lhs;rw [hg,bL,if_neg (by omega),Int.toNat_natCast]
 refine eA _ fun j hj=>?_
 have hj2:j<(ns.getD i ([],[])).2.length:=by omega
 have hc:0≤(ns.getD i ([],[])).2.getD j 0∧(ns.getD i ([],[])).2.getD j 0<(i:Int):=by
  rw [List.getD_eq_getElem?_getD,List.getElem?_eq_getElem hj2,Option.getD_some]
  exact hw.2 i hi _ (List.getElem_mem hj2)
 have h2:=gZ ns g ((ns.getD i ([],[])).2.getD j 0) ([]++[(ns.getD i ([],[])).1.getD j 0]) []
 rw [List.append_nil] at h2
 rw [h2,i8 hw g ns.length _ [] (by omega) (by omega) hc.1 (by omega)];rfl
theorem jG {ns:List av} (hw:WFn ns):fX ns 0=[[]]:=by
 obtain ⟨g,hg⟩:∃ g,ns.length=g+1:=⟨ns.length-1,by have:=hw.1;omega⟩
 unfold fX
 rw [hg,bL,if_pos rfl]
def eE (k:Int) (order:List Int) (ns:List av) (nd:Int):Int:=dQ k (order.drop (order.length-(dep ns nd).toNat)) (fX ns nd)
theorem np {k:Int} (hk:inR k 1 4=true) {order:List Int} {ns:List av} (hw:WFn ns):eE k order ns 0=cH k:=by
 unfold eE
 rw [jG hw]
 have:∀ os,eQ k os []=cH k:=fun os=>by cases os <;> rfl
 show bq k (aQ k) (eQ k _ [])=_
 rw [this,jZ hk]
def gp (k:Int) (order:List Int) (ns:List av) (i j:Nat):Int :=
 dQ k (order.drop (order.length-(dep ns (i:Int)).toNat)) (dP (fun j=>(fX ns ((ns.getD i ([],[])).2.getD j 0)).map ((ns.getD i ([],[])).1.getD j 0 :: ·)) j)
theorem js {k:Int} (hk:inR k 1 4=true) {order:List Int} {ns:List av} (hw:WFn ns) {i:Nat} (h1:1≤i) (hi:i<ns.length) (ho:NodeOk ns i) (hd:dep ns (i:Int)≤(order.length:Int)) (hd0:∀ c,0≤c→c<(ns.length:Int)→0≤dep ns c) {j:Nat} (hj:j<(ns.getD i ([],[])).2.length) :
  gp k order ns i (j+1)=bq k (gp k order ns i j) (bl k (vW k (order.getD (order.length-(dep ns (i:Int)).toNat) 0) ((ns.getD i ([],[])).1.getD j 0)) (eE k order ns ((ns.getD i ([],[])).2.getD j 0))):=by
 have hc:(ns.getD i ([],[])).2.getD j 0=(ns.getD i ([],[])).2[j]:=by rw [List.getD_eq_getElem?_getD,List.getElem?_eq_getElem hj,Option.getD_some]
 have hm:(ns.getD i ([],[])).2.getD j 0∈(ns.getD i ([],[])).2:=by rw [hc];exact List.getElem_mem hj
 have hb:=hw.2 i hi _ hm
 have hdc:=ho.chs _ hm
 have hs:=eU hw h1 hi
 rw [← hdc] at hs
 have hp:=hd0 ((ns.getD i ([],[])).2.getD j 0) hb.1 (by omega)
 unfold gp
 show dQ k _ (dP _ j++_)=_
 rw [nV hk]
 congr 1
 unfold eE
 generalize dep ns ((ns.getD i ([],[])).2.getD j 0)=D at hs hp
 have e:order.drop (order.length-(dep ns (i:Int)).toNat)=order.getD (order.length-(dep ns (i:Int)).toNat) 0 :: order.drop (order.length-D.toNat):=by
  have hlt:order.length-(dep ns (i:Int)).toNat<order.length:=by omega
  rw [List.drop_eq_getElem_cons hlt,show order.length-(dep ns (i:Int)).toNat+1=order.length-D.toNat by omega,List.getD_eq_getElem?_getD,List.getElem?_eq_getElem hlt,Option.getD_some]
 conv=>lhs;rw [e]
 rw [nB hk]
theorem kq {k:Int} {order:List Int} {ns:List av} (hw:WFn ns) {i:Nat} (h1:1≤i) (hi:i<ns.length) (ho:NodeOk ns i):gp k order ns i (ns.getD i ([],[])).2.length=eE k order ns (i:Int):=by
 unfold gp eE
 rw [kp hw h1 hi ho.lens,ho.lens]
theorem jt {ns:List av} (hw:WFn ns):∀ (m:Nat) (c:Int),c<(m:Int)→0≤c→c<(ns.length:Int)→0≤dep ns c
 | 0,c,h,h0,_=>by omega
 | m+1,c,h,h0,h1=>by
  obtain ⟨k,rfl⟩:=Int.eq_ofNat_of_zero_le h0
  by_cases hz:k=0
  ·subst hz;rw [show ((0:Nat):Int)=0 from rfl,eV hw];exact Int.le_refl _
  ·have hc:=fI hw (show 1≤k by omega) (show k<ns.length by omega)
   rw [eU hw (by omega) (by omega)]
   have:=jt hw m _ (show (ns.getD k ([],[])).2.getD 0 0<(m:Int) by omega) hc.1 (by omega)
   omega
theorem lC {ns:List av} (hw:WFn ns) (ho:d4 ns):∀ (m i:Nat),i<m→i<ns.length→∃ r∈fX ns (i:Int),(r.length:Int)=dep ns (i:Int)
 | 0,i,h,_=>by omega
 | m+1,i,h,hi=>by
  by_cases hz:i=0
  ·subst hz
   rw [show ((0:Nat):Int)=0 from rfl,jG hw,eV hw]
   exact ⟨[],List.mem_singleton.2 rfl,rfl⟩
  ·have hk:=ho i (by omega) hi
   have hc:=fI hw (show 1≤i by omega) hi
   have hpos:0<(ns.getD i ([],[])).1.length:=List.length_pos_iff.2 hk.ne
   obtain ⟨c,hce⟩:=Int.eq_ofNat_of_zero_le hc.1
   obtain ⟨r,hr,hl⟩:=lC hw ho m c (by omega) (by omega)
   rw [kp hw (by omega) hi hk.lens,eU hw (by omega) hi,hce]
   refine ⟨(ns.getD i ([],[])).1.getD 0 0 :: r,?_,by rw [List.length_cons,← hl];omega⟩
   have hin:∀ (F:Nat→List (List Int)) (n:Nat) (x:List Int),0<n→x∈F 0→x∈dP F n:=by
    intro F n x
    induction n with
    | zero=>intro h;omega
    | succ n ih =>
     intro _ hx
     unfold dP
     rw [List.mem_append]
     by_cases hn:n=0
     ·subst hn;exact .inr hx
     ·exact .inl (ih (by omega) hx)
   refine hin _ _ _ hpos ?_
   rw [hce]
   exact List.mem_map.2 ⟨r,hr,rfl⟩
theorem px {E:Nat} {ns:List av} (hw:WFd E ns) (ho:d4 ns) {i:Nat} (hi:i<ns.length):dep ns (i:Int)≤(E:Int):=by
 obtain ⟨r,hr,hl⟩:=lC hw.1 ho (i+1) i (by omega) hi
 have:=hw.2 i hi ns.length hi r hr
 omega
structure FOk (n:Nat) (rows:List (List Int)) (ns:List av):Prop where
 wf:WFn ns
 all:d4 ns
 le:∀ i,i<ns.length→dep ns (i:Int)≤(n:Int)
 root:dep ns ((ns.length:Int)-1)=(n:Int)
 rows:fX ns ((ns.length:Int)-1)=rows
 z:ns.getD 0 ([],[])=([],[])
theorem mw {n:Nat} {rows:List (List Int)} (hne:rows≠[]) (ha:d7 rows) (hrow:∀ r∈rows,r.length=n) (hvv:∀ r∈rows,aM r=true):FOk n rows (a7 n rows):=by
 obtain ⟨h1,h2,h3⟩:=i9 hne ha hrow hvv
 have hr0:∀ r∈rows,r.length=n∧r.take 0=[]:=fun r hr=>⟨hrow r hr,rfl⟩
 have hF:a7 n rows=(bh n zN rows 0).2:=by unfold a7;rw [if_neg hne];rfl
 obtain ⟨w1,_,_⟩:=dB (E:=n) n 0 (by omega) (Nat.le_refl _) zN rows [] (gR _) hne (eB ha) hr0
 obtain ⟨hw,hr⟩:=jQ (eB ha) hrow
 refine ⟨hw,h1,fun i hi=>?_,h2,hr _ (Nat.le_refl _),h3⟩
 rw [hF] at h1 hi ⊢
 exact px w1 h1 hi
theorem FOk.agg {k:Int} {order:List Int} {n:Nat} {rows:List (List Int)} {ns:List av} (h:FOk n rows ns) (ho:order.length=n):eE k order ns ((ns.length:Int)-1)=dQ k order rows:=by
 unfold eE
 rw [h.root,h.rows,ho,Int.toNat_natCast,Nat.sub_self,List.drop_zero]
end Go.Proofs.Ytdapplkijobjoaa
namespace Go.Proofs.Ytdapplkijobjoaa
open Go.RowKit

def wL (k:Int) (order:List Int) (ns:List av) (i:Nat):List Int:=(List.range i).map fun j:Nat=>eE k order ns (j:Int)
theorem fM (k:Int) (order:List Int) (ns:List av) (i:Nat):(wL k order ns i).length=i:=by simp [wL]
theorem nh {k:Int} {order:List Int} {ns:List av} {i:Nat} {c:Int} (h0:0≤c) (h1:c<(i:Int)):(wL k order ns i).getD c.toNat 0=eE k order ns c:=by
 obtain ⟨j,rfl⟩:=Int.eq_ofNat_of_zero_le h0
 have hj:j<i:=by omega
 simp [wL,hj]
theorem oS (k:Int) (order:List Int) (ns:List av) (i:Nat):wL k order ns (i+1)=wL k order ns i++[eE k order ns (i:Int)]:=by unfold wL;rw [List.range_succ,List.map_append];rfl
theorem hJ (ns:List av) (i:Nat):(dH ns i).length=i:=by simp [dH]
def fu (k:Int) (order:List Int) (ns:List av) (i n:Nat):List Int :=
 (List.range n).map fun j=>bl k (vW k (order.getD 0 0) ((ns.getD i ([],[])).1.getD j 0)) (eE k order ns ((ns.getD i ([],[])).2.getD j 0))
theorem kj (k:Int) (order:List Int) (ns:List av) (i n:Nat):fu k order ns i (n+1)=fu k order ns i n++[bl k (vW k (order.getD 0 0) ((ns.getD i ([],[])).1.getD n 0)) (eE k order ns ((ns.getD i ([],[])).2.getD n 0))]:=by unfold fu;rw [List.range_succ,List.map_append];rfl
section
variable {N:Nat} {n:Nat} {rows:List (List Int)} {ns:List av} {k:Int} {order:List Int}
theorem lJ {left v below:Int} (h0:1≤left) (h1:left≤(order.length:Int)) (hl:order.length≤1048576):e5 N k order ns left v below=some (bl k (vW k (order.getD (order.length-left.toNat) 0) v) below):=by
 unfold e5
 have hi:order.length-left.toNat<order.length:=by omega
 rw [et (by omega) (by omega),bs,show (order.length:Int)-left=((order.length-left.toNat:Nat):Int) by omega,aS hi,bs,fo,bs,fq,bs,cB hi]
theorem FOk.dep1 (h:FOk n rows ns) {i:Nat} (h1:1≤i) (hi:i<ns.length):1≤dep ns (i:Int)∧dep ns (i:Int)≤(n:Int):=by
 have hc:=fI h.wf h1 hi
 have:=jt h.wf ns.length _ (show (ns.getD i ([],[])).2.getD 0 0<(ns.length:Int) by omega) hc.1 (by omega)
 have:=eU h.wf h1 hi
 exact ⟨by omega,h.le i hi⟩
theorem ms (hN:1073741824≤N) (hk:inR k 1 4=true) (h:FOk n rows ns) (ho:order.length=n) (hn5:n≤5) (hnl:ns.length≤4000) {i:Nat} (h1:1≤i) (hi:i<ns.length) {z z':List Int} :
  ∀ (m j f:Nat) (l:Int),j+m=(ns.getD i ([],[])).2.length→m<f→(m=0→l=dep ns (i:Int))→(ns.getD i ([],[])).2.length≤1048576 →
   bY N f k order ns (wL k order ns i++gp k order ns i j :: z) (dH ns i++l :: z') (i:Int) (ns.getD i ([],[])).1 (ns.getD i ([],[])).2 ns (ns.length:Int) (i:Int) (ns.getD i ([],[])).2 ((ns.getD i ([],[])).2.length:Int) (j:Int) =
    some (wL k order ns i++eE k order ns (i:Int) :: z,dH ns i++dep ns (i:Int) :: z',((ns.getD i ([],[])).2.length:Int)):=by
 have hok:=h.all i h1 hi
 have hd:=h.dep1 h1 hi
 have hl:=hok.lens
 intro m
 induction m with
 | zero =>
  intro j f l hj hf hm hL
  obtain ⟨f,rfl⟩:∃ g,f=g+1:=⟨f-1,by omega⟩
  have ej:j=(ns.getD i ([],[])).2.length:=by omega
  rw [bY,dge (by omega),cond_false,ej,kq h.wf h1 hi hok,hm rfl]
 | succ m ih =>
  intro j f l hj hf hm hL
  obtain ⟨f,rfl⟩:∃ g,f=g+1:=⟨f-1,by omega⟩
  have hjl:j<(ns.getD i ([],[])).2.length:=by omega
  have hjv:j<(ns.getD i ([],[])).1.length:=by omega
  have hmem:=List.getElem_mem hjl
  have hb:=h.wf.2 i hi _ hmem
  have hdc:=hok.chs _ hmem
  have hs:=eU h.wf h1 hi
  rw [← hdc] at hs
  have hx:(ns.getD i ([],[])).2.getD j 0=(ns.getD i ([],[])).2[j]:=cB hjl
  have hxv:(ns.getD i ([],[])).1.getD j 0=(ns.getD i ([],[])).1[j]:=cB hjv
  have hst:=js hk (order:=order) h.wf h1 hi hok (by omega) (fun c c0 c1=>jt h.wf ns.length c c1 c0 c1) hjl
  rw [hx,hxv] at hst
  rw [bY,dlt hjl,cond_true,aS hjl,bs,j9 hb.1 (by rw [hJ];exact hb.2),gj hb.1 hb.2,bs,cF (by omega) (by omega),bs,← hs,jv (hJ ns i),bs,ka (hJ ns i),bs,
   jv (fM k order ns i),bs,jv (hJ ns i),bs,aS hjv,bs,j9 hb.1 (by rw [fM];exact hb.2),nh hb.1 hb.2,bs,lJ hd.1 (by omega) (by omega),bs,d2,bs,bs,ka (fM k order ns i),bs,ad1 (by omega),bs,← hst]
  exact ih (j+1) f (dep ns (i:Int)) (by omega) (by omega) (fun _=>rfl) hL
theorem lW (hN:1073741824≤N) (hk:inR k 1 4=true) (h:FOk n rows ns) (ho:order.length=n) (hn5:n≤5) (hnl:ns.length≤4000) (hn:okN ns):∀ (m i f:Nat),i+m=ns.length→m<f→1≤i →
  bB N f k order ns (wL k order ns i++List.replicate m 0) (dH ns i++List.replicate m 0) ns (ns.length:Int) (i:Int)=some (wL k order ns ns.length,dH ns ns.length,(ns.length:Int)):=by
 intro m
 induction m with
 | zero =>
  intro i f hi hf _
  obtain ⟨f,rfl⟩:∃ g,f=g+1:=⟨f-1,by omega⟩
  obtain rfl:i=ns.length:=by omega
  rw [bB,dge (by omega),cond_false,List.replicate_zero,List.append_nil,List.append_nil]
 | succ m ih =>
  intro i f hi hf h1
  obtain ⟨f,rfl⟩:∃ g,f=g+1:=⟨f-1,by omega⟩
  have hil:i<ns.length:=by omega
  have hx:ns[i]=ns.getD i ([],[]):=by simp [hil]
  obtain ⟨_,k2⟩:=ip hn hil
  rw [hx] at k2
  have hp:gp k order ns i 0=aQ k:=rfl
  have hne:(ns.getD i ([],[])).2.length≠0:=by
   have:=(h.all i h1 hil)
   rw [← this.lens]
   exact fun e=>this.ne (List.length_eq_zero_iff.1 e)
  have hL:=ms hN hk h ho hn5 hnl h1 hil (z:=List.replicate m 0) (z':=List.replicate m 0) (ns.getD i ([],[])).2.length 0 N 0 (by omega) (by have:=k2.1;omega) (fun e=>absurd e hne) k2.1
  rw [hp] at hL
  rw [bB,dlt hil,cond_true,aS hil,bs,show (((i:Nat):Int) == 0)=false by simp;omega,cond_false,bv,bs,List.replicate_succ,jv (fM k order ns i),bs,ka (fM k order ns i),bs,hx]
  show (Option.bind (bY N N k order ns (wL k order ns i++aQ k :: List.replicate m 0) (dH ns i++0 :: List.replicate m 0) (i:Int) (ns.getD i ([],[])).1 (ns.getD i ([],[])).2 ns (ns.length:Int) (i:Int) (ns.getD i ([],[])).2 ((ns.getD i ([],[])).2.length:Int) 0) _)=_
  rw [show (0:Int)=((0:Nat):Int) from rfl]
  rw [show (0:Int)=((0:Nat):Int) from rfl] at hL
  rw [hL,bs,lpB]
  dsimp only
  rw [ad1 (by omega),bs]
  have:=ih (i+1) f (by omega) (by omega) (by omega)
  rw [oS,kn,List.append_assoc,List.append_assoc] at this
  exact this
theorem jS (hN:1073741824≤N) (hk:inR k 1 4=true) (h:FOk n rows ns) (ho:order.length=n) (hn5:n≤5) (hnl:ns.length≤4000) (hn:okN ns):c9 N k order ns=some (wL k order ns ns.length):=by
 have hp:=h.wf.1
 obtain ⟨m,hm⟩:∃ m,ns.length=m+1:=⟨ns.length-1,by omega⟩
 have hL:=lW hN hk h ho hn5 hnl hn m 1 (N-1) (by omega) (by omega) (Nat.le_refl _)
 have e1:wL k order ns 1=[cH k]:=by
  show [eE k order ns ((0:Nat):Int)]=_
  rw [show ((0:Nat):Int)=0 from rfl,np hk h.wf]
 have e2:dH ns 1=[0]:=by
  show [dep ns ((0:Nat):Int)]=_
  rw [show ((0:Nat):Int)=0 from rfl,eV h.wf]
 rw [e1,e2] at hL
 have h0:(0:Int)<(ns.length:Int):=by omega
 unfold c9
 rw [n9 (by decide) (by omega),bs,bs,hm,List.replicate_succ]
 have hst:bB N N k order ns (0 :: List.replicate m 0) (0 :: List.replicate m 0) ns ((m+1:Nat):Int) 0=some (wL k order ns (m+1),dH ns (m+1),((m+1:Nat):Int)):=by
  rw [← hm]
  conv=>lhs;rw [show N=(N-1)+1 by omega]
  rw [bB,decide_eq_true h0,cond_true,ix0 (by omega),bs,show ((0:Int) == 0)=true from rfl,cond_true,dX,bs,ix0 (by simp),bs,show (0:Int)=((0:Nat):Int) from rfl,gJ (by simp),bs,ad1 (by omega),bs,List.set_cons_zero,show N-1+1=N by omega]
  exact hL
 rw [hst,bs,lpB]
theorem iZ (hN:1073741824≤N):c9 N k order [([],[]),([],[])]=some [cH k,aQ k]:=by
 have hE:∀ (M:Nat) (o l:List Int) (i:Int),bY N (M+1) k order [([],[]),([],[])] o l i [] [] [([],[]),([],[])] 2 i [] 0 0=some (o,l,0):=fun M o l i=>by rw [bY];rfl
 obtain ⟨M,rfl⟩:∃ M,N=M+3:=⟨N-3,by omega⟩
 unfold c9
 have e2:(([([],[]),([],[])]:List av).length:Int)=2:=rfl
 rw [e2,show (mk 8 (0:Int) 2)=some [0,0] from rfl,bs,bs]
 rw [bB,show decide ((0:Int)<2)=true from rfl,cond_true,show ix ([([],[]),([],[])]:List av) 0=some ([],[]) from rfl,bs,show ((0:Int) == 0)=true from rfl,cond_true,dX,bs,show ix ([0,0]:List Int) 0=some 0 from rfl,bs,
  show sto ([0,0]:List Int) 0 (cH k)=some [cH k,0] from rfl,bs,show ad 0 1=some 1 from rfl,bs]
 rw [bB,show decide ((1:Int)<2)=true from rfl,cond_true,show ix ([([],[]),([],[])]:List av) 1=some ([],[]) from rfl,bs,show ((1:Int) == 0)=false from rfl,cond_false,bv,bs,show ix ([cH k,0]:List Int) 1=some 0 from rfl,bs,
  show sto ([cH k,0]:List Int) 1 (aQ k)=some [cH k,aQ k] from rfl,bs]
 dsimp only [List.length_nil]
 rw [show ((0:Nat):Int)=0 from rfl,hE (M+2),bs,lpB]
 dsimp only
 rw [show ad 1 1=some 2 from rfl,bs,bB,show decide ((2:Int)<2)=false from rfl,cond_false,bs,lpB]
theorem fa (hN:1073741824≤N) (h:FOk n rows ns) (ho:order.length=n) (hn5:n≤5) (hnl:ns.length≤4000) (hn:okN ns) (hok:okI order) (hv:eH order ns=true):bo N k order ns=some (bif inR k 1 4 then dQ k order rows else aQ k):=by
 have hp:=h.wf.1
 unfold bo
 rw [bR,bs]
 cases hk:inR k 1 4 with
 | false=>rw [cond_false,bv,bs,cond_false]
 | true =>
  have e:((ns.length:Int)-1)=((ns.length-1:Nat):Int):=by omega
  rw [cond_true,cond_true,ce hN hok hn,bs,hv,cond_true,jS hN hk h ho hn5 hnl hn,bs,fM,et (by omega) (by omega),bs,← h.agg ho,e,aS (by rw [fM];omega),bs]
  simp [wL]
theorem fT (hN:1073741824≤N) (hok:okI order) (hv:eH order [([],[]),([],[])]=true):bo N k order [([],[]),([],[])]=some (aQ k):=by
 have hn:okN [([],[]),([],[])]:=⟨by decide,fun x hx=>by
  have e:x=([],[]):=by simpa using hx
  subst e
  exact ⟨⟨Nat.zero_le _,fun _ _=>trivial⟩,⟨Nat.zero_le _,fun _ _=>trivial⟩⟩⟩
 unfold bo
 rw [bR,bs]
 cases hk:inR k 1 4 with
 | false=>rw [cond_false,bv,bs]
 | true =>
  rw [cond_true,ce hN hok hn,bs,hv,cond_true,iZ hN,bs];rfl
theorem ni (hN:1073741824≤N) (h:FOk n rows ns) (ho:order.length=n) (h0:1≤n) (hn5:n≤5) {i:Nat} (h1:1≤i) (hi:i<ns.length) (hl:(ns.getD i ([],[])).2.length≤1048576):∀ (m j f:Nat),j+m=(ns.getD i ([],[])).1.length→m<f →
  bH N f k order ns (wL k order ns ns.length) (ns.getD i ([],[])).1 (ns.getD i ([],[])).2 (fu k order ns i j) (ns.getD i ([],[])).1 ((ns.getD i ([],[])).1.length:Int) (j:Int)=some (fu k order ns i (ns.getD i ([],[])).1.length,((ns.getD i ([],[])).1.length:Int)):=by
 have hok:=h.all i h1 hi
 have hle:=hok.lens
 intro m
 induction m with
 | zero =>
  intro j f hj hf
  obtain ⟨f,rfl⟩:∃ g,f=g+1:=⟨f-1,by omega⟩
  have ej:j=(ns.getD i ([],[])).1.length:=by omega
  rw [bH,dge (by omega),cond_false,ej]
 | succ m ih =>
  intro j f hj hf
  obtain ⟨f,rfl⟩:∃ g,f=g+1:=⟨f-1,by omega⟩
  have hjl:j<(ns.getD i ([],[])).2.length:=by omega
  have hjv:j<(ns.getD i ([],[])).1.length:=by omega
  have hb:=h.wf.2 i hi _ (List.getElem_mem hjl)
  have hx:(ns.getD i ([],[])).2.getD j 0=(ns.getD i ([],[])).2[j]:=cB hjl
  have hxv:(ns.getD i ([],[])).1.getD j 0=(ns.getD i ([],[])).1[j]:=cB hjv
  have hw:ix (wL k order ns ns.length) (ns.getD i ([],[])).2[j]=some (eE k order ns (ns.getD i ([],[])).2[j]):=by
   have:=j9 (c:=wL k order ns ns.length) (z:=[]) hb.1 (by rw [fM];omega)
   rw [List.append_nil,nh hb.1 (by omega)] at this
   exact this
  have hgl:(fu k order ns i j).length=j:=by simp [fu]
  rw [bH,dlt hjv,cond_true,aS hjv,bs,aS hjl,bs,hw,bs,lJ (by omega) (by omega) (by omega),bs,show order.length-((order.length:Int)).toNat=0 by omega,di (by decide) (by rw [hgl];simp;omega),bs,ad1 (by omega),bs]
  have:=ih (j+1) f (by omega) (by omega)
  rw [kj,hx,hxv] at this
  exact this
theorem i5 {l:List Int} (hl:l.length≤1048576):dT N l=some l:=by
 unfold dT
 rw [di (by decide) (by simp;omega),bs,List.nil_append]
theorem gm (hN:1073741824≤N) (h:FOk n rows ns) (ho:order.length=n) (hn5:n≤5) (hnl:ns.length≤4000) (hn:okN ns) (hok:okI order) (hv:eH order ns=true) :
  bU N k order ns=some (bif inR k 1 4 then (bif ((order.length:Int) == 0) then ([],[]) else ((ns.getD (ns.length-1) ([],[])).1,fu k order ns (ns.length-1) (ns.getD (ns.length-1) ([],[])).1.length)) else ([],[])):=by
 have hp:=h.wf.1
 unfold bU
 rw [bR,bs]
 cases hk:inR k 1 4 with
 | false=>rfl
 | true =>
  rw [cond_true,cond_true,ce hN hok hn,bs,hv,cond_true]
  cases h0:((order.length:Int) == 0) with
  | true=>rfl
  | false =>
   have hn1:1≤n:=by
    have:¬ ((order.length:Int)=0):=by simpa using h0
    omega
   have hroot:=h.root
   have hl1:1≤ns.length-1:=by
    by_cases e:ns.length=1
    ·rw [e,show ((1:Nat):Int)-1=0 from rfl,eV h.wf] at hroot;omega
    ·omega
   have hil:ns.length-1<ns.length:=by omega
   have hx:ns[ns.length-1]=ns.getD (ns.length-1) ([],[]):=by simp [hil]
   obtain ⟨k1,k2⟩:=ip hn hil
   rw [hx] at k1 k2
   have e:((ns.length:Int)-1)=((ns.length-1:Nat):Int):=by omega
   have hL:=ni hN h ho hn1 hn5 (k:=k) hl1 hil k2.1 (ns.getD (ns.length-1) ([],[])).1.length 0 N (by omega) (by have:=k1.1;omega)
   rw [cond_false,cond_false,jS hN hk h ho hn5 hnl hn,bs,et (by omega) (by omega),bs,e,aS hil,bs,hx]
   rw [show ((0:Nat):Int)=0 from rfl,show fu k order ns (ns.length-1) 0=[] from rfl] at hL
   rw [hL,bs,lpB]
   dsimp only
   rw [i5 k1.1,bs]
theorem im (hN:1073741824≤N) (hok:okI order) (hv:eH order [([],[]),([],[])]=true):bU N k order [([],[]),([],[])]=some ([],[]):=by
 have hn:okN [([],[]),([],[])]:=⟨by decide,fun x hx=>by
  have e:x=([],[]):=by simpa using hx
  subst e
  exact ⟨⟨Nat.zero_le _,fun _ _=>trivial⟩,⟨Nat.zero_le _,fun _ _=>trivial⟩⟩⟩
 unfold bU
 rw [bR,bs]
 cases hk:inR k 1 4 with
 | false=>rfl
 | true =>
  rw [cond_true,ce hN hok hn,bs,hv,cond_true]
  cases h0:((order.length:Int) == 0) with
  | true=>rfl
  | false =>
   obtain ⟨M,rfl⟩:∃ M,N=M+1:=⟨N-1,by omega⟩
   rw [cond_false,iZ hN,bs,show sb (([([],[]),([],[])]:List av).length:Int) 1=some 1 from rfl,bs,show ix ([([],[]),([],[])]:List av) 1=some ([],[]) from rfl,bs]
   dsimp only
   rw [bH,show decide ((0:Int)<(([]:List Int).length:Int))=false from rfl,cond_false,bs,lpB]
   dsimp only
   rw [i5 (by simp),bs]
end
theorem kL {k:Int} (hk:inR k 1 4=true) {order:List Int} {n:Nat} {rows:List (List Int)} {ns:List av} (h:FOk n rows ns) (ho:order.length=n) {i:Nat} (h1:1≤i) (hi:i<ns.length) (hd:dep ns (i:Int)=(n:Int)):∀ j,j≤(ns.getD i ([],[])).2.length→(fu k order ns i j).foldl (bq k) (aQ k)=gp k order ns i j
 | 0,_=>rfl
 | j+1,hj=>by
  rw [kj,List.foldl_append,kL hk h ho h1 hi hd j (by omega),List.foldl_cons,List.foldl_nil,js hk h.wf h1 hi (h.all i h1 hi) (by omega) (fun c c0 c1=>jt h.wf ns.length c c1 c0 c1) (by omega),hd,ho,Int.toNat_natCast,Nat.sub_self]
end Go.Proofs.Ytdapplkijobjoaa
namespace Go.Proofs.Ytdapplkijobjoaa
open Go.RowKit
theorem oC {r:Int × bb} (k:kE r):dW r.2:=⟨by have:=k.2.1;omega,fun w hw=>⟨by have:=(k.2.2 w hw).1;omega,fun _ _=>trivial⟩⟩
theorem fP {N:Nat} (hM:1073742848≤N) {a:List Int} (ha:eR a):∃ k r,bX N a=some (k,r)∧kE r:=by
 obtain ⟨h,e⟩:=mg (N:=N) (by omega) ha
 have hc:dA a 0:=⟨Int.le_refl _,by omega⟩
 obtain ⟨x,q,g,e1,_,hc1⟩:=ft (N:=N) ha (h:=h) hc (l:=[1,2,3,4,1,2,3,4,0,5]) (by decide)
 obtain ⟨r,q2,g2,e2,_,hr⟩:=mc hM ha (h:=g) hc1
 unfold bX fg
 rw [e,bs]
 dsimp only
 rw [e1,bs,bs]
 dsimp only
 rw [e2,bs]
 exact ⟨_,_,rfl,hr⟩
theorem du {N:Nat} {k n c:Int} {rows:bb} {sums:List Int} (hl:sums.length≤1048576):∀ (m j f:Nat) (s:Int),j+m=sums.length→m<f→cc N f k n rows c sums s (j:Int)=some ((sums.drop j).foldl (bq k) s,(sums.length:Int)):=by
 intro m
 induction m with
 | zero =>
  intro j f s hj hf
  obtain ⟨f,rfl⟩:∃ g,f=g+1:=⟨f-1,by omega⟩
  obtain rfl:j=sums.length:=by omega
  rw [cc,dge (by omega),cond_false,List.drop_length];rfl
 | succ m ih =>
  intro j f s hj hf
  obtain ⟨f,rfl⟩:∃ g,f=g+1:=⟨f-1,by omega⟩
  have h:j<sums.length:=by omega
  rw [cc,dlt h,cond_true,aS h,bs,d2,bs,ad1 (by omega),bs,ih (j+1) f _ (by omega) (by omega),dg h,List.foldl_cons]
theorem jm {N:Nat} (hM:1073742848≤N) {x0:List Int} (_:(hP (fun _=>True) 9223372036854775807) x0) (g0:∀ v∈x0,0≤v∧v≤255):dL N x0=some true:=by
 have hN:1073741824≤N:=by omega
 unfold dL gX
 rw [bs]
 by_cases hb:(1048576:Int)<(x0.length:Int)
 ·rw [decide_eq_true hb];rfl
 ·rw [decide_eq_false hb,cond_false]
  have hc:eR x0:=⟨by omega,fun v hv=>g0 v hv⟩
  obtain ⟨k,⟨n,rows⟩,e1,k1⟩:=fP hM hc
  have o1:dW rows:=oC k1
  rw [e1,bs]
  dsimp only
  rw [f8 hN o1,bs,fU hN o1,bs,bne_self_eq_false,cond_false,f5 hM o1,bs]
  unfold fx iy
  cases hv:bm n rows with
  | false =>
   simp only [cond_false,Bool.and_false]
   rw [fb,bs,if_neg (by decide),beq_self_eq_true]
  | true =>
   simp only [cond_true,Bool.and_true]
   obtain ⟨h0,h1,ha⟩:=jW hv
   have p1:okI (cV n.toNat)∧okN (a7 n.toNat rows):=by
    have:=mh (n:=n) (rows:=rows);unfold fx at this;rw [hv,cond_true] at this;exact this
   obtain ⟨p2,p3⟩:=p1
   have a1:=jY hv
   obtain ⟨_,_,_,q1⟩:=dR hv
   have r1:∀ r∈rows,r.length=n.toNat:=fun r hr=>by
    obtain ⟨i,hi,rfl⟩:=List.getElem_of_mem hr
    have:=(q1 i hi).1;omega
   have v1:∀ r∈rows,aM r=true:=fun r hr=>by
    obtain ⟨i,hi,rfl⟩:=List.getElem_of_mem hr
    exact (q1 i hi).2.1
   have l1:=mR (n:=n.toNat) (by omega) ha
   have l2:rows.length*n.toNat≤7*5:=Nat.mul_le_mul k1.2.1 (by omega)
   have hp:eY (cV n.toNat)=true:=by
    unfold eY
    rw [dJ,decide_eq_true (by omega),n0];rfl
   have hvf:=ly a1 r1 v1 (by omega) hp (dJ _)
   by_cases hne:rows=[]
   ·subst hne
    have ef:a7 n.toNat []=[([],[]),([],[])]:=rfl
    rw [ef] at hvf ⊢
    have ez:(if inR k 1 4=true then iM k [] else aQ k)=aQ k:=by split <;> rfl
    have hz:=du (N:=N) (k:=k) (n:=n) (c:=aQ k) (rows:=[]) (sums:=[]) (Nat.zero_le _) 0 0 N (aQ k) rfl (by omega)
    rw [im hN p2 hvf,bs,fT hN p2 hvf,bs,ez,bne_self_eq_false,cond_false]
    dsimp only
    rw [bne_self_eq_false,cond_false,bv,bs]
    rw [show ((0:Nat):Int)=0 from rfl] at hz
    rw [hz,bs,lpB]
    dsimp only
    rw [bF,bs]
    cases inR k 1 4 <;> cases (n == 0) <;> simp
   ·have F:=mw hne a1 r1 v1
    have hnl:(a7 n.toNat rows).length≤4000:=by omega
    rw [gm hN F (dJ _) (by omega) hnl p3 p2 hvf,bs,fa hN F (dJ _) (by omega) hnl p3 p2 hvf,bs]
    cases hk:inR k 1 4 with
    | false =>
     have hz:=du (N:=N) (k:=k) (n:=n) (c:=aQ k) (rows:=rows) (sums:=[]) (Nat.zero_le _) 0 0 N (aQ k) rfl (by omega)
     rw [cond_false,cond_false,if_neg (by decide),bne_self_eq_false,cond_false]
     dsimp only
     rw [bne_self_eq_false,cond_false,bv,bs]
     rw [show ((0:Nat):Int)=0 from rfl] at hz
     rw [hz,bs,lpB]
     dsimp only
     rw [bF,bs,hk];rfl
    | true =>
     rw [cond_true,cond_true,if_pos rfl,lQ hk r1,bne_self_eq_false,cond_false]
     cases hz0:(((cV n.toNat).length:Int) == 0) with
     | true =>
      have hn0:n=0:=by
       have:((cV n.toNat).length:Int)=0:=by simpa using hz0
       rw [dJ] at this;omega
      subst hn0
      have hz:=du (N:=N) (k:=k) (n:=0) (c:=dQ k (cV (0:Int).toNat) rows) (rows:=rows) (sums:=[]) (Nat.zero_le _) 0 0 N (aQ k) rfl (by omega)
      rw [cond_true]
      dsimp only
      rw [bne_self_eq_false,cond_false,bv,bs]
      rw [show ((0:Nat):Int)=0 from rfl] at hz
      rw [hz,bs,lpB]
      dsimp only
      rw [bF,bs,hk];rfl
     | false =>
      have hn1:1≤n.toNat:=by
       have:¬ ((cV n.toNat).length:Int)=0:=by simpa using hz0
       rw [dJ] at this;omega
      have hw:=F.wf
      have hr:=F.root
      have hw1:=hw.1
      have hl1:1≤(a7 n.toNat rows).length-1:=by
       by_cases e:(a7 n.toNat rows).length=1
       ·rw [e,show ((1:Nat):Int)-1=0 from rfl,eV hw] at hr;omega
       ·omega
      have hil:(a7 n.toNat rows).length-1<(a7 n.toNat rows).length:=by omega
      have er:(((a7 n.toNat rows).length:Int)-1)=(((a7 n.toNat rows).length-1:Nat):Int):=by omega
      rw [er] at hr
      have hok:=F.all _ hl1 hil
      have hgs:=kL hk F (dJ _) hl1 hil hr _ (Nat.le_refl _)
      rw [kq hw hl1 hil hok,← er,F.agg (dJ _)] at hgs
      have hgl:(fu k (cV n.toNat) (a7 n.toNat rows) ((a7 n.toNat rows).length-1) ((a7 n.toNat rows).getD ((a7 n.toNat rows).length-1) ([],[])).1.length).length=((a7 n.toNat rows).getD ((a7 n.toNat rows).length-1) ([],[])).1.length:=by simp [fu]
      have hkn:=(ip p3 hil).1.1
      have hx:(a7 n.toNat rows)[(a7 n.toNat rows).length-1]=(a7 n.toNat rows).getD ((a7 n.toNat rows).length-1) ([],[]):=by simp [hil]
      rw [hx] at hkn
      have hz:=du (N:=N) (k:=k) (n:=n) (c:=dQ k (cV n.toNat) rows) (rows:=rows) (sums:=fu k (cV n.toNat) (a7 n.toNat rows) ((a7 n.toNat rows).length-1) ((a7 n.toNat rows).getD ((a7 n.toNat rows).length-1) ([],[])).1.length) (by omega) _ 0 N (aQ k) (Nat.zero_add _) (by omega)
      rw [cond_false]
      dsimp only
      rw [hgl,bne_self_eq_false,cond_false,bv,bs]
      rw [show ((0:Nat):Int)=0 from rfl,List.drop_zero] at hz
      rw [hok.lens] at hz ⊢
      rw [hz,bs,lpB]
      dsimp only
      rw [bF,bs,hk,cond_true,hgs,beq_self_eq_true]
      cases (n == 0) <;> rfl
end Go.Proofs.Ytdapplkijobjoaa
namespace Go.Proofs.Ytdapplkijobjoaa
open Go.RowKit
section
variable {P:Program} {n:Nat} {Q Q':Exit→Env→World→Prop} {K:Env→World→Prop} {KQ:Env→Prop} {e:Env} {w w0:World} {c y:Code} {x:Exit} {ops:Array Oper} {rest:List Oper}
variable {d:Nat} {op:Op} {ty:TypeId} {pos:String} {af:Array Edge} {o z1 z2 z3:Operand} {v:Value} {q1:Oper}
theorem dt {p:Prop} [Decidable p] (h:decide p=true):p:=of_decide_eq_true h
theorem sg (h:∀ Q':Exit→Env→World→Prop,(∀ x e w,thn (fun e w=>CW P n y Q e w) Q x e w→Q' x e w)→CW P n c Q' e w):CW P n (.seq c y) Q e w:=mY (jq h)
theorem sR {id:Nat} {l:List Oper} (h:∀ Q':Exit→Env→World→Prop,(∀ x e w,thn (fun e w=>CW P n y Q e w) Q x e w→Q' x e w)→EL P n l.toArray (fun e w=>Q' .normal e w) l e w):CW P n (.seq (.region id l.toArray false) y) Q e w:=mY (jq fun Q' q=>aj (h Q' q))
theorem gn (h:∀ Q':Exit→Env→World→Prop,(∀ x e w,Q x e w→Q' x e w)→CW P n c Q' e w):CW P n c Q e w:=jq h
theorem bg {i:Nat} (h:∀ Q':Exit→Env→World→Prop,(∀ x e w,inb i Q x e w→Q' x e w)→CW P n c Q' e w):CW P n (.block i c) Q e w:=nN (jq h)
theorem tn (h:∀ x e w,thn K Q x e w→Q' x e w) (k:K e w):Q' .normal e w:=h _ _ _ k
theorem tr (h:∀ x e w,thn K Q x e w→Q' x e w) (k:Q .ret e w):Q' .ret e w:=h _ _ _ k
theorem tx {i:Nat} (h:∀ x e w,thn K Q x e w→Q' x e w) (k:Q (.exit i) e w):Q' (.exit i) e w:=h _ _ _ k
theorem bn {i:Nat} (h:∀ x e w,inb i Q x e w→Q' x e w) (k:Q .normal e w):Q' .normal e w:=h _ _ _ k
theorem br {i:Nat} (h:∀ x e w,inb i Q x e w→Q' x e w) (k:Q .ret e w):Q' .ret e w:=h _ _ _ k
theorem bS {i:Nat} (h:∀ x e w,inb i Q x e w→Q' x e w) (k:Q .normal e w):Q' (.exit i) e w:=h _ _ _ (pT k)
theorem en (h:∀ x e w,thn K Q x e w→Q' x e w) (k:K e w):EL P n ops (fun e w=>Q' .normal e w) [] e w:=ak (h _ _ _ k)
theorem sn (h:∀ x e w,thn K Q x e w→Q' x e w) (k:K e w):CW P n .skip Q' e w:=aV (h _ _ _ k)
theorem pa (v:Value) (hK:EL P n ops K rest (upd e d v) w) (hx:ev e o=v:=by exact rfl) (hd:d<n:=by decide):EL P n ops K (⟨some d,.assign o,ty,pos,af,none⟩ :: rest) e w:=iV (dh hx) hd hK
theorem pm (v:Value) (hK:EL P n ops K rest (upd e d v) w) (hx:ev e o=v:=by exact rfl) (hd:d<n:=by decide):EL P n ops K (⟨some d,.move o,ty,pos,af,none⟩ :: rest) e w:=iV (aI hx) hd hK
theorem pM (v:Value) (hx:ev e o=v) (hK:EL P n ops K rest (upd e d v) w) (hd:d<n:=by decide):EL P n ops K (⟨some d,.move o,ty,pos,af,none⟩ :: rest) e w:=iV (aI hx) hd hK
theorem pe (v:Value) (hp:PV P ⟨some d,op,ty,pos,af,none⟩ e w v) (hK:EL P n ops K rest (upd e d v) w) (hd:d<n:=by decide):EL P n ops K (⟨some d,op,ty,pos,af,none⟩ :: rest) e w:=iV hp hd hK
theorem qe (v:Value) (hp:PV P ⟨some d,op,ty,pos,af,none⟩ e w v) (hK:QL P n ops w KQ rest (upd e d v)) (hd:d<n:=by decide):QL P n ops w KQ (⟨some d,op,ty,pos,af,none⟩ :: rest) e:=kC hp hd hK
theorem qm (v:Value) (hK:QL P n ops w KQ rest (upd e d v)) (hx:ev e o=v:=by exact rfl) (hd:d<n:=by decide):QL P n ops w KQ (⟨some d,.move o,ty,pos,af,none⟩ :: rest) e:=kC (aI hx) hd hK
theorem qM (v:Value) (hx:ev e o=v) (hK:QL P n ops w KQ rest (upd e d v)) (hd:d<n:=by decide):QL P n ops w KQ (⟨some d,.move o,ty,pos,af,none⟩ :: rest) e:=kC (aI hx) hd hK
theorem eo {j:Nat} {b b' c:Bool} (hc:c=b) (hK:EL P n ops K rest (upd e d undef) w) (h:yld ops e j=some c:=by exact rfl) (hb:(b == b')=false:=by exact rfl) (hd:d<n:=by decide):EL P n ops K (⟨some d,op,ty,pos,af,some (j,b')⟩ :: rest) e w:=o9 h hc hb hd hK
theorem qo {j:Nat} {b b' c:Bool} (hc:c=b) (hK:QL P n ops w KQ rest (upd e d undef)) (h:yld ops e j=some c:=by exact rfl) (hb:(b == b')=false:=by exact rfl) (hd:d<n:=by decide):QL P n ops w KQ (⟨some d,op,ty,pos,af,some (j,b')⟩ :: rest) e:=o3 h hc hb hd hK
theorem ei {j:Nat} {b c:Bool} {dst:Option Nat} (hc:c=b) (hK:EL P n ops K (⟨dst,op,ty,pos,af,none⟩ :: rest) e w) (h:yld ops e j=some c:=by exact rfl):EL P n ops K (⟨dst,op,ty,pos,af,some (j,b)⟩ :: rest) e w:=pW h hc hK
theorem qi {j:Nat} {b c:Bool} {dst:Option Nat} (hc:c=b) (hK:QL P n ops w KQ (⟨dst,op,ty,pos,af,none⟩ :: rest) e) (h:yld ops e j=some c:=by exact rfl):QL P n ops w KQ (⟨dst,op,ty,pos,af,some (j,b)⟩ :: rest) e:=qa h hc hK
theorem ct {b:Bool} (hb:b=true) (h:CW P n c Q e w) (hc:ev e o=.bool b:=by exact rfl):CW P n (.cond o c y) Q e w:=mP hc hb h
theorem cf {b:Bool} (hb:b=false) (h:CW P n y Q e w) (hc:ev e o=.bool b:=by exact rfl):CW P n (.cond o c y) Q e w:=m6 hc hb h
theorem rB {a b:Bool} {Γ:List Asn} (h:some a=some b) (hS:Sat w0 w Γ):Ending.returned (.bool a)=.returned (.bool b)∧Ext w0 w:=⟨by rw [Option.some.inj h],hS.below⟩
theorem rI {a b:Int} {Γ:List Asn} (h:some a=some b) (hS:Sat w0 w Γ):Ending.returned (.int .i64 a)=.returned (.int .i64 b)∧Ext w0 w:=⟨by rw [Option.some.inj h],hS.below⟩
abbrev i_ (x:Int):Value:=.int .i64 x
abbrev n_:Value:=.slice none 0 0
theorem ec0 {f:FuncId} {args:Array Operand} {tys:Array TypeId} {vals:Array Value} {Γ:List Asn} (hg:Goes P f) (hc:Calls P f vals w fun x w'=>x=.returned v∧Ext w w') (hv:(args.toList.map (ev e)).toArray=vals) (S:Sat w0 w Γ)
  (hK:∀ w',Ext w w'→Sat w0 w' Γ→EL P n ops K rest (upd e d v) w') (hd:d<n:=by decide):EL P n ops K (⟨some d,.call ⟨.value (.func f),args,tys⟩,ty,pos,af,none⟩ :: rest) e w :=
 ba hg hc hv hd (by rintro _ w' ⟨rfl,hx⟩;exact ⟨_,rfl,hK w' hx (S.ext hx)⟩)
theorem ec1 {f:FuncId} {args:Array Operand} {tys:Array TypeId} {vals:Array Value} {Γ:List Asn} {G:Value→Value} {A:Value→Asn} (hg:Goes P f) (hc:Calls P f vals w fun x w'=>∃ v,x=.returned (G v)∧Sat w w' [A v]) (hv:(args.toList.map (ev e)).toArray=vals) (S:Sat w0 w Γ)
  (hK:∀ w' v,Ext w w'→Sat w0 w' (A v :: Γ)→EL P n ops K rest (upd e d (G v)) w') (hd:d<n:=by decide):EL P n ops K (⟨some d,.call ⟨.value (.func f),args,tys⟩,ty,pos,af,none⟩ :: rest) e w :=
 ba hg hc hv hd (by rintro _ w' ⟨v,rfl,S'⟩;exact ⟨_,rfl,hK w' v S'.below (S.call1 S')⟩)
theorem aO {X:List Nat} {C:World→Prop} (i:Nat) {f:Nat} {L:Array Bool} (ho:ops[i]? = some q1)
  (h:EL P n ops (fun e' w'=>(X.contains i=true→C w')∧AL P n ops X C K f (L.setIfInBounds i true) e' w') [q1] e w) (hr:Region.ready .any ops L=[i]:=by kernel_rfl):AL P n ops X C K (f+1) L e w:=pu i hr ho h
theorem aP {X:List Nat} {C:World→Prop} (v:Value) (i:Nat) {f:Nat} {L:Array Bool} (hi:ops[i]? = some q1) (hdst:q1.dst=some d) (hC:C w)
  (hy:SV P n ops C q1 e v) (hK:AL P n ops X C K f (L.setIfInBounds i true) (upd e d v) w) (hsel:hH ops=true:=by kernel_rfl) (hdn:d<n:=by decide) (hf:hQ ops X L i q1=true:=by kernel_rfl) (hr:(Region.ready .any ops L).contains i=true:=by kernel_rfl):AL P n ops X C K (f+1) L e w:=nq hsel i hi hdst hdn hC hf hr hy hK
theorem ca {α β:Type} {f:α→β} {l:List α} {m:List β} (h:l.map f=m):(l.map f).toArray=m.toArray:=congrArg List.toArray h
theorem Sat.t1 {a0 a1:Asn} {Γ:List Asn} (h:Sat w0 w (a0 :: a1 :: Γ)):Sat w0 w (a1 :: a0 :: Γ):=h.top 1 rfl
theorem Sat.t2 {a0 a1 a2:Asn} {Γ:List Asn} (h:Sat w0 w (a0 :: a1 :: a2 :: Γ)):Sat w0 w (a2 :: a0 :: a1 :: Γ):=h.top 2 rfl
theorem Sat.t3 {a0 a1 a2 a3:Asn} {Γ:List Asn} (h:Sat w0 w (a0 :: a1 :: a2 :: a3 :: Γ)):Sat w0 w (a3 :: a0 :: a1 :: a2 :: Γ):=h.top 3 rfl
theorem Sat.t4 {a0 a1 a2 a3 a4:Asn} {Γ:List Asn} (h:Sat w0 w (a0 :: a1 :: a2 :: a3 :: a4 :: Γ)):Sat w0 w (a4 :: a0 :: a1 :: a2 :: a3 :: Γ):=h.top 4 rfl
theorem Sat.t5 {a0 a1 a2 a3 a4 a5:Asn} {Γ:List Asn} (h:Sat w0 w (a0 :: a1 :: a2 :: a3 :: a4 :: a5 :: Γ)):Sat w0 w (a5 :: a0 :: a1 :: a2 :: a3 :: a4 :: Γ):=h.top 5 rfl
theorem Sat.t6 {a0 a1 a2 a3 a4 a5 a6:Asn} {Γ:List Asn} (h:Sat w0 w (a0 :: a1 :: a2 :: a3 :: a4 :: a5 :: a6 :: Γ)):Sat w0 w (a6 :: a0 :: a1 :: a2 :: a3 :: a4 :: a5 :: Γ):=h.top 6 rfl
theorem Sat.r0 {a0:Asn} {Γ:List Asn} (h:Sat w0 w (a0 :: Γ)):Sat w0 w (Γ):=h.rem 0 rfl
theorem Sat.r1 {a0 a1:Asn} {Γ:List Asn} (h:Sat w0 w (a0 :: a1 :: Γ)):Sat w0 w (a0 :: Γ):=h.rem 1 rfl
theorem Sat.r2 {a0 a1 a2:Asn} {Γ:List Asn} (h:Sat w0 w (a0 :: a1 :: a2 :: Γ)):Sat w0 w (a0 :: a1 :: Γ):=h.rem 2 rfl
theorem Sat.r3 {a0 a1 a2 a3:Asn} {Γ:List Asn} (h:Sat w0 w (a0 :: a1 :: a2 :: a3 :: Γ)):Sat w0 w (a0 :: a1 :: a2 :: Γ):=h.rem 3 rfl
theorem Sat.r4 {a0 a1 a2 a3 a4:Asn} {Γ:List Asn} (h:Sat w0 w (a0 :: a1 :: a2 :: a3 :: a4 :: Γ)):Sat w0 w (a0 :: a1 :: a2 :: a3 :: Γ):=h.rem 4 rfl
theorem Sat.r5 {a0 a1 a2 a3 a4 a5:Asn} {Γ:List Asn} (h:Sat w0 w (a0 :: a1 :: a2 :: a3 :: a4 :: a5 :: Γ)):Sat w0 w (a0 :: a1 :: a2 :: a3 :: a4 :: Γ):=h.rem 5 rfl
theorem Sat.r6 {a0 a1 a2 a3 a4 a5 a6:Asn} {Γ:List Asn} (h:Sat w0 w (a0 :: a1 :: a2 :: a3 :: a4 :: a5 :: a6 :: Γ)):Sat w0 w (a0 :: a1 :: a2 :: a3 :: a4 :: a5 :: Γ):=h.rem 6 rfl
end
end Go.Proofs.Ytdapplkijobjoaa
namespace Go.Proofs.Ytdapplkijobjoaa
open Go.RowKit
abbrev R0_:=ar bP 3
abbrev R3_:=ar R0_ 30
abbrev R6_:=od R0_ R0_
abbrev R9_:=ar R6_ 74
abbrev T0_:=List Int
abbrev T2_:=List T0_
abbrev T4_:=List Int × List Int
abbrev T6_:=Int × List T0_
abbrev T7_:=List T4_
abbrev gI:=List Int × List T4_
end Go.Proofs.Ytdapplkijobjoaa
namespace Go.Proofs.Ytdapplkijobjoaa
open Go.RowKit
set_option maxRecDepth 100000
set_option maxHeartbeats 4000000
theorem lw {w0:World} {u0:Value} {a0:List Int} (ha0:(ar u8R 5).rd w0 [u0] a0) {N:Nat} {r:Bool} (F:gX N a0=some r): Calls Try.prog 6 #[u0] w0 fun e w'=>e=.returned (.bool r)∧Ext w0 w' := by
 unfold gX at F;refine aC Try.func6 rfl rfl (dt rfl) ?_;have S:=Sat.start w0;refine sR fun _ J=>?_;refine pa (.bool false) (en J ?_);refine sR fun _ U=>?_;refine pm u0 (pe (i_ (a0.length:Int)) (an rfl ha0) (pe (.bool (decide (1048576 < (a0.length:Int)))) (bM rfl rfl) (pa (.bool (decide (1048576 < (a0.length:Int)))) (en U (ah (aw rfl rfl ?_))))));exact rB F S
theorem kA {w0:World} {u0:Value} {a0:List Int} (ha0:(ar u8R 5).rd w0 [u0] a0) {N:Nat} {r:Int × Int} (F:fd N a0=some r): Calls Try.prog 34 #[u0] w0 fun e w'=>∃ (q0:Nat),e=.returned (.pointer (some ⟨q0,0,none⟩))∧Sat w0 w' [Box q0 101 [u0,i_ r.1,i_ r.2]] := by
 unfold fd at F;refine aC Try.func34 rfl rfl (dt rfl) ?_;have S:=Sat.start w0;refine sR fun _ qP=>?_;refine pa (.pointer none) (en qP ?_);refine sR fun _ qQ=>?_;refine pm u0 (pe (i_ (a0.length:Int)) (an rfl ha0) ?_);obtain ⟨qx,qG,F⟩:=ob F;refine pe (i_ qx) (aF rfl rfl qG) (pa (i_ qx) (en qQ ?_));refine sg fun _ qC=>?_;refine sR fun _ qR=>?_;refine pa (i_ 0) (en qR ?_);refine bg fun _ qD=>?_;obtain ⟨qS,hL,qB⟩:=ob F;refine aU (fun k e w=>∃ (J:Int),∃ (U:Int),e 0=u0∧e 3=i_ J∧e 4=i_ U∧Sat w0 w []∧de N k a0 J U=some qS) N ?_ ?_ ?_
 ·exact ⟨qx,0,rfl,rfl,rfl,S,hL⟩
 ·rintro e w ⟨_,_,_,_,_,_,hz⟩; exact nomatch (show none=some _ from hz)
 rintro k q9 ra ⟨J,U,Z,qq,qp,S,F⟩;refine gn fun _ qy=>?_;refine sg fun _ qz=>?_;refine sR fun _ qE=>?_;refine pM (i_ U) qp (pM u0 Z (pe (i_ (a0.length:Int)) (an rfl ha0) (pe (.bool (decide (U < (a0.length:Int)))) (aY rfl rfl) (pm (.bool (decide (U < (a0.length:Int)))) ?_))));rcases oif F with ⟨Y,F⟩|⟨Y,F⟩
 ·refine ei Y (pM (i_ U) qp (ei Y (pe (.bool (decide (U < 4000))) (aY rfl rfl) (pe (.bool (decide (U < 4000))) (au rfl Y rfl) (en qE ?_)))));rcases oif F with ⟨qr,F⟩|⟨qr,F⟩
  ·refine ct qr (sn qz ?_);refine sg fun _ qT=>?_;refine bg fun _ qU=>?_;refine aj (pM (i_ J) qq ?_);obtain ⟨qV,qH,F⟩:=ob F;refine pe (i_ qV) (ee rfl rfl qH) (pM u0 Z (pM (i_ U) qp ?_));obtain ⟨qF,qI,F⟩:=ob F;refine aD (wA:=w0) rfl ha0 rfl (dt rfl) rfl qI (dt rfl) ?_;intro rb q6 rc qJ qK;obtain rfl:=qJ;refine pe (.int .u8 qF) (ac rfl ((ai S.below qK) 0 _ rfl)) (pe (i_ (IntKind.i64.wrap qF)) (lg Try.underlying5 Try.underlying3 rfl) ?_);obtain ⟨qW,qL,F⟩:=ob F;refine pe (i_ qW) (aF rfl rfl qL) ?_;obtain ⟨qu,qN,F⟩:=ob F;refine pe (i_ qu) (aF rfl rfl qN) (pe (i_ (cU qu 1073741823)) (lc rfl rfl) (pa (i_ (cU qu 1073741823)) (ak (bn qU (tn qT (aj (pM (i_ U) qp ?_)))))));obtain ⟨qA,qO,F⟩:=ob F;refine pe (i_ qA) (aF rfl rfl qO) (pa (i_ qA) (en qy ?_));replace S:=S.keep 0;exact ⟨(cU qu 1073741823),qA,Z,rfl,rfl,S,F⟩
  refine cf qr (aR (tx qz (tx qy ?_)));replace F:=exB F qB;refine bS qD (tn qC ?_);refine sR fun _ qX=>?_;refine pM u0 Z (pM (i_ J) qq (pe (.agg #[u0,i_ 0,i_ J]) (cY [(0,[u0]),(2,[i_ J])] [u0,i_ 0,i_ J] (f4 (aJ rfl (oc ha0)) (f4 rfl rfl)) rfl) ?_));refine cR [u0,i_ 0,i_ J] rfl S (dt rfl) ?_;intro qY qv S q7;refine pa (.pointer (some ⟨qv,0,none⟩)) (en qX (ah (aw rfl rfl ?_)));have hr:=Option.some.inj F;exact ⟨qv,congrArg (fun (r:Int × Int)=>Ending.returned (.pointer (some ⟨qv,0,none⟩))) hr,Eq.mp (congrArg (fun (r:Int × Int)=>Sat w0 qY [Box qv 101 [u0,i_ r.1,i_ r.2]]) hr) (S.keep 1)⟩
 refine eo Y (eo Y (pe (.bool false) (az rfl Y rfl) (en qE (cf rfl (aR (tx qz (tx qy ?_)))))));replace F:=exB F qB;refine bS qD (tn qC ?_);refine sR fun _ qZ=>?_;refine pM u0 Z (pM (i_ J) qq (pe (.agg #[u0,i_ 0,i_ J]) (cY [(0,[u0]),(2,[i_ J])] [u0,i_ 0,i_ J] (f4 (aJ rfl (oc ha0)) (f4 rfl rfl)) rfl) ?_));refine cR [u0,i_ 0,i_ J] rfl S (dt rfl) ?_;intro q5 qw S q8;refine pa (.pointer (some ⟨qw,0,none⟩)) (en qZ (ah (aw rfl rfl ?_)));have hr:=Option.some.inj F;exact ⟨qw,congrArg (fun (r:Int × Int)=>Ending.returned (.pointer (some ⟨qw,0,none⟩))) hr,Eq.mp (congrArg (fun (r:Int × Int)=>Sat w0 q5 [Box qw 101 [u0,i_ r.1,i_ r.2]]) hr) (S.keep 1)⟩
theorem dN {w0:World} {Z:World} {G0:List Asn} {b0:Nat} {u0:Value} {a0:List Int} {a1:Int} {a2:Int} (ha0:(ar u8R 5).rd Z [u0] a0) (S:Sat Z w0 (Box b0 101 [u0,i_ a1,i_ a2] :: G0)) {N:Nat} {r:Int × Int × Int} (F:c4 N a0 a1 a2=some r): Calls Try.prog 108 #[.pointer (some ⟨b0,0,none⟩)] w0 fun e w'=>e=.returned (i_ r.1)∧Sat Z w' (Box b0 101 [u0,i_ r.2.1,i_ r.2.2] :: G0) := by
 unfold c4 at F;refine aC Try.func108 rfl rfl (dt rfl) ?_;refine sR fun _ qC=>?_;refine pa (i_ 0) (en qC ?_);refine sR fun _ qD=>?_;refine pm (.pointer (some ⟨b0,0,none⟩)) (pm (.pointer (some ⟨b0,0,none⟩)) (pe (.pointer (some ⟨b0,0,none⟩)) (bE rfl) (pe (.pointer (some ⟨b0,0 + 2,none⟩)) (ae rfl) (pe (i_ a2) (ac rfl ((S.boxAt 0 rfl) 2 _ rfl)) (pe (i_ (IntKind.i64.wrap (a2 * 6364136223846793005))) (om rfl rfl) (pe (i_ (IntKind.i64.wrap ((IntKind.i64.wrap (a2 * 6364136223846793005)) + 1442695040888963407))) (kd rfl rfl) (pe (.pointer (some ⟨b0,0,none⟩)) (bE rfl) (pe (.pointer (some ⟨b0,0 + 2,none⟩)) (ae rfl) ?_))))))));refine aB (S.top 0 rfl) rfl [i_ (IntKind.i64.wrap ((IntKind.i64.wrap (a2 * 6364136223846793005)) + 1442695040888963407))] rfl rfl (dt rfl) (all_cons rfl rfl) ?_;intro qE S;replace S:Sat Z qE (Box b0 101 [u0,i_ a1,i_ (IntKind.i64.wrap ((IntKind.i64.wrap (a2 * 6364136223846793005)) + 1442695040888963407))] :: G0):=S;refine en qD ?_;refine sg fun _ qF=>?_;refine cd (by kernel_rfl) (by kernel_rfl) ?_;refine qm (.pointer (some ⟨b0,0,none⟩)) (qe (.pointer (some ⟨b0,0,none⟩)) (bE rfl) (qe (.pointer (some ⟨b0,0 + 2,none⟩)) (ae rfl) (qe (i_ (IntKind.i64.wrap ((IntKind.i64.wrap (a2 * 6364136223846793005)) + 1442695040888963407))) (ac rfl ((S.boxAt 0 rfl) 2 _ rfl)) ?_)));obtain ⟨J,qu,F⟩:=ob F;refine qe (i_ J) (mM rfl rfl qu) (qm (.pointer (some ⟨b0,0,none⟩)) (qe (.pointer (some ⟨b0,0,none⟩)) (bE rfl) (qe (.pointer (some ⟨b0,0 + 2,none⟩)) (ae rfl) (qe (i_ (IntKind.i64.wrap ((IntKind.i64.wrap (a2 * 6364136223846793005)) + 1442695040888963407))) (ac rfl ((S.boxAt 0 rfl) 2 _ rfl)) ?_))));obtain ⟨U,qv,F⟩:=ob F;refine qe (i_ U) (mM rfl rfl qv) (qe (i_ (eb J U)) (ph rfl rfl) (qe (i_ (cU (eb J U) 255)) (lc rfl rfl) (qe (i_ (cU (eb J U) 255)) (dh rfl) (bQ ?_))));intro qN qw;replace S:=S.ext qw;refine tn qF ?_;refine sg fun _ qq=>?_;refine sg fun _ qG=>?_;refine cd (by kernel_rfl) (by kernel_rfl) ?_;refine qm (.pointer (some ⟨b0,0,none⟩)) (qe (.pointer (some ⟨b0,0,none⟩)) (bE rfl) (qe (.pointer (some ⟨b0,0 + 1,none⟩)) (ae rfl) (qe (i_ a1) (ac rfl ((S.boxAt 0 rfl) 1 _ rfl)) (qm (.pointer (some ⟨b0,0,none⟩)) (qe (.pointer (some ⟨b0,0,none⟩)) (bE rfl) (qe (.pointer (some ⟨b0,0 + 0,none⟩)) (ae rfl) (qe u0 (ac rfl ((S.boxAt 0 rfl) 0 _ rfl)) (qe (i_ (a0.length:Int)) (an rfl ha0) (qe (.bool (decide (a1 < (a0.length:Int)))) (aY rfl rfl) (bQ ?_))))))))));intro qH qx;replace S:=S.ext qx;refine tn qG ?_;rcases oif F with ⟨qp,F⟩|⟨qp,F⟩
 ·refine ct qp ?_;refine sg fun _ qI=>?_;refine cd (by kernel_rfl) (by kernel_rfl) ?_;refine qm (i_ (cU (eb J U) 255)) (qm (.pointer (some ⟨b0,0,none⟩)) (qe (.pointer (some ⟨b0,0,none⟩)) (bE rfl) (qe (.pointer (some ⟨b0,0 + 0,none⟩)) (ae rfl) (qe u0 (ac rfl ((S.boxAt 0 rfl) 0 _ rfl)) (qm (.pointer (some ⟨b0,0,none⟩)) (qe (.pointer (some ⟨b0,0,none⟩)) (bE rfl) (qe (.pointer (some ⟨b0,0 + 1,none⟩)) (ae rfl) (qe (i_ a1) (ac rfl ((S.boxAt 0 rfl) 1 _ rfl)) ?_))))))));obtain ⟨Y,qy,F⟩:=ob F;refine aN (wA:=Z) rfl ha0 rfl (dt rfl) rfl qy (dt rfl) ?_;intro qO qL qP qz qA;obtain rfl:=qz;refine qe (.int .u8 Y) (ac rfl ((ai S.below qA) 0 _ rfl)) (qe (i_ (IntKind.i64.wrap Y)) (lg Try.underlying5 Try.underlying3 rfl) (qe (i_ (IntKind.i64.wrap ((cU (eb J U) 255) + (IntKind.i64.wrap Y)))) (kd rfl rfl) (qe (i_ (cU (IntKind.i64.wrap ((cU (eb J U) 255) + (IntKind.i64.wrap Y))) 255)) (lc rfl rfl) (qe (i_ (cU (IntKind.i64.wrap ((cU (eb J U) 255) + (IntKind.i64.wrap Y))) 255)) (dh rfl) (bQ ?_)))));intro qQ qB;replace S:=S.ext qB;refine tn qI (aj (pm (.pointer (some ⟨b0,0,none⟩)) (pm (.pointer (some ⟨b0,0,none⟩)) (pe (.pointer (some ⟨b0,0,none⟩)) (bE rfl) (pe (.pointer (some ⟨b0,0 + 1,none⟩)) (ae rfl) (pe (i_ a1) (ac rfl ((S.boxAt 0 rfl) 1 _ rfl)) (pe (i_ (IntKind.i64.wrap (a1 + 1))) (kd rfl rfl) (pe (.pointer (some ⟨b0,0,none⟩)) (bE rfl) (pe (.pointer (some ⟨b0,0 + 1,none⟩)) (ae rfl) ?_)))))))));refine aB (S.top 0 rfl) rfl [i_ (IntKind.i64.wrap (a1 + 1))] rfl rfl (dt rfl) (all_cons rfl rfl) ?_;intro qr S;replace S:Sat Z qr (Box b0 101 [u0,i_ (IntKind.i64.wrap (a1 + 1)),i_ (IntKind.i64.wrap ((IntKind.i64.wrap (a2 * 6364136223846793005)) + 1442695040888963407))] :: G0):=S;refine en qq ?_;refine sR fun _ qJ=>?_;refine pm (i_ (cU (IntKind.i64.wrap ((cU (eb J U) 255) + (IntKind.i64.wrap Y))) 255)) (pa (i_ (cU (IntKind.i64.wrap ((cU (eb J U) 255) + (IntKind.i64.wrap Y))) 255)) (en qJ (ah (aw rfl rfl ?_))));have hr:=Option.some.inj F;exact ⟨(congrArg (fun (r:Int × Int × Int)=>Ending.returned (i_ r.1)) hr :),Eq.mp (congrArg (fun (r:Int × Int × Int)=>Sat Z qr (Box b0 101 [u0,i_ r.2.1,i_ r.2.2] :: G0)) hr :) S⟩
 refine cf qp (sn qq ?_);refine sR fun _ qK=>?_;refine pm (i_ (cU (eb J U) 255)) (pa (i_ (cU (eb J U) 255)) (en qK (ah (aw rfl rfl ?_))));have hr:=Option.some.inj F;exact ⟨(congrArg (fun (r:Int × Int × Int)=>Ending.returned (i_ r.1)) hr :),Eq.mp (congrArg (fun (r:Int × Int × Int)=>Sat Z qH (Box b0 101 [u0,i_ r.2.1,i_ r.2.2] :: G0)) hr :) S⟩
theorem dD {w0:World} {J:World} {G0:List Asn} {b0:Nat} {u0:Value} {a0:List Int} {a1:Int} {a2:Int} {a3:Int} (ha0:(ar u8R 5).rd J [u0] a0) (S:Sat J w0 (Box b0 101 [u0,i_ a1,i_ a2] :: G0)) {N:Nat} {r:Int × Int × Int} (F:cG N a0 a1 a2 a3=some r): Calls Try.prog 67 #[.pointer (some ⟨b0,0,none⟩),i_ a3] w0 fun e w'=>e=.returned (i_ r.1)∧Sat J w' (Box b0 101 [u0,i_ r.2.1,i_ r.2.2] :: G0) := by
 unfold cG at F;refine aC Try.func67 rfl rfl (dt rfl) ?_;refine sR fun _ qP=>?_;refine pa (i_ 0) (en qP ?_);refine sg fun _ qu=>?_;refine sR fun _ qQ=>?_;refine pm (i_ a3) (pe (.bool (decide (a3 ≤ 0))) (iq rfl rfl) (en qQ ?_));rcases oif F with ⟨U,F⟩|⟨U,F⟩
 ·refine ct U ?_;refine sR fun _ qR=>?_;refine pa (i_ 0) (en qR (ah (tr qu (aw rfl rfl ?_))));have hr:=Option.some.inj F;exact ⟨(congrArg (fun (r:Int × Int × Int)=>Ending.returned (i_ r.1)) hr :),Eq.mp (congrArg (fun (r:Int × Int × Int)=>Sat J w0 (Box b0 101 [u0,i_ r.2.1,i_ r.2.2] :: G0)) hr :) S⟩
 refine cf U (sn qu ?_);refine sg fun _ qv=>?_;refine sR fun _ qS=>?_;refine pm (i_ a3) (pe (.bool (decide (a3 ≤ 256))) (iq rfl rfl) (en qS ?_));rcases oif F with ⟨Y,F⟩|⟨Y,F⟩
 ·refine ct Y ?_;refine sR fun _ qT=>?_;refine pm (.pointer (some ⟨b0,0,none⟩)) ?_;obtain ⟨qw,qB,F⟩:=ob F;refine ba gK (dN ha0 S qB) (ca (ag rfl rfl)) (dt rfl) ?_;rintro _ qx ⟨rfl,S⟩;refine ⟨_,rfl,?_⟩;replace S:Sat J qx (Box b0 101 [u0,i_ qw.2.1,i_ qw.2.2] :: G0):=S;refine pm (i_ a3) ?_;obtain ⟨qy,qC,F⟩:=ob F;refine pe (i_ qy) (fE rfl rfl qC) (pa (i_ qy) (en qT (ah (tr qv (aw rfl rfl ?_)))));have hr:=Option.some.inj F;exact ⟨(congrArg (fun (r:Int × Int × Int)=>Ending.returned (i_ r.1)) hr :),Eq.mp (congrArg (fun (r:Int × Int × Int)=>Sat J qx (Box b0 101 [u0,i_ r.2.1,i_ r.2.2] :: G0)) hr :) S⟩
 refine cf Y (sn qv ?_);refine sR fun _ qU=>?_;refine pm (.pointer (some ⟨b0,0,none⟩)) ?_;obtain ⟨Z,qD,F⟩:=ob F;refine ba gK (dN ha0 S qD) (ca (ag rfl rfl)) (dt rfl) ?_;rintro _ qV ⟨rfl,S⟩;refine ⟨_,rfl,?_⟩;replace S:Sat J qV (Box b0 101 [u0,i_ Z.2.1,i_ Z.2.2] :: G0):=S;refine pa (i_ Z.1) (en qU ?_);refine sR fun _ qW=>?_;refine pm (.pointer (some ⟨b0,0,none⟩)) ?_;obtain ⟨qp,qE,F⟩:=ob F;refine ba gK (dN ha0 S qE) (ca (ag rfl rfl)) (dt rfl) ?_;rintro _ qX ⟨rfl,S⟩;refine ⟨_,rfl,?_⟩;replace S:Sat J qX (Box b0 101 [u0,i_ qp.2.1,i_ qp.2.2] :: G0):=S;refine pa (i_ qp.1) (en qW ?_);refine sR fun _ qY=>?_;refine pm (.pointer (some ⟨b0,0,none⟩)) ?_;obtain ⟨qq,qF,F⟩:=ob F;refine ba gK (dN ha0 S qF) (ca (ag rfl rfl)) (dt rfl) ?_;rintro _ qZ ⟨rfl,S⟩;refine ⟨_,rfl,?_⟩;replace S:Sat J qZ (Box b0 101 [u0,i_ qq.2.1,i_ qq.2.2] :: G0):=S;refine pa (i_ qq.1) (en qY ?_);refine sR fun _ q5=>?_;refine pm (.pointer (some ⟨b0,0,none⟩)) ?_;obtain ⟨qr,qG,F⟩:=ob F;refine ba gK (dN ha0 S qG) (ca (ag rfl rfl)) (dt rfl) ?_;rintro _ qz ⟨rfl,S⟩;refine ⟨_,rfl,?_⟩;replace S:Sat J qz (Box b0 101 [u0,i_ qr.2.1,i_ qr.2.2] :: G0):=S;refine pa (i_ qr.1) (en q5 ?_);refine sR fun _ q6=>?_;refine pm (i_ Z.1) ?_;obtain ⟨q7,qH,F⟩:=ob F;refine pe (i_ q7) (ee rfl rfl qH) (pm (i_ qp.1) ?_);obtain ⟨q8,qI,F⟩:=ob F;refine pe (i_ q8) (ee rfl rfl qI) ?_;obtain ⟨q9,qJ,F⟩:=ob F;refine pe (i_ q9) (aF rfl rfl qJ) (pm (i_ qq.1) ?_);obtain ⟨ra,qK,F⟩:=ob F;refine pe (i_ ra) (ee rfl rfl qK) ?_;obtain ⟨rb,qL,F⟩:=ob F;refine pe (i_ rb) (aF rfl rfl qL) (pm (i_ qr.1) ?_);obtain ⟨rc,qN,F⟩:=ob F;refine pe (i_ rc) (aF rfl rfl qN) (pm (i_ a3) ?_);obtain ⟨qA,qO,F⟩:=ob F;refine pe (i_ qA) (fE rfl rfl qO) (pa (i_ qA) (en q6 (ah (aw rfl rfl ?_))));have hr:=Option.some.inj F;exact ⟨(congrArg (fun (r:Int × Int × Int)=>Ending.returned (i_ r.1)) hr :),Eq.mp (congrArg (fun (r:Int × Int × Int)=>Sat J qz (Box b0 101 [u0,i_ r.2.1,i_ r.2.2] :: G0)) hr :) S⟩
theorem eF {w0:World} {U:World} {G0:List Asn} {b0:Nat} {u0:Value} {a0:List Int} {a1:Int} {a2:Int} {u3:Value} {a3:List Int} (ha0:(ar u8R 5).rd U [u0] a0) (S:Sat U w0 (Box b0 101 [u0,i_ a1,i_ a2] :: Own R0_ [u3] a3 :: G0)) {N:Nat} {r:Int × Int × Int} (F:cX N a0 a1 a2 a3=some r): Calls Try.prog 56 #[.pointer (some ⟨b0,0,none⟩),u3] w0 fun e w'=>e=.returned (i_ r.1)∧Sat U w' (Box b0 101 [u0,i_ r.2.1,i_ r.2.2] :: G0) := by
 unfold cX at F;refine aC Try.func56 rfl rfl (dt rfl) ?_;refine sR fun _ qu=>?_;refine pa (i_ 0) (en qu ?_);refine sR fun _ qv=>?_;refine pm u3 (pm (.pointer (some ⟨b0,0,none⟩)) (pm u3 (pe (i_ (a3.length:Int)) (an rfl (S.rdAt (R:=R0_) 1 rfl)) ?_)));obtain ⟨Y,qr,F⟩:=ob F;refine ba iI (dD ha0 S qr) (ca (ag rfl (ag rfl rfl))) (dt rfl) ?_;rintro _ qp ⟨rfl,S⟩;refine ⟨_,rfl,?_⟩;replace S:Sat U qp (Box b0 101 [u0,i_ Y.2.1,i_ Y.2.2] :: Own R0_ [u3] a3 :: G0):=S;obtain ⟨qq,J,F⟩:=ob F;obtain ⟨qw,qx,Z⟩:=cy 1 S rfl J;refine pe (.pointer (some ⟨qw,Y.1.toNat * 1,none⟩)) (b6 (v:=u3) rfl Z rfl J) (pe (i_ qq) (ac rfl (S.ownCell 1 rfl Z J)) (pa (i_ qq) (en qv (ah (aw rfl rfl ?_)))));have hr:=Option.some.inj F;replace S:=S.r1;exact ⟨(congrArg (fun (r:Int × Int × Int)=>Ending.returned (i_ r.1)) hr :),Eq.mp (congrArg (fun (r:Int × Int × Int)=>Sat U qp (Box b0 101 [u0,i_ r.2.1,i_ r.2.2] :: G0)) hr :) S⟩
theorem jK {w0:World} {J:World} {G0:List Asn} {b0:Nat} {u0:Value} {a0:List Int} {a1:Int} {a2:Int} (ha0:(ar u8R 5).rd J [u0] a0) (S:Sat J w0 (Box b0 101 [u0,i_ a1,i_ a2] :: G0)) {N:Nat} {r:Int × Int × Int} (F:fg N a0 a1 a2=some r): Calls Try.prog 35 #[.pointer (some ⟨b0,0,none⟩)] w0 fun e w'=>e=.returned (i_ r.1)∧Sat J w' (Box b0 101 [u0,i_ r.2.1,i_ r.2.2] :: G0) := by
 unfold fg at F;refine aC Try.func35 rfl rfl (dt rfl) ?_;refine sR fun _ qp=>?_;refine pa (i_ 0) (en qp ?_);refine sR fun _ qq=>?_;refine pm (.pointer (some ⟨b0,0,none⟩)) ?_;refine fz (R:=bP) (xs:=([1,2,3,4,1,2,3,4,0,5]:List Int)) [i_ 1,i_ 2,i_ 3,i_ 4,i_ 1,i_ 2,i_ 3,i_ 4,i_ 0,i_ 5] rfl rfl rfl rfl (by rfl) (jh ([1,2,3,4,1,2,3,4,0,5]:List Int)) S (dt rfl) ?_;intro qu qv S qr;replace S:=S.t1;obtain ⟨U,Z,F⟩:=ob F;refine ba kO (eF ha0 S Z) (ca (ag rfl (ag rfl rfl))) (dt rfl) ?_;rintro _ Y ⟨rfl,S⟩;refine ⟨_,rfl,?_⟩;replace S:Sat J Y (Box b0 101 [u0,i_ U.2.1,i_ U.2.2] :: G0):=S;refine pa (i_ U.1) (en qq (ah (aw rfl rfl ?_)));have hr:=Option.some.inj F;exact ⟨(congrArg (fun (r:Int × Int × Int)=>Ending.returned (i_ r.1)) hr :),Eq.mp (congrArg (fun (r:Int × Int × Int)=>Sat J Y (Box b0 101 [u0,i_ r.2.1,i_ r.2.2] :: G0)) hr :) S⟩
theorem hX {w0:World} {Z:World} {G0:List Asn} {b0:Nat} {u0:Value} {a0:List Int} {a1:Int} {a2:Int} {a3:Int} {a4:Int} (ha0:(ar u8R 5).rd Z [u0] a0) (S:Sat Z w0 (Box b0 101 [u0,i_ a1,i_ a2] :: G0)) {N:Nat} {r:T0_ × Int × Int} (F:eC N a0 a1 a2 a3 a4=some r): Calls Try.prog 75 #[.pointer (some ⟨b0,0,none⟩),i_ a3,i_ a4] w0 fun e w'=>∃ (q0:Value),e=.returned (q0)∧Sat Z w' (Own R0_ [q0] r.1 :: Box b0 101 [u0,i_ r.2.1,i_ r.2.2] :: G0) := by
 unfold eC at F;refine aC Try.func75 rfl rfl (dt rfl) ?_;refine sR fun _ qG=>?_;refine pa n_ (en qG ?_);refine sR fun _ qH=>?_;refine bA bP S (dt rfl) ?_;intro qU qz S qS;refine pa qz (en qH ?_);refine sg fun _ qI=>?_;refine bg fun _ qJ=>?_;obtain ⟨qK,hL,qD⟩:=ob F;refine aU (fun k e w=>∃ (qr:Int),∃ (qu:Int),∃ (J:Value),∃ (U:List Int),e 0=.pointer (some ⟨b0,0,none⟩)∧e 1=i_ a3∧e 2=i_ a4∧e 7=J∧Sat Z w (Own R0_ [J] U :: Box b0 101 [u0,i_ qr,i_ qu] :: G0)∧dz N k a0 qr qu a3 a4 U=some qK) N ?_ ?_ ?_
 ·exact ⟨a1,a2,qz,[],rfl,rfl,rfl,rfl,S,hL⟩
 ·rintro e w ⟨_,_,_,_,_,_,_,_,_,hz⟩; exact nomatch (show none=some _ from hz)
 rintro k qV qL ⟨qr,qu,J,U,qv,qw,qx,qp,S,F⟩;refine gn fun _ qA=>?_;refine sg fun _ qB=>?_;refine sR fun _ qN=>?_;refine pM J qp (pe (i_ (U.length:Int)) (an rfl (S.rdAt (R:=R0_) 0 rfl)) (pM (i_ a3) qw (pe (.bool (decide ((U.length:Int) < a3))) (aY rfl rfl) (en qN ?_))));rcases oif F with ⟨qq,F⟩|⟨qq,F⟩
 ·refine ct qq (sn qB ?_);refine bg fun _ qO=>?_;refine aj (pM J qp (pM (.pointer (some ⟨b0,0,none⟩)) qv (pM (i_ a4) qx ?_)));replace S:=S.t1;obtain ⟨Y,qE,F⟩:=ob F;refine ba iI (dD ha0 S qE) (ca (ag rfl (ag rfl rfl))) (dt rfl) ?_;rintro _ qP ⟨rfl,S⟩;refine ⟨_,rfl,?_⟩;replace S:Sat Z qP (Box b0 101 [u0,i_ Y.2.1,i_ Y.2.2] :: Own R0_ [J] U :: G0):=S;refine ay [i_ Y.1] rfl (by rfl) (dt rfl) rfl (dt rfl) S (dt rfl) ?_;intro qW qX S qT;obtain ⟨qQ,qF,F⟩:=ob F;have qy:=S.boxRow 0 rfl;replace S:=S.t2;replace S:=S.int Y.1;replace S:=S.one;refine aE rfl (dt rfl) rfl (dt rfl) S rfl rfl rfl (by simp) qy qF (dt rfl) ?_;intro qY qC S;refine pa qC (ak (bn qO (tn qA ?_)));replace S:=S.t2.t1;replace S:=S.r2;exact ⟨Y.2.1,Y.2.2,qC,qQ,qv,qw,qx,rfl,S,F⟩
 refine cf qq (aR (tx qB (tx qA ?_)));replace F:=exB F qD;refine bS qJ (tn qI ?_);refine sR fun _ qR=>?_;refine pM J qp (pa J (en qR (ah (aw rfl rfl ?_))));have hr:=Option.some.inj F;exact ⟨J,(congrArg (fun (r:T0_ × Int × Int)=>Ending.returned (J)) hr :),Eq.mp (congrArg (fun (r:T0_ × Int × Int)=>Sat Z qL (Own R0_ [J] r.1 :: Box b0 101 [u0,i_ r.2.1,i_ r.2.2] :: G0)) hr :) S⟩
theorem em {w0:World} {a0:Int} {a1:Int} {a2:Int}  {N:Nat} {r:Bool} (F:dE N a0 a1 a2=some r): Calls Try.prog 52 #[i_ a0,i_ a1,i_ a2] w0 fun e w'=>e=.returned (.bool r)∧Ext w0 w' := by
 unfold dE at F;refine aC Try.func52 rfl rfl (dt rfl) ?_;have S:=Sat.start w0;refine sR fun _ Y=>?_;refine pa (.bool false) (en Y ?_);refine sR fun _ U=>?_;refine pm (i_ a0) (pm (i_ a1) (pe (.bool (decide (a1 ≤ a0))) (gV rfl rfl) (pm (.bool (decide (a1 ≤ a0))) ?_)));rcases oif F with ⟨J,F⟩|⟨J,F⟩
 ·refine ei J (pm (i_ a0) (ei J (pm (i_ a2) (ei J (pe (.bool (decide (a0 ≤ a2))) (iq rfl rfl) (pe (.bool (decide (a0 ≤ a2))) (au rfl J rfl) (pa (.bool (decide (a0 ≤ a2))) (en U (ah (aw rfl rfl ?_))))))))));exact rB F S
 refine eo J (eo J (eo J (pe (.bool false) (az rfl J rfl) (pa (.bool false) (en U (ah (aw rfl rfl ?_)))))));exact rB F S
theorem eM {w0:World} {u0:Value} {a0:List Int} (ha0:R0_.rd w0 [u0] a0) {N:Nat} {r:Bool} (F:cn N a0=some r): Calls Try.prog 77 #[u0] w0 fun e w'=>e=.returned (.bool r)∧Ext w0 w' := by
 unfold cn at F;refine aC Try.func77 rfl rfl (dt rfl) ?_;have S:=Sat.start w0;refine sR fun _ qF=>?_;refine pa (.bool false) (en qF ?_);refine sg fun _ qv=>?_;refine sR fun _ qG=>?_;refine pa (i_ 0) (en qG ?_);refine bg fun _ qw=>?_;obtain ⟨qH,hL,qu⟩:=ob F;refine aU (fun k e w=>∃ (J:Int),e 0=u0∧e 3=i_ J∧Sat w0 w []∧bx N k a0 J=some qH) N ?_ ?_ ?_
 ·exact ⟨0,rfl,rfl,S,hL⟩
 ·rintro e w ⟨_,_,_,_,hz⟩; exact nomatch (show none=some _ from hz)
 rintro k qR qS ⟨J,U,Y,S,F⟩;refine gn fun _ qq=>?_;refine sg fun _ qx=>?_;refine sR fun _ qI=>?_;refine pM (i_ J) Y (pM u0 U (pe (i_ (a0.length:Int)) (an rfl ha0) (pe (.bool (decide (J < (a0.length:Int)))) (aY rfl rfl) (en qI ?_))));rcases oif F with ⟨Z,F⟩|⟨Z,F⟩
 ·refine ct Z (sn qx ?_);refine sg fun _ qy=>?_;refine bg fun _ qz=>?_;refine sR fun _ qJ=>?_;refine pM u0 U (pM (i_ J) Y ?_);obtain ⟨qK,qA,F⟩:=ob F;refine aD (wA:=w0) rfl ha0 rfl (dt rfl) rfl qA (dt rfl) ?_;intro qT qP qU qB qC;obtain rfl:=qB;refine pe (i_ qK) (ac rfl ((ai S.below qC) 0 _ rfl)) ?_;obtain ⟨qL,qD,F⟩:=ob F;refine ec0 it (em qD) (ca (ag rfl (ag rfl (ag rfl rfl)))) S fun qV qQ S=>?_;refine pe (.bool (!qL)) (bt rfl) (en qJ ?_);rcases oif F with ⟨qp,F⟩|⟨qp,F⟩
  ·refine cf (am qp) (aV (bn qz (tn qy (aj (pM (i_ J) Y ?_)))));obtain ⟨qr,qE,F⟩:=ob F;refine pe (i_ qr) (aF rfl rfl qE) (pa (i_ qr) (en qq ?_));replace S:=S.keep 0;exact ⟨qr,U,rfl,S,F⟩
  refine ct (aq qp) ?_;refine sR fun _ qN=>?_;refine pa (.bool false) (en qN (ah (br qz (tr qy (tr qq (br qw (tr qv ?_)))))));replace F:=exL F qu;refine aw rfl rfl ?_;exact rB F S
 refine cf Z (aR (tx qx (tx qq ?_)));replace F:=exA F qu;refine bS qw (tn qv ?_);refine sR fun _ qO=>?_;refine pa (.bool true) (en qO (ah (aw rfl rfl ?_)));exact rB F S
theorem aL {w0:World} {u0:Value} {a0:List Int} {u1:Value} {a1:List Int} (ha0:R0_.rd w0 [u0] a0) (ha1:R0_.rd w0 [u1] a1) {N:Nat} {r:Int} (F:aH N a0 a1=some r): Calls Try.prog 78 #[u0,u1] w0 fun e w'=>e=.returned (i_ r)∧Ext w0 w' := by
 unfold aH at F;refine aC Try.func78 rfl rfl (dt rfl) ?_;have S:=Sat.start w0;refine sR fun _ rc=>?_;refine pa (i_ 0) (en rc ?_);refine sg fun _ qu=>?_;refine sR fun _ re=>?_;refine pa (i_ 0) (en re ?_);refine bg fun _ qv=>?_;obtain ⟨rf,hL,qq⟩:=ob F;refine aU (fun k e w=>∃ (J:Int),e 0=u0∧e 1=u1∧e 5=i_ J∧Sat w0 w []∧cP N k a0 a1 J=some rf) N ?_ ?_ ?_
 ·exact ⟨0,rfl,rfl,rfl,S,hL⟩
 ·rintro e w ⟨_,_,_,_,_,hz⟩; exact nomatch (show none=some _ from hz)
 rintro k rD rE ⟨J,Y,Z,qp,S,F⟩;refine gn fun _ qr=>?_;refine sg fun _ qD=>?_;refine sR fun _ qH=>?_;refine pM (i_ J) qp (pM u0 Y (pe (i_ (a0.length:Int)) (an rfl ha0) (pe (.bool (decide (J < (a0.length:Int)))) (aY rfl rfl) (pm (.bool (decide (J < (a0.length:Int)))) ?_))));rcases oif F with ⟨U,F⟩|⟨U,F⟩
 ·refine ei U (pM (i_ J) qp (ei U (pM u1 Z (ei U (pe (i_ (a1.length:Int)) (an rfl ha1) (ei U (pe (.bool (decide (J < (a1.length:Int)))) (aY rfl rfl) (pe (.bool (decide (J < (a1.length:Int)))) (au rfl U rfl) (en qH ?_)))))))));rcases oif F with ⟨qw,F⟩|⟨qw,F⟩
  ·refine ct qw (sn qD ?_);refine sg fun _ qE=>?_;refine bg fun _ qF=>?_;refine sg fun _ qI=>?_;refine sg fun _ rg=>?_;refine cd (by kernel_rfl) (by kernel_rfl) ?_;refine qM u0 Y (qM (i_ J) qp ?_);obtain ⟨qJ,qS,F⟩:=ob F;refine aN (wA:=w0) rfl ha0 rfl (dt rfl) rfl qS (dt rfl) ?_;intro rF ry rG qT qU;obtain rfl:=qT;refine qe (i_ qJ) (ac rfl ((ai S.below qU) 0 _ rfl)) (qM u1 Z (qM (i_ J) qp ?_));obtain ⟨qK,qV,F⟩:=ob F;refine aN (wA:=w0) rfl ha1 rfl (dt rfl) rfl qV (dt rfl) ?_;intro rH rz rJ qW qX;obtain rfl:=qW;refine qe (i_ qK) (ac rfl ((ai S.below qX) 0 _ rfl)) (qe (.bool (decide (qJ < qK))) (aY rfl rfl) (bQ ?_));intro rK qY;replace S:=S.ext qY;refine tn rg ?_;rcases oif F with ⟨qx,F⟩|⟨qx,F⟩
   ·refine ct qx ?_;refine sR fun _ rh=>?_;refine pa (i_ (-1)) (en rh (ah (tr qI (br qF (tr qE (tr qr (br qv (tr qu ?_))))))));replace F:=exL F qq;refine aw rfl rfl ?_;exact rI F S
   refine cf qx (sn qI ?_);refine sg fun _ ri=>?_;refine cd (by kernel_rfl) (by kernel_rfl) ?_;refine qM u0 Y (qM (i_ J) qp ?_);obtain ⟨qL,qZ,F⟩:=ob F;refine aN (wA:=w0) rfl ha0 rfl (dt rfl) rfl qZ (dt rfl) ?_;intro rL rA rM q5 q6;obtain rfl:=q5;refine qe (i_ qL) (ac rfl ((ai S.below q6) 0 _ rfl)) (qM u1 Z (qM (i_ J) qp ?_));obtain ⟨qN,q7,F⟩:=ob F;refine aN (wA:=w0) rfl ha1 rfl (dt rfl) rfl q7 (dt rfl) ?_;intro rN rC rO q8 q9;obtain rfl:=q8;refine qe (i_ qN) (ac rfl ((ai S.below q9) 0 _ rfl)) (qe (.bool (decide (qN < qL))) (bM rfl rfl) (bQ ?_));intro rP ra;replace S:=S.ext ra;refine tn ri ?_;rcases oif F with ⟨qy,F⟩|⟨qy,F⟩
   ·refine ct qy ?_;refine sR fun _ rj=>?_;refine pa (i_ 1) (en rj (ah (br qF (tr qE (tr qr (br qv (tr qu ?_)))))));replace F:=exL F qq;refine aw rfl rfl ?_;exact rI F S
   refine cf qy (aV (bn qF (tn qE (aj (pM (i_ J) qp ?_)))));obtain ⟨qG,rb,F⟩:=ob F;refine pe (i_ qG) (aF rfl rfl rb) (pa (i_ qG) (en qr ?_));replace S:=S.keep 0;exact ⟨qG,Y,Z,rfl,S,F⟩
  refine cf qw (aR (tx qD (tx qr ?_)));replace F:=exA F qq;refine bS qv (tn qu ?_);refine sg fun _ qO=>?_;refine sR fun _ rk=>?_;refine pM u0 Y (pe (i_ (a0.length:Int)) (an rfl ha0) (pM u1 Z (pe (i_ (a1.length:Int)) (an rfl ha1) (pe (.bool (decide ((a0.length:Int) < (a1.length:Int)))) (aY rfl rfl) (en rk ?_)))));rcases oif F with ⟨qz,F⟩|⟨qz,F⟩
  ·refine ct qz ?_;refine sR fun _ rl=>?_;refine pa (i_ (-1)) (en rl (ah (tr qO (aw rfl rfl ?_))));exact rI F S
  refine cf qz (sn qO ?_);refine sg fun _ qP=>?_;refine sR fun _ rn=>?_;refine pM u0 Y (pe (i_ (a0.length:Int)) (an rfl ha0) (pM u1 Z (pe (i_ (a1.length:Int)) (an rfl ha1) (pe (.bool (decide ((a1.length:Int) < (a0.length:Int)))) (bM rfl rfl) (en rn ?_)))));rcases oif F with ⟨qA,F⟩|⟨qA,F⟩
  ·refine ct qA ?_;refine sR fun _ ro=>?_;refine pa (i_ 1) (en ro (ah (tr qP (aw rfl rfl ?_))));exact rI F S
  refine cf qA (sn qP ?_);refine sR fun _ rp=>?_;refine pa (i_ 0) (en rp (ah (aw rfl rfl ?_)));exact rI F S
 refine eo U (eo U (eo U (eo U (pe (.bool false) (az rfl U rfl) (en qH (cf rfl (aR (tx qD (tx qr ?_)))))))));replace F:=exA F qq;refine bS qv (tn qu ?_);refine sg fun _ qQ=>?_;refine sR fun _ rq=>?_;refine pM u0 Y (pe (i_ (a0.length:Int)) (an rfl ha0) (pM u1 Z (pe (i_ (a1.length:Int)) (an rfl ha1) (pe (.bool (decide ((a0.length:Int) < (a1.length:Int)))) (aY rfl rfl) (en rq ?_)))));rcases oif F with ⟨qB,F⟩|⟨qB,F⟩
 ·refine ct qB ?_;refine sR fun _ rr=>?_;refine pa (i_ (-1)) (en rr (ah (tr qQ (aw rfl rfl ?_))));exact rI F S
 refine cf qB (sn qQ ?_);refine sg fun _ qR=>?_;refine sR fun _ rt=>?_;refine pM u0 Y (pe (i_ (a0.length:Int)) (an rfl ha0) (pM u1 Z (pe (i_ (a1.length:Int)) (an rfl ha1) (pe (.bool (decide ((a1.length:Int) < (a0.length:Int)))) (bM rfl rfl) (en rt ?_)))));rcases oif F with ⟨qC,F⟩|⟨qC,F⟩
 ·refine ct qC ?_;refine sR fun _ ru=>?_;refine pa (i_ 1) (en ru (ah (tr qR (aw rfl rfl ?_))));exact rI F S
 refine cf qC (sn qR ?_);refine sR fun _ rx=>?_;refine pa (i_ 0) (en rx (ah (aw rfl rfl ?_)));exact rI F S
theorem dv {w0:World} {a0:Int} {u1:Value} {a1:List T0_} (ha1:R3_.rd w0 [u1] a1) {N:Nat} {r:Bool} (F:bV N a0 a1=some r): Calls Try.prog 42 #[.agg #[i_ a0,u1]] w0 fun e w'=>e=.returned (.bool r)∧Ext w0 w' := by
 unfold bV at F;refine aC Try.func42 rfl rfl (dt rfl) ?_;have S:=Sat.start w0;refine sR fun _ rh=>?_;refine cR [i_ a0,u1] rfl S (dt rfl) ?_;intro rH qu S rA;refine pa (.bool false) (en rh ?_);refine sg fun _ qH=>?_;refine sR fun _ qQ=>?_;refine pe (.pointer (some ⟨qu,0 + 0,none⟩)) (ae rfl) (pe (i_ a0) (ac rfl ((S.boxAt 0 rfl) 0 _ rfl)) ?_);obtain ⟨qR,qT,F⟩:=ob F;refine ec0 it (em qT) (ca (ag rfl (ag rfl (ag rfl rfl)))) S fun rJ rC S=>?_;refine pe (.bool (!qR)) (bt rfl) (pm (.bool (!qR)) ?_);rcases oif F with ⟨Z,F⟩|⟨Z,F⟩
 ·refine ei (am Z) (pe (.pointer (some ⟨qu,0 + 1,none⟩)) (ae rfl) (ei (am Z) (pe u1 (ac rfl ((S.boxAt 0 rfl) 1 _ rfl)) (ei (am Z) (pe (i_ (a1.length:Int)) (an rfl ha1) (ei (am Z) (pe (.bool (decide (4000 < (a1.length:Int)))) (bM rfl rfl) (pe (.bool (decide (4000 < (a1.length:Int)))) (az rfl (am Z) rfl) (en qQ ?_)))))))));rcases oif F with ⟨qz,F⟩|⟨qz,F⟩
  ·refine ct qz ?_;refine sg fun _ ri=>?_;replace S:=S.r0;refine aj (pa (.bool false) (en ri (ah (tr qH (aw rfl rfl ?_)))));exact rB F S
  refine cf qz (sn qH ?_);refine sg fun _ qA=>?_;refine sR fun _ rj=>?_;refine pa (i_ 0) (en rj ?_);refine bg fun _ qB=>?_;obtain ⟨rk,hL,qw⟩:=ob F;refine aU (fun k e w=>∃ (qp:Int),e 1=.pointer (some ⟨qu,0,none⟩)∧e 3=i_ qp∧Sat w0 w [Box qu 26 [i_ a0,u1]]∧bf N k a0 a1 qp=some rk) N ?_ ?_ ?_
  ·exact ⟨0,rfl,rfl,S,hL⟩
  ·rintro e w ⟨_,_,_,_,hz⟩; exact nomatch (show none=some _ from hz)
  rintro k rK rL ⟨qp,qq,qr,S,F⟩;refine gn fun _ qv=>?_;refine sg fun _ qS=>?_;refine sR fun _ rl=>?_;refine pM (i_ qp) qr (pe (.pointer (some ⟨qu,0 + 1,none⟩)) (ae qq) (pe u1 (ac rfl ((S.boxAt 0 rfl) 1 _ rfl)) (pe (i_ (a1.length:Int)) (an rfl ha1) (pe (.bool (decide (qp < (a1.length:Int)))) (aY rfl rfl) (en rl ?_)))));rcases oif F with ⟨qC,F⟩|⟨qC,F⟩
  ·refine ct qC (sn qS ?_);refine sg fun _ qx=>?_;refine bg fun _ qy=>?_;refine sg fun _ qD=>?_;refine cd (by kernel_rfl) (by kernel_rfl) ?_;refine qe (.pointer (some ⟨qu,0 + 1,none⟩)) (ae qq) (qe u1 (ac rfl ((S.boxAt 0 rfl) 1 _ rfl)) (qM (i_ qp) qr ?_));obtain ⟨qI,qU,F⟩:=ob F;refine aN (wA:=w0) rfl ha1 rfl (dt rfl) rfl qU (dt rfl) ?_;intro rM rD rN qL qV;obtain ⟨rn,rfl⟩:=ax qL;refine qe rn (ac rfl ((ai S.below qV) 0 _ rfl)) (qe (i_ (qI.length:Int)) (an rfl qL) (qe (.pointer (some ⟨qu,0 + 0,none⟩)) (ae qq) (qe (i_ a0) (ac rfl ((S.boxAt 0 rfl) 0 _ rfl)) (qe (.bool ((qI.length:Int) != a0)) (cq rfl rfl) (qm (.bool ((qI.length:Int) != a0)) ?_)))));rcases oif F with ⟨U,F⟩|⟨U,F⟩
   ·refine qo U (qo U (qo U (qo U (qo U (qo U (qo U (qe (.bool true) (au rfl U rfl) (qm (.bool true) (qo rfl (qo rfl (qo rfl ?_)))))))))));refine bD rfl (dt rfl) ?_;refine bD rfl (dt rfl) ?_;refine bD rfl (dt rfl) ?_;refine bD rfl (dt rfl) ?_;refine bD rfl (dt rfl) ?_;refine bD rfl (dt rfl) ?_;refine bD rfl (dt rfl) ?_;refine bD rfl (dt rfl) ?_;refine bD rfl (dt rfl) ?_;refine bD rfl (dt rfl) ?_;refine bD rfl (dt rfl) ?_;refine bD rfl (dt rfl) ?_;refine bD rfl (dt rfl) ?_;refine qo rfl (qe (.bool true) (au rfl rfl rfl) (bQ ?_));intro rO qW;replace S:=S.ext qW;refine tn qD (ct rfl ?_);refine sg fun _ ro=>?_;replace S:=S.r0;refine aj (pa (.bool false) (en ro (ah (br qy (tr qx (tr qv (br qB (tr qA ?_))))))));replace F:=exL F qw;refine aw rfl rfl ?_;exact rB F S
   refine qi U (qe (.pointer (some ⟨qu,0 + 1,none⟩)) (ae qq) (qi U (qe u1 (ac rfl ((S.boxAt 0 rfl) 1 _ rfl)) (qi U (qM (i_ qp) qr (qi U ?_))))));obtain ⟨rP,qX,F⟩:=ob F;refine aN (wA:=w0) rfl ha1 rfl (dt rfl) rfl qX (dt rfl) ?_;intro rQ rE rR qN qY;obtain ⟨rp,rfl⟩:=ax qN;refine qi U (qe rp (ac rfl ((ai S.below qY) 0 _ rfl)) (qi U ?_));obtain ⟨qE,qZ,F⟩:=ob F;refine dV (.bool qE) nl (fun w' hw'=>eM (c5 (S.up qN) hw') qZ) (ca (ag rfl rfl)) (dt rfl) ?_;refine qi U (qe (.bool (!qE)) (bt rfl) (qe (.bool (!qE)) (az rfl U rfl) (qm (.bool (!qE)) ?_)));rcases oif F with ⟨Y,F⟩|⟨Y,F⟩
   ·refine qi (am Y) (qM (i_ qp) qr (qi (am Y) (qe (.bool (decide (0 < qp))) (bM rfl rfl) (qi (am Y) (qm (.bool (decide (0 < qp))) ?_)))));rcases oif F with ⟨J,F⟩|⟨J,F⟩
    ·refine qi J (qe (.pointer (some ⟨qu,0 + 1,none⟩)) (ae qq) (qi J (qe u1 (ac rfl ((S.boxAt 0 rfl) 1 _ rfl)) (qi J (qM (i_ qp) qr (qi J ?_))))));obtain ⟨rq,q5,F⟩:=ob F;refine qe (i_ rq) (cj rfl rfl q5) (qi J ?_);obtain ⟨rS,q6,F⟩:=ob F;refine aN (wA:=w0) rfl ha1 rfl (dt rfl) rfl q6 (dt rfl) ?_;intro rT rF rU qO q7;obtain ⟨rr,rfl⟩:=ax qO;refine qi J (qe rr (ac rfl ((ai S.below q7) 0 _ rfl)) (qi J (qe (.pointer (some ⟨qu,0 + 1,none⟩)) (ae qq) (qi J (qe u1 (ac rfl ((S.boxAt 0 rfl) 1 _ rfl)) (qi J (qM (i_ qp) qr (qi J ?_))))))));obtain ⟨rV,q8,F⟩:=ob F;refine aN (wA:=w0) rfl ha1 rfl (dt rfl) rfl q8 (dt rfl) ?_;intro rW rG rX qP q9;obtain ⟨rt,rfl⟩:=ax qP;refine qi J (qe rt (ac rfl ((ai S.below q9) 0 _ rfl)) (qi J ?_));obtain ⟨qF,ra,F⟩:=ob F;refine dV (i_ qF) dm (fun w' hw'=>aL (c5 (S.up qO) hw') (c5 (S.up qP) hw') ra) (ca (ag rfl (ag rfl rfl))) (dt rfl) ?_;refine qi J (qe (.bool (decide (0 ≤ qF))) (gV rfl rfl) (qi (am Y) (qe (.bool (decide (0 ≤ qF))) (au rfl J rfl) (qe (.bool (decide (0 ≤ qF))) (az rfl (am Y) rfl) (bQ ?_)))));intro rY rb;replace S:=S.ext rb;refine tn qD ?_;rcases oif F with ⟨qG,F⟩|⟨qG,F⟩
     ·refine ct qG ?_;refine sg fun _ ru=>?_;replace S:=S.r0;refine aj (pa (.bool false) (en ru (ah (br qy (tr qx (tr qv (br qB (tr qA ?_))))))));replace F:=exL F qw;refine aw rfl rfl ?_;exact rB F S
     refine cf qG (aV (bn qy (tn qx (aj (pM (i_ qp) qr ?_)))));obtain ⟨qJ,rc,F⟩:=ob F;refine pe (i_ qJ) (aF rfl rfl rc) (pa (i_ qJ) (en qv ?_));replace S:=S.keep 1;exact ⟨qJ,qq,rfl,S,F⟩
    refine qo J (qo J (qo J (qo J (qo J (qo J (qo J (qo J (qo J (qo J (qo J (qo J (qo J (qi (am Y) (qe (.bool false) (az rfl J rfl) (qe (.bool false) (az rfl (am Y) rfl) (bQ ?_))))))))))))))));intro rZ re;replace S:=S.ext re;refine tn qD (cf rfl (aV (bn qy (tn qx (aj (pM (i_ qp) qr ?_))))));obtain ⟨qK,rf,F⟩:=ob F;refine pe (i_ qK) (aF rfl rfl rf) (pa (i_ qK) (en qv ?_));replace S:=S.keep 1;exact ⟨qK,qq,rfl,S,F⟩
   refine qo (aq Y) (qo (aq Y) (qo (aq Y) ?_));refine bD rfl (dt rfl) ?_;refine bD rfl (dt rfl) ?_;refine bD rfl (dt rfl) ?_;refine bD rfl (dt rfl) ?_;refine bD rfl (dt rfl) ?_;refine bD rfl (dt rfl) ?_;refine bD rfl (dt rfl) ?_;refine bD rfl (dt rfl) ?_;refine bD rfl (dt rfl) ?_;refine bD rfl (dt rfl) ?_;refine bD rfl (dt rfl) ?_;refine bD rfl (dt rfl) ?_;refine bD rfl (dt rfl) ?_;refine qo (aq Y) (qe (.bool true) (au rfl (aq Y) rfl) (bQ ?_));intro r7 rg;replace S:=S.ext rg;refine tn qD (ct rfl ?_);refine sg fun _ rx=>?_;replace S:=S.r0;refine aj (pa (.bool false) (en rx (ah (br qy (tr qx (tr qv (br qB (tr qA ?_))))))));replace F:=exL F qw;refine aw rfl rfl ?_;exact rB F S
  refine cf qC (aR (tx qS (tx qv ?_)));replace F:=exA F qw;refine bS qB (tn qA ?_);refine sg fun _ ry=>?_;replace S:=S.r0;refine aj (pa (.bool true) (en ry (ah (aw rfl rfl ?_))));exact rB F S
 refine eo (aq Z) (eo (aq Z) (eo (aq Z) (eo (aq Z) (pe (.bool true) (au rfl (aq Z) rfl) (en qQ (ct rfl ?_))))));refine sg fun _ rz=>?_;replace S:=S.r0;refine aj (pa (.bool false) (en rz (ah (tr qH (aw rfl rfl ?_)))));exact rB F S
theorem jX {w0:World} {a0:Int} {u1:Value} {a1:List T0_} (ha1:R3_.rd w0 [u1] a1) {N:Nat} {r:Int × List T0_} (F:eJ N a0 a1=some r): Calls Try.prog 128 #[.agg #[i_ a0,u1]] w0 fun e w'=>∃ (q0:Value),e=.returned (.agg #[i_ r.1,q0])∧Sat w0 w' [Own R3_ [q0] r.2] := by
 unfold eJ at F;refine aC Try.func128 rfl rfl (dt rfl) ?_;have S:=Sat.start w0;refine sR fun _ qS=>?_;refine cR [i_ a0,u1] rfl S (dt rfl) ?_;intro rk U S rc;refine bG S (dt rfl) ?_;intro rl qq S re;refine en qS ?_;refine sR fun _ qT=>?_;refine pe (.pointer (some ⟨U,0 + 0,none⟩)) (ae rfl) (pe (i_ a0) (ac rfl ((S.boxAt 1 rfl) 0 _ rfl)) (pe (.agg #[i_ a0,n_]) (cY [(0,[i_ a0])] [i_ a0,n_] (f4 rfl rfl) rfl) ?_));refine bG S (dt rfl) ?_;intro rn Y S rf;refine aB (S.top 0 rfl) rfl [i_ a0,n_] rfl rfl (dt rfl) (all_cons rfl (all_cons rfl rfl)) ?_;intro qU S;replace S:Sat w0 qU [Box Y 26 [i_ a0,n_],Box qq 26 [i_ 0,n_],Box U 26 [i_ a0,u1]]:=S;refine en qT ?_;refine sg fun _ qV=>?_;refine sR fun _ qW=>?_;refine pa (i_ 0) (en qW ?_);refine bg fun _ qX=>?_;replace S:=S.nil R0_ 30;obtain ⟨qY,hL,qI⟩:=ob F;refine aU (fun k e w=>∃ (J:Value),∃ (qr:List T0_),∃ (Z:Int),e 1=.pointer (some ⟨U,0,none⟩)∧e 2=.pointer (some ⟨qq,0,none⟩)∧e 3=.pointer (some ⟨Y,0,none⟩)∧e 4=i_ Z∧Sat w0 w [Own R3_ [J] qr,Box Y 26 [i_ a0,J],Box qq 26 [i_ 0,n_],Box U 26 [i_ a0,u1]]∧cg N k a0 a1 0 [] a0 qr Z=some qY) N ?_ ?_ ?_
 ·exact ⟨n_,[],0,rfl,rfl,rfl,rfl,S,hL⟩
 ·rintro e w ⟨_,_,_,_,_,_,_,_,hz⟩; exact nomatch (show none=some _ from hz)
 rintro k ro rp ⟨J,qr,Z,qu,qv,qp,qw,S,F⟩;refine gn fun _ qD=>?_;refine sg fun _ qE=>?_;refine sR fun _ qZ=>?_;refine pM (i_ Z) qw (pe (.pointer (some ⟨U,0 + 1,none⟩)) (ae qu) (pe u1 (ac rfl ((S.boxAt 3 rfl) 1 _ rfl)) (pe (i_ (a1.length:Int)) (an rfl ha1) (pe (.bool (decide (Z < (a1.length:Int)))) (aY rfl rfl) (en qZ ?_)))));rcases oif F with ⟨qx,F⟩|⟨qx,F⟩
 ·refine ct qx (sn qE ?_);refine sg fun _ q5=>?_;refine bg fun _ q6=>?_;obtain ⟨C,hCd⟩:∃ C:World → Prop,∀ w,C w ↔ ∃ G,Sat w0 w ([Box Y 26 [i_ a0,J],Box U 26 [i_ a0,u1]] ++ G):=⟨_,fun _=>Iff.rfl⟩;refine dc [0,1,2,3,4,5,6,7,8,9,10,11] C (by kernel_rfl) ?_;intro rq qJ;replace S:=S.ext qJ;replace S:=S.t3.t2;have hC:=(hCd _).2 ⟨_,S⟩;refine aP (.pointer (some ⟨Y,0 + 1,none⟩)) 0 rfl rfl hC (aA rfl (fun w' hw'=>by obtain ⟨_,S⟩:=(hCd _).1 hw'; exact (ae qp))) ?_;refine aP J 1 rfl rfl hC (aA rfl (fun w' hw'=>by obtain ⟨_,S⟩:=(hCd _).1 hw'; exact (ac rfl ((S.boxAt 0 rfl) 1 _ rfl)))) ?_;refine aP (.pointer (some ⟨U,0 + 1,none⟩)) 3 rfl rfl hC (aA rfl (fun w' hw'=>by obtain ⟨_,S⟩:=(hCd _).1 hw'; exact (ae qu))) ?_;refine aP u1 4 rfl rfl hC (aA rfl (fun w' hw'=>by obtain ⟨_,S⟩:=(hCd _).1 hw'; exact (ac rfl ((S.boxAt 1 rfl) 1 _ rfl)))) ?_;refine aP (i_ Z) 5 rfl rfl hC (aA rfl (fun w' hw'=>by obtain ⟨_,S⟩:=(hCd _).1 hw'; exact (aI qw))) ?_;obtain ⟨q7,qK,F⟩:=ob F;refine fA (wA:=w0) (by kernel_rfl) 6 rfl hC (by kernel_rfl) (by kernel_rfl) rfl ha1 rfl (dt rfl) rfl qK (dt rfl) ?_;intro rr rg rt qA qL;obtain ⟨q8,rfl⟩:=ax qA;refine aP q8 7 rfl rfl hC (aA rfl (fun w' hw'=>by obtain ⟨_,S⟩:=(hCd _).1 hw'; exact (ac rfl ((ai S.below qL) 0 _ rfl)))) ?_;refine aO 2 rfl ?_;refine bA bP S (dt rfl) ?_;intro ru rx S rh;refine ak ?_;replace S:=S.t2.t2;have hC:=(hCd _).2 ⟨_,S⟩;refine ⟨fun _=>hC,?_⟩;refine aO 8 rfl ?_;obtain ⟨ry,qN,F⟩:=ob F;obtain ⟨ri,rz,qO,qP,qB⟩:=jj (S.up qA);replace S:=S.t2;replace S:=S.ints (xs:=q7);refine aE rfl (dt rfl) rfl (dt rfl) S rfl (rfl.trans qO) rfl qP qB qN (dt rfl) ?_;intro rA qF S;refine ak ?_;replace S:=S.t2.t2;have hC:=(hCd _).2 ⟨_,S⟩;refine ⟨fun _=>hC,?_⟩;refine aO 9 rfl ?_;refine ay [qF] (aJ rfl (oc (S.rdAt (R:=R0_) 2 rfl))) (by rfl) (dt rfl) rfl (dt rfl) S (dt rfl) ?_;intro rC q9 S rj;refine ak ?_;replace S:=S.t2.t2;have hC:=(hCd _).2 ⟨_,S⟩;refine ⟨fun _=>hC,?_⟩;refine aO 10 rfl ?_;obtain ⟨qG,qQ,F⟩:=ob F;have qC:=S.boxRow 2 rfl;replace S:=S.t4;replace S:=S.t4;replace S:=S.one;refine aE rfl (dt rfl) rfl (dt rfl) S rfl rfl rfl (by simp) qC qQ (dt rfl) ?_;intro rD qy S;refine ak ?_;replace S:=S.t2.t2;have hC:=(hCd _).2 ⟨_,S⟩;refine ⟨fun _=>hC,?_⟩;refine aO 11 rfl ?_;refine pe (.pointer (some ⟨Y,0 + 1,none⟩)) (ae qp) (ak ?_);refine ⟨fun _=>hC,?_⟩;refine aO 12 rfl ?_;refine aB (S.top 0 rfl) rfl [qy] (aJ rfl (oc (S.rdAt (R:=R3_) 2 rfl))) rfl (dt rfl) (all_cons (oc (S.rdAt (R:=R3_) 2 rfl)) rfl) ?_;intro ra S;replace S:Sat w0 ra [Box Y 26 [i_ a0,qy],Box U 26 [i_ a0,u1],Own R3_ [qy] qG,Box q9 30 [qF],Box qq 26 [i_ 0,n_]]:=S;refine ak ?_;refine ⟨fun h=>(nomatch (show false=true from h)),?_⟩;refine dC (by kernel_rfl) ?_;refine bn q6 (tn q5 ?_);replace S:=S.r3;refine aj (pM (i_ Z) qw ?_);obtain ⟨qz,qR,F⟩:=ob F;refine pe (i_ qz) (aF rfl rfl qR) (pa (i_ qz) (en qD ?_));replace S:=S.t1.t3.t2.t3;replace S:=S.keep 4;exact ⟨qy,qG,qz,qu,qv,qp,rfl,S,F⟩
 refine cf qx (aR (tx qE (tx qD ?_)));replace F:=exB F qI;refine bS qX (tn qV ?_);refine sg fun _ rb=>?_;replace S:=S.r3;refine aj (pe (.agg #[i_ a0,J]) (aK (cs:=[i_ a0,J]) qp rfl (aW (S.boxAt 1 rfl))) ?_);refine aB (S.top 2 rfl) qv [i_ a0,J] rfl rfl (dt rfl) (all_cons rfl (all_cons (oc (S.rdAt (R:=R3_) 0 rfl)) rfl)) ?_;intro qH S;replace S:Sat w0 qH [Box qq 26 [i_ a0,J],Own R3_ [J] qr,Box Y 26 [i_ a0,J]]:=S;refine en rb (ah ?_);refine gG (cs:=[i_ a0,J]) rfl qv rfl (aW (S.boxAt 0 rfl))  ?_;replace S:=S.t1;have hr:=Option.some.inj F;exact ⟨J,congrArg (fun (r:Int × List T0_)=>Ending.returned (.agg #[i_ r.1,J])) hr,Eq.mp (congrArg (fun (r:Int × List T0_)=>Sat w0 qH [Own R3_ [J] r.2]) hr) (S.keep 1)⟩

end Go.Proofs.Ytdapplkijobjoaa
namespace Go.Proofs.Ytdapplkijobjoaa
open Go.RowKit
set_option maxRecDepth 100000
set_option maxHeartbeats 4000000
theorem jx (N:Nat):∀ {w0:World} {u0:Value} {a0:List T0_} (_:R3_.rd w0 [u0] a0) {r:T2_} (_:cD N a0=some r), Calls Try.prog 129 #[u0] w0 fun e w'=>∃ (q0:Value),e=.returned (q0)∧Ext w0 w'∧R3_.rd w' [q0] r := by
 induction N with
 | zero=>intros; exact nomatch (show none=some _ by assumption)
 | succ N ih=>
  intro w0 u0 a0 ha0 r F;refine aC Try.func129 rfl rfl (dt rfl) ?_;have S:=Sat.start w0;refine sR fun _ wH=>?_;refine pa n_ (en wH ?_);refine sg fun _ th=>?_;refine sR fun _ wI=>?_;refine pm u0 (pe (i_ (a0.length:Int)) (an rfl ha0) (pe (.bool (decide ((a0.length:Int) < 2))) (aY rfl rfl) (en wI ?_)));rcases oif F with ⟨rE,F⟩|⟨rE,F⟩
  ·refine ct rE ?_;refine sR fun _ wJ=>?_;refine pm u0 (pa u0 (en wJ (ah (tr th (aw rfl rfl ?_)))));have hr:=Option.some.inj F;exact ⟨u0,congrArg (fun (r:T2_)=>Ending.returned (u0)) hr,S.below,Eq.mp (congrArg (fun (r:T2_)=>R3_.rd w0 [u0] r) hr :) (S.up ha0)⟩
  refine cf rE (sn th ?_);refine sR fun _ wK=>?_;refine pm u0 (pe (i_ (a0.length:Int)) (an rfl ha0) ?_);obtain ⟨rF,ur,F⟩:=ob F;refine pe (i_ rF) (o4 rfl rfl ur) (pa (i_ rF) (en wK ?_));refine sR fun _ wM=>?_;refine pm u0 (pm (i_ rF) ?_);obtain ⟨y2,us,F⟩:=ob F;refine cJ (wA:=w0) rfl rfl ha0 (.inr ⟨rfl,rfl⟩) (.inl (congrArg some rfl)) us (dt rfl) ?_;intro y3 sO;obtain ⟨wN,ut,F⟩:=ob F;refine ba jT (ih (S.up sO) ut) (ca (ag rfl rfl)) (dt rfl) ?_;rintro _ sA ⟨ti,rfl,uu,uv⟩;refine ⟨_,rfl,?_⟩;replace S:=S.ext uu;have uw:Ext w0 sA:=S.below;have rG:=S.up ha0;have yg:=S.up ha0;have yh:=S.up sO;replace S:=Sat.start sA;refine pa ti (en wM ?_);refine sR fun _ wO=>?_;refine pm u0 (pm (i_ rF) ?_);obtain ⟨y4,ux,F⟩:=ob F;refine cJ (wA:=sA) rfl rfl rG (.inl (congrArg some rfl)) (.inr ⟨rfl,rfl⟩) ux (dt rfl) ?_;intro y5 sP;obtain ⟨wP,uy,F⟩:=ob F;refine ba jT (ih (S.up sP) uy) (ca (ag rfl rfl)) (dt rfl) ?_;rintro _ J ⟨tj,rfl,uz,uA⟩;refine ⟨_,rfl,?_⟩;replace S:=S.ext uz;have uB:Ext w0 J:=(S.rebase uw).below;have yi:=S.up rG;have uC:=S.up uv;have yj:=S.up rG;have yk:=S.up sP;replace S:=Sat.start J;refine pa tj (en wO ?_);refine sR fun _ wQ=>?_;refine bA (roR J R0_) S (dt rfl) ?_;intro y6 tk S yl;refine pa tk (en wQ ?_);refine sg fun _ wR=>?_;refine bg fun _ wS=>?_;obtain ⟨wT,hL,uD⟩:=ob F;refine aU (fun k e w=>∃ (qv:Value),∃ (qy:List T0_),∃ (qw:Value),∃ (qz:List T0_),∃ (Y:Value),∃ (Z:List T0_),e 4=qv∧e 5=qw∧e 6=Y∧Sat J w [Own (ar (roR J R0_) 30) [Y] Z]∧R3_.rd J [qv] qy∧R3_.rd J [qw] qz∧ap (cD N) N k qy qz Z=some wT) N ?_ ?_ ?_
  ·exact ⟨ti,wN,tj,wP,tk,[],rfl,rfl,rfl,S,uC,uA,hL⟩
  ·rintro e w ⟨_,_,_,_,_,_,_,_,_,_,_,_,hz⟩; exact nomatch (show none=some _ from hz)
  rintro k y7 wU ⟨qv,qy,qw,qz,Y,Z,qp,qq,U,S,qr,qu,F⟩;refine gn fun _ qx=>?_;refine sg fun _ sB=>?_;refine sR fun _ tm=>?_;refine pM qv qp (pe (i_ (qy.length:Int)) (an rfl qr) (pe (.bool (decide (0 < (qy.length:Int)))) (bM rfl rfl) (pm (.bool (decide (0 < (qy.length:Int)))) ?_)));rcases oif F with ⟨qN,F⟩|⟨qN,F⟩
  ·refine eo qN (eo qN (eo qN (pe (.bool true) (au rfl qN rfl) (en tm (ct rfl (sn sB ?_))))));refine bg fun _ qK=>?_;refine sR fun _ wV=>?_;refine pa (i_ 0) (en wV ?_);refine sg fun _ sC=>?_;refine bg fun _ sD=>?_;refine sR fun _ wW=>?_;refine pM qv qp (pe (i_ (qy.length:Int)) (an rfl qr) (pe (.bool ((qy.length:Int) == 0)) (aG rfl rfl) (pa (.bool ((qy.length:Int) == 0)) (en wW ?_))));rcases oif F with ⟨rH,F⟩|⟨rH,F⟩
   ·refine ct rH (aj (pa (i_ 1) (ak (bn sD (tn sC ?_)))));refine sR fun _ wX=>?_;refine bA bP S (dt rfl) ?_;intro tp wY S ym;refine pa wY (en wX ?_);refine sg fun _ tq=>?_;refine sg fun _ wZ=>?_;replace S:=S.r0;refine aj (pm (i_ 1) (pe (.bool (decide (0 < (1:Int)))) (bM rfl rfl) (en wZ ?_)));rcases oif F with ⟨rJ,F⟩|⟨rJ,F⟩
    ·refine ct rJ ?_;refine sR fun _ w3=>?_;refine pM qw qq ?_;obtain ⟨y8,uE,F⟩:=ob F;refine aD (wA:=J) rfl qu rfl (dt rfl) rfl uE (dt rfl) ?_;intro y9 yn za qO uF;obtain ⟨qY,rfl⟩:=ax qO;refine pe qY (ac rfl ((ai S.below uF) 0 _ rfl)) (pa qY (en w3 (aj (pM qw qq ?_))));obtain ⟨sE,uG,F⟩:=ob F;refine cJ (wA:=J) rfl rfl qu (.inl (congrArg some rfl)) (.inr ⟨rfl,rfl⟩) uG (dt rfl) ?_;intro rK rL;refine pa rK (en tq ?_);refine sR fun _ tt=>?_;refine pM Y U (pe (i_ (Z.length:Int)) (an rfl (S.rdAt (R:=(ar (roR J R0_) 30)) 0 rfl)) (pe (.bool ((Z.length:Int) == 0)) (aG rfl rfl) (pm (.bool ((Z.length:Int) == 0)) ?_)));rcases oif F with ⟨qA,F⟩|⟨qA,F⟩
     ·refine eo qA (eo qA (eo qA (eo qA (eo qA (eo qA (eo qA (eo qA (eo qA (pe (.bool true) (au rfl qA rfl) (en tt (ct rfl (aj (pM Y U (pm qY ?_))))))))))))));refine ay [qY] (aJ rfl (oc qO)) (by rfl) (dt rfl) rfl (dt rfl) S (dt rfl) ?_;intro zb zc S yo;obtain ⟨w4,uH,F⟩:=ob F;have sV:=S.boxRow 0 rfl;replace S:=S.t1;replace S:=S.roOne (R:=R0_) (W:=J) qO;replace S:=S.one;refine aE rfl (dt rfl) rfl (dt rfl) S rfl rfl rfl (by simp) sV uH (dt rfl) ?_;intro zd tu S;refine pa tu (ak (bn qK (tn qx ?_)));replace S:=S.keep 1;exact ⟨qv,qy,rK,sE,tu,w4,qp,rfl,rfl,S,qr,rL,F⟩
     refine ei qA (pM Y U (ei qA (pM Y U (ei qA (pe (i_ (Z.length:Int)) (an rfl (S.rdAt (R:=(ar (roR J R0_) 30)) 0 rfl)) (ei qA ?_))))));obtain ⟨w5,uI,F⟩:=ob F;refine pe (i_ w5) (cj rfl rfl uI) (ei qA ?_);obtain ⟨ze,uJ,F⟩:=ob F;refine aD (wA:=tp) rfl (S.rdAt (R:=(ar (roR J R0_) 30)) 0 rfl) rfl (dt rfl) rfl uJ (dt rfl) ?_;intro zf yp zg rp re;replace rp:R0_.rd J _ _:=rp;obtain ⟨w6,rfl⟩:=ax rp;refine ei qA (pe w6 (ac rfl (re 0 _ rfl)) (ei qA (pm qY (ei qA ?_))));obtain ⟨tv,uK,F⟩:=ob F;refine ec0 dm (aL (S.up rp) (S.up qO) uK) (ca (ag rfl (ag rfl rfl))) S fun zh uL S=>?_;have re:=ai uL re;refine ei qA (pe (.bool (tv != 0)) (cq rfl rfl) (pe (.bool (tv != 0)) (az rfl qA rfl) (en tt ?_)));rcases oif F with ⟨rM,F⟩|⟨rM,F⟩
     ·refine ct rM (aj (pM Y U (pm qY ?_)));refine ay [qY] (aJ rfl (oc qO)) (by rfl) (dt rfl) rfl (dt rfl) S (dt rfl) ?_;intro zi zj S uM;have re:=ai uM re;obtain ⟨w7,uN,F⟩:=ob F;have sW:=S.boxRow 0 rfl;replace S:=S.t1;replace S:=S.roOne (R:=R0_) (W:=J) qO;replace S:=S.one;refine aE rfl (dt rfl) rfl (dt rfl) S rfl rfl rfl (by simp) sW uN (dt rfl) ?_;intro zk tw S;refine pa tw (ak (bn qK (tn qx ?_)));replace S:=S.keep 1;exact ⟨qv,qy,rK,sE,tw,w7,qp,rfl,rfl,S,qr,rL,F⟩
     refine cf rM (aV (bn qK (tn qx ?_)));replace S:=S.keep 1;exact ⟨qv,qy,rK,sE,Y,Z,qp,rfl,U,S,qr,rL,F⟩
    refine cf rJ ?_;refine sR fun _ w8=>?_;refine pM qv qp ?_;obtain ⟨zl,uO,F⟩:=ob F;refine aD (wA:=J) rfl qr rfl (dt rfl) rfl uO (dt rfl) ?_;intro zm yq zn qP uP;obtain ⟨qZ,rfl⟩:=ax qP;refine pe qZ (ac rfl ((ai S.below uP) 0 _ rfl)) (pa qZ (en w8 (aj (pM qv qp ?_))));obtain ⟨sF,uQ,F⟩:=ob F;refine cJ (wA:=J) rfl rfl qr (.inl (congrArg some rfl)) (.inr ⟨rfl,rfl⟩) uQ (dt rfl) ?_;intro rN rO;refine pa rN (en tq ?_);refine sR fun _ tz=>?_;refine pM Y U (pe (i_ (Z.length:Int)) (an rfl (S.rdAt (R:=(ar (roR J R0_) 30)) 0 rfl)) (pe (.bool ((Z.length:Int) == 0)) (aG rfl rfl) (pm (.bool ((Z.length:Int) == 0)) ?_)));rcases oif F with ⟨qB,F⟩|⟨qB,F⟩
    ·refine eo qB (eo qB (eo qB (eo qB (eo qB (eo qB (eo qB (eo qB (eo qB (pe (.bool true) (au rfl qB rfl) (en tz (ct rfl (aj (pM Y U (pm qZ ?_))))))))))))));refine ay [qZ] (aJ rfl (oc qP)) (by rfl) (dt rfl) rfl (dt rfl) S (dt rfl) ?_;intro zo zp S yr;obtain ⟨w9,uR,F⟩:=ob F;have sX:=S.boxRow 0 rfl;replace S:=S.t1;replace S:=S.roOne (R:=R0_) (W:=J) qP;replace S:=S.one;refine aE rfl (dt rfl) rfl (dt rfl) S rfl rfl rfl (by simp) sX uR (dt rfl) ?_;intro zq tA S;refine pa tA (ak (bn qK (tn qx ?_)));replace S:=S.keep 1;exact ⟨rN,sF,qw,qz,tA,w9,rfl,qq,rfl,S,rO,qu,F⟩
    refine ei qB (pM Y U (ei qB (pM Y U (ei qB (pe (i_ (Z.length:Int)) (an rfl (S.rdAt (R:=(ar (roR J R0_) 30)) 0 rfl)) (ei qB ?_))))));obtain ⟨xa,uS,F⟩:=ob F;refine pe (i_ xa) (cj rfl rfl uS) (ei qB ?_);obtain ⟨zr,uT,F⟩:=ob F;refine aD (wA:=tp) rfl (S.rdAt (R:=(ar (roR J R0_) 30)) 0 rfl) rfl (dt rfl) rfl uT (dt rfl) ?_;intro zt yt zu rq rf;replace rq:R0_.rd J _ _:=rq;obtain ⟨xb,rfl⟩:=ax rq;refine ei qB (pe xb (ac rfl (rf 0 _ rfl)) (ei qB (pm qZ (ei qB ?_))));obtain ⟨tB,uU,F⟩:=ob F;refine ec0 dm (aL (S.up rq) (S.up qP) uU) (ca (ag rfl (ag rfl rfl))) S fun zw uV S=>?_;have rf:=ai uV rf;refine ei qB (pe (.bool (tB != 0)) (cq rfl rfl) (pe (.bool (tB != 0)) (az rfl qB rfl) (en tz ?_)));rcases oif F with ⟨rP,F⟩|⟨rP,F⟩
    ·refine ct rP (aj (pM Y U (pm qZ ?_)));refine ay [qZ] (aJ rfl (oc qP)) (by rfl) (dt rfl) rfl (dt rfl) S (dt rfl) ?_;intro zx zy S uW;have rf:=ai uW rf;obtain ⟨xc,uX,F⟩:=ob F;have sY:=S.boxRow 0 rfl;replace S:=S.t1;replace S:=S.roOne (R:=R0_) (W:=J) qP;replace S:=S.one;refine aE rfl (dt rfl) rfl (dt rfl) S rfl rfl rfl (by simp) sY uX (dt rfl) ?_;intro zA tC S;refine pa tC (ak (bn qK (tn qx ?_)));replace S:=S.keep 1;exact ⟨rN,sF,qw,qz,tC,xc,rfl,qq,rfl,S,rO,qu,F⟩
    refine cf rP (aV (bn qK (tn qx ?_)));replace S:=S.keep 1;exact ⟨rN,sF,qw,qz,Y,Z,rfl,qq,U,S,rO,qu,F⟩
   refine cf rH ?_;refine sR fun _ xd=>?_;refine pM qw qq (pe (i_ (qz.length:Int)) (an rfl qu) (pe (.bool (decide (0 < (qz.length:Int)))) (bM rfl rfl) (pa (.bool (decide (0 < (qz.length:Int)))) (en xd ?_))));rcases oif F with ⟨rQ,F⟩|⟨rQ,F⟩
   ·refine ct rQ ?_;refine cd (by kernel_rfl) (by kernel_rfl) ?_;refine qM qv qp ?_;obtain ⟨zB,uY,F⟩:=ob F;refine aN (wA:=J) rfl qr rfl (dt rfl) rfl uY (dt rfl) ?_;intro zC yu zD sQ uZ;obtain ⟨xe,rfl⟩:=ax sQ;refine qe xe (ac rfl ((ai S.below uZ) 0 _ rfl)) (qM qw qq ?_);obtain ⟨zE,u4,F⟩:=ob F;refine aN (wA:=J) rfl qu rfl (dt rfl) rfl u4 (dt rfl) ?_;intro zF yw zG sS u5;obtain ⟨xf,rfl⟩:=ax sS;refine qe xf (ac rfl ((ai S.below u5) 0 _ rfl)) ?_;obtain ⟨rR,u6,F⟩:=ob F;refine dV (i_ rR) dm (fun w' hw'=>aL (c5 (S.up sQ) hw') (c5 (S.up sS) hw') u6) (ca (ag rfl (ag rfl rfl))) (dt rfl) ?_;refine qe (i_ rR) (dh rfl) (bQ ?_);intro zH u7;replace S:=S.ext u7;refine bn sD (tn sC ?_);refine sR fun _ xg=>?_;refine bA bP S (dt rfl) ?_;intro tD xh S yx;refine pa xh (en xg ?_);refine sg fun _ tE=>?_;refine sg fun _ xi=>?_;replace S:=S.r0;refine aj (pm (i_ rR) (pe (.bool (decide (0 < rR))) (bM rfl rfl) (en xi ?_)));rcases oif F with ⟨rS,F⟩|⟨rS,F⟩
    ·refine ct rS ?_;refine sR fun _ xj=>?_;refine pM qw qq ?_;obtain ⟨zI,u9,F⟩:=ob F;refine aD (wA:=J) rfl qu rfl (dt rfl) rfl u9 (dt rfl) ?_;intro zJ yy zK qQ va;obtain ⟨q5,rfl⟩:=ax qQ;refine pe q5 (ac rfl ((ai S.below va) 0 _ rfl)) (pa q5 (en xj (aj (pM qw qq ?_))));obtain ⟨sG,vb,F⟩:=ob F;refine cJ (wA:=J) rfl rfl qu (.inl (congrArg some rfl)) (.inr ⟨rfl,rfl⟩) vb (dt rfl) ?_;intro rT rU;refine pa rT (en tE ?_);refine sR fun _ tF=>?_;refine pM Y U (pe (i_ (Z.length:Int)) (an rfl (S.rdAt (R:=(ar (roR J R0_) 30)) 0 rfl)) (pe (.bool ((Z.length:Int) == 0)) (aG rfl rfl) (pm (.bool ((Z.length:Int) == 0)) ?_)));rcases oif F with ⟨qC,F⟩|⟨qC,F⟩
     ·refine eo qC (eo qC (eo qC (eo qC (eo qC (eo qC (eo qC (eo qC (eo qC (pe (.bool true) (au rfl qC rfl) (en tF (ct rfl (aj (pM Y U (pm q5 ?_))))))))))))));refine ay [q5] (aJ rfl (oc qQ)) (by rfl) (dt rfl) rfl (dt rfl) S (dt rfl) ?_;intro zL zM S yz;obtain ⟨xk,vc,F⟩:=ob F;have sZ:=S.boxRow 0 rfl;replace S:=S.t1;replace S:=S.roOne (R:=R0_) (W:=J) qQ;replace S:=S.one;refine aE rfl (dt rfl) rfl (dt rfl) S rfl rfl rfl (by simp) sZ vc (dt rfl) ?_;intro zO tG S;refine pa tG (ak (bn qK (tn qx ?_)));replace S:=S.keep 1;exact ⟨qv,qy,rT,sG,tG,xk,qp,rfl,rfl,S,qr,rU,F⟩
     refine ei qC (pM Y U (ei qC (pM Y U (ei qC (pe (i_ (Z.length:Int)) (an rfl (S.rdAt (R:=(ar (roR J R0_) 30)) 0 rfl)) (ei qC ?_))))));obtain ⟨xl,vd,F⟩:=ob F;refine pe (i_ xl) (cj rfl rfl vd) (ei qC ?_);obtain ⟨zP,ve,F⟩:=ob F;refine aD (wA:=tD) rfl (S.rdAt (R:=(ar (roR J R0_) 30)) 0 rfl) rfl (dt rfl) rfl ve (dt rfl) ?_;intro zQ yA zR rr rg;replace rr:R0_.rd J _ _:=rr;obtain ⟨xm,rfl⟩:=ax rr;refine ei qC (pe xm (ac rfl (rg 0 _ rfl)) (ei qC (pm q5 (ei qC ?_))));obtain ⟨tH,vf,F⟩:=ob F;refine ec0 dm (aL (S.up rr) (S.up qQ) vf) (ca (ag rfl (ag rfl rfl))) S fun zS vg S=>?_;have rg:=ai vg rg;refine ei qC (pe (.bool (tH != 0)) (cq rfl rfl) (pe (.bool (tH != 0)) (az rfl qC rfl) (en tF ?_)));rcases oif F with ⟨rV,F⟩|⟨rV,F⟩
     ·refine ct rV (aj (pM Y U (pm q5 ?_)));refine ay [q5] (aJ rfl (oc qQ)) (by rfl) (dt rfl) rfl (dt rfl) S (dt rfl) ?_;intro zT zU S vh;have rg:=ai vh rg;obtain ⟨xn,vi,F⟩:=ob F;have s0:=S.boxRow 0 rfl;replace S:=S.t1;replace S:=S.roOne (R:=R0_) (W:=J) qQ;replace S:=S.one;refine aE rfl (dt rfl) rfl (dt rfl) S rfl rfl rfl (by simp) s0 vi (dt rfl) ?_;intro zV tI S;refine pa tI (ak (bn qK (tn qx ?_)));replace S:=S.keep 1;exact ⟨qv,qy,rT,sG,tI,xn,qp,rfl,rfl,S,qr,rU,F⟩
     refine cf rV (aV (bn qK (tn qx ?_)));replace S:=S.keep 1;exact ⟨qv,qy,rT,sG,Y,Z,qp,rfl,U,S,qr,rU,F⟩
    refine cf rS ?_;refine sR fun _ xo=>?_;refine pM qv qp ?_;obtain ⟨zW,vj,F⟩:=ob F;refine aD (wA:=J) rfl qr rfl (dt rfl) rfl vj (dt rfl) ?_;intro zX yB zY qR vk;obtain ⟨q6,rfl⟩:=ax qR;refine pe q6 (ac rfl ((ai S.below vk) 0 _ rfl)) (pa q6 (en xo (aj (pM qv qp ?_))));obtain ⟨sH,vl,F⟩:=ob F;refine cJ (wA:=J) rfl rfl qr (.inl (congrArg some rfl)) (.inr ⟨rfl,rfl⟩) vl (dt rfl) ?_;intro rW rX;refine pa rW (en tE ?_);refine sR fun _ tJ=>?_;refine pM Y U (pe (i_ (Z.length:Int)) (an rfl (S.rdAt (R:=(ar (roR J R0_) 30)) 0 rfl)) (pe (.bool ((Z.length:Int) == 0)) (aG rfl rfl) (pm (.bool ((Z.length:Int) == 0)) ?_)));rcases oif F with ⟨qD,F⟩|⟨qD,F⟩
    ·refine eo qD (eo qD (eo qD (eo qD (eo qD (eo qD (eo qD (eo qD (eo qD (pe (.bool true) (au rfl qD rfl) (en tJ (ct rfl (aj (pM Y U (pm q6 ?_))))))))))))));refine ay [q6] (aJ rfl (oc qR)) (by rfl) (dt rfl) rfl (dt rfl) S (dt rfl) ?_;intro zZ z0 S yC;obtain ⟨xp,vm,F⟩:=ob F;have s3:=S.boxRow 0 rfl;replace S:=S.t1;replace S:=S.roOne (R:=R0_) (W:=J) qR;replace S:=S.one;refine aE rfl (dt rfl) rfl (dt rfl) S rfl rfl rfl (by simp) s3 vm (dt rfl) ?_;intro z4 tK S;refine pa tK (ak (bn qK (tn qx ?_)));replace S:=S.keep 1;exact ⟨rW,sH,qw,qz,tK,xp,rfl,qq,rfl,S,rX,qu,F⟩
    refine ei qD (pM Y U (ei qD (pM Y U (ei qD (pe (i_ (Z.length:Int)) (an rfl (S.rdAt (R:=(ar (roR J R0_) 30)) 0 rfl)) (ei qD ?_))))));obtain ⟨xq,vn,F⟩:=ob F;refine pe (i_ xq) (cj rfl rfl vn) (ei qD ?_);obtain ⟨z5,vo,F⟩:=ob F;refine aD (wA:=tD) rfl (S.rdAt (R:=(ar (roR J R0_) 30)) 0 rfl) rfl (dt rfl) rfl vo (dt rfl) ?_;intro z6 yD z7 rt rh;replace rt:R0_.rd J _ _:=rt;obtain ⟨xr,rfl⟩:=ax rt;refine ei qD (pe xr (ac rfl (rh 0 _ rfl)) (ei qD (pm q6 (ei qD ?_))));obtain ⟨tL,vp,F⟩:=ob F;refine ec0 dm (aL (S.up rt) (S.up qR) vp) (ca (ag rfl (ag rfl rfl))) S fun z8 vq S=>?_;have rh:=ai vq rh;refine ei qD (pe (.bool (tL != 0)) (cq rfl rfl) (pe (.bool (tL != 0)) (az rfl qD rfl) (en tJ ?_)));rcases oif F with ⟨rY,F⟩|⟨rY,F⟩
    ·refine ct rY (aj (pM Y U (pm q6 ?_)));refine ay [q6] (aJ rfl (oc qR)) (by rfl) (dt rfl) rfl (dt rfl) S (dt rfl) ?_;intro z9 Aa S vr;have rh:=ai vr rh;obtain ⟨xt,vt,F⟩:=ob F;have s4:=S.boxRow 0 rfl;replace S:=S.t1;replace S:=S.roOne (R:=R0_) (W:=J) qR;replace S:=S.one;refine aE rfl (dt rfl) rfl (dt rfl) S rfl rfl rfl (by simp) s4 vt (dt rfl) ?_;intro Ab tM S;refine pa tM (ak (bn qK (tn qx ?_)));replace S:=S.keep 1;exact ⟨rW,sH,qw,qz,tM,xt,rfl,qq,rfl,S,rX,qu,F⟩
    refine cf rY (aV (bn qK (tn qx ?_)));replace S:=S.keep 1;exact ⟨rW,sH,qw,qz,Y,Z,rfl,qq,U,S,rX,qu,F⟩
   refine cf rQ (aj (pa (i_ (-1)) (ak (bn sD (tn sC ?_)))));refine sR fun _ xu=>?_;refine bA bP S (dt rfl) ?_;intro tN xv S yE;refine pa xv (en xu ?_);refine sg fun _ tO=>?_;refine sg fun _ xw=>?_;replace S:=S.r0;refine aj (pm (i_ (-1)) (pe (.bool (decide (0 < ((-1):Int)))) (bM rfl rfl) (en xw ?_)));rcases oif F with ⟨rZ,F⟩|⟨rZ,F⟩
   ·refine ct rZ ?_;refine sR fun _ xx=>?_;refine pM qw qq ?_;obtain ⟨Ac,vu,F⟩:=ob F;refine aD (wA:=J) rfl qu rfl (dt rfl) rfl vu (dt rfl) ?_;intro Ad yF Ae qS vv;obtain ⟨q7,rfl⟩:=ax qS;refine pe q7 (ac rfl ((ai S.below vv) 0 _ rfl)) (pa q7 (en xx (aj (pM qw qq ?_))));obtain ⟨sI,vw,F⟩:=ob F;refine cJ (wA:=J) rfl rfl qu (.inl (congrArg some rfl)) (.inr ⟨rfl,rfl⟩) vw (dt rfl) ?_;intro r7 r8;refine pa r7 (en tO ?_);refine sR fun _ tP=>?_;refine pM Y U (pe (i_ (Z.length:Int)) (an rfl (S.rdAt (R:=(ar (roR J R0_) 30)) 0 rfl)) (pe (.bool ((Z.length:Int) == 0)) (aG rfl rfl) (pm (.bool ((Z.length:Int) == 0)) ?_)));rcases oif F with ⟨qE,F⟩|⟨qE,F⟩
    ·refine eo qE (eo qE (eo qE (eo qE (eo qE (eo qE (eo qE (eo qE (eo qE (pe (.bool true) (au rfl qE rfl) (en tP (ct rfl (aj (pM Y U (pm q7 ?_))))))))))))));refine ay [q7] (aJ rfl (oc qS)) (by rfl) (dt rfl) rfl (dt rfl) S (dt rfl) ?_;intro Af Ag S yG;obtain ⟨xy,vx,F⟩:=ob F;have s5:=S.boxRow 0 rfl;replace S:=S.t1;replace S:=S.roOne (R:=R0_) (W:=J) qS;replace S:=S.one;refine aE rfl (dt rfl) rfl (dt rfl) S rfl rfl rfl (by simp) s5 vx (dt rfl) ?_;intro Ah tQ S;refine pa tQ (ak (bn qK (tn qx ?_)));replace S:=S.keep 1;exact ⟨qv,qy,r7,sI,tQ,xy,qp,rfl,rfl,S,qr,r8,F⟩
    refine ei qE (pM Y U (ei qE (pM Y U (ei qE (pe (i_ (Z.length:Int)) (an rfl (S.rdAt (R:=(ar (roR J R0_) 30)) 0 rfl)) (ei qE ?_))))));obtain ⟨xz,vy,F⟩:=ob F;refine pe (i_ xz) (cj rfl rfl vy) (ei qE ?_);obtain ⟨Ai,vz,F⟩:=ob F;refine aD (wA:=tN) rfl (S.rdAt (R:=(ar (roR J R0_) 30)) 0 rfl) rfl (dt rfl) rfl vz (dt rfl) ?_;intro Aj yH Ak ru ri;replace ru:R0_.rd J _ _:=ru;obtain ⟨xA,rfl⟩:=ax ru;refine ei qE (pe xA (ac rfl (ri 0 _ rfl)) (ei qE (pm q7 (ei qE ?_))));obtain ⟨tR,vA,F⟩:=ob F;refine ec0 dm (aL (S.up ru) (S.up qS) vA) (ca (ag rfl (ag rfl rfl))) S fun Al vB S=>?_;have ri:=ai vB ri;refine ei qE (pe (.bool (tR != 0)) (cq rfl rfl) (pe (.bool (tR != 0)) (az rfl qE rfl) (en tP ?_)));rcases oif F with ⟨r9,F⟩|⟨r9,F⟩
    ·refine ct r9 (aj (pM Y U (pm q7 ?_)));refine ay [q7] (aJ rfl (oc qS)) (by rfl) (dt rfl) rfl (dt rfl) S (dt rfl) ?_;intro Am An S vC;have ri:=ai vC ri;obtain ⟨xB,vD,F⟩:=ob F;have s6:=S.boxRow 0 rfl;replace S:=S.t1;replace S:=S.roOne (R:=R0_) (W:=J) qS;replace S:=S.one;refine aE rfl (dt rfl) rfl (dt rfl) S rfl rfl rfl (by simp) s6 vD (dt rfl) ?_;intro Ao tS S;refine pa tS (ak (bn qK (tn qx ?_)));replace S:=S.keep 1;exact ⟨qv,qy,r7,sI,tS,xB,qp,rfl,rfl,S,qr,r8,F⟩
    refine cf r9 (aV (bn qK (tn qx ?_)));replace S:=S.keep 1;exact ⟨qv,qy,r7,sI,Y,Z,qp,rfl,U,S,qr,r8,F⟩
   refine cf rZ ?_;refine sR fun _ xC=>?_;refine pM qv qp ?_;obtain ⟨Ap,vE,F⟩:=ob F;refine aD (wA:=J) rfl qr rfl (dt rfl) rfl vE (dt rfl) ?_;intro Aq yI Ar qT vF;obtain ⟨q8,rfl⟩:=ax qT;refine pe q8 (ac rfl ((ai S.below vF) 0 _ rfl)) (pa q8 (en xC (aj (pM qv qp ?_))));obtain ⟨sJ,vG,F⟩:=ob F;refine cJ (wA:=J) rfl rfl qr (.inl (congrArg some rfl)) (.inr ⟨rfl,rfl⟩) vG (dt rfl) ?_;intro sa sc;refine pa sa (en tO ?_);refine sR fun _ tT=>?_;refine pM Y U (pe (i_ (Z.length:Int)) (an rfl (S.rdAt (R:=(ar (roR J R0_) 30)) 0 rfl)) (pe (.bool ((Z.length:Int) == 0)) (aG rfl rfl) (pm (.bool ((Z.length:Int) == 0)) ?_)));rcases oif F with ⟨qF,F⟩|⟨qF,F⟩
   ·refine eo qF (eo qF (eo qF (eo qF (eo qF (eo qF (eo qF (eo qF (eo qF (pe (.bool true) (au rfl qF rfl) (en tT (ct rfl (aj (pM Y U (pm q8 ?_))))))))))))));refine ay [q8] (aJ rfl (oc qT)) (by rfl) (dt rfl) rfl (dt rfl) S (dt rfl) ?_;intro As At S yJ;obtain ⟨xD,vH,F⟩:=ob F;have s7:=S.boxRow 0 rfl;replace S:=S.t1;replace S:=S.roOne (R:=R0_) (W:=J) qT;replace S:=S.one;refine aE rfl (dt rfl) rfl (dt rfl) S rfl rfl rfl (by simp) s7 vH (dt rfl) ?_;intro Au tU S;refine pa tU (ak (bn qK (tn qx ?_)));replace S:=S.keep 1;exact ⟨sa,sJ,qw,qz,tU,xD,rfl,qq,rfl,S,sc,qu,F⟩
   refine ei qF (pM Y U (ei qF (pM Y U (ei qF (pe (i_ (Z.length:Int)) (an rfl (S.rdAt (R:=(ar (roR J R0_) 30)) 0 rfl)) (ei qF ?_))))));obtain ⟨xE,vI,F⟩:=ob F;refine pe (i_ xE) (cj rfl rfl vI) (ei qF ?_);obtain ⟨Av,vJ,F⟩:=ob F;refine aD (wA:=tN) rfl (S.rdAt (R:=(ar (roR J R0_) 30)) 0 rfl) rfl (dt rfl) rfl vJ (dt rfl) ?_;intro Aw yK Ax rx rj;replace rx:R0_.rd J _ _:=rx;obtain ⟨xF,rfl⟩:=ax rx;refine ei qF (pe xF (ac rfl (rj 0 _ rfl)) (ei qF (pm q8 (ei qF ?_))));obtain ⟨tV,vK,F⟩:=ob F;refine ec0 dm (aL (S.up rx) (S.up qT) vK) (ca (ag rfl (ag rfl rfl))) S fun Ay vL S=>?_;have rj:=ai vL rj;refine ei qF (pe (.bool (tV != 0)) (cq rfl rfl) (pe (.bool (tV != 0)) (az rfl qF rfl) (en tT ?_)));rcases oif F with ⟨sd,F⟩|⟨sd,F⟩
   ·refine ct sd (aj (pM Y U (pm q8 ?_)));refine ay [q8] (aJ rfl (oc qT)) (by rfl) (dt rfl) rfl (dt rfl) S (dt rfl) ?_;intro Az AA S vM;have rj:=ai vM rj;obtain ⟨xG,vN,F⟩:=ob F;have s8:=S.boxRow 0 rfl;replace S:=S.t1;replace S:=S.roOne (R:=R0_) (W:=J) qT;replace S:=S.one;refine aE rfl (dt rfl) rfl (dt rfl) S rfl rfl rfl (by simp) s8 vN (dt rfl) ?_;intro AB tW S;refine pa tW (ak (bn qK (tn qx ?_)));replace S:=S.keep 1;exact ⟨sa,sJ,qw,qz,tW,xG,rfl,qq,rfl,S,sc,qu,F⟩
   refine cf sd (aV (bn qK (tn qx ?_)));replace S:=S.keep 1;exact ⟨sa,sJ,qw,qz,Y,Z,rfl,qq,U,S,sc,qu,F⟩
  refine ei qN (pM qw qq (ei qN (pe (i_ (qz.length:Int)) (an rfl qu) (ei qN (pe (.bool (decide (0 < (qz.length:Int)))) (bM rfl rfl) (pe (.bool (decide (0 < (qz.length:Int)))) (az rfl qN rfl) (en tm ?_)))))));rcases oif F with ⟨ry,F⟩|⟨ry,F⟩
  ·refine ct ry (sn sB ?_);refine bg fun _ qL=>?_;refine sR fun _ xH=>?_;refine pa (i_ 0) (en xH ?_);refine sg fun _ tX=>?_;refine bg fun _ tY=>?_;refine sR fun _ xI=>?_;refine pM qv qp (pe (i_ (qy.length:Int)) (an rfl qr) (pe (.bool ((qy.length:Int) == 0)) (aG rfl rfl) (pa (.bool ((qy.length:Int) == 0)) (en xI ?_))));rcases oif F with ⟨se,F⟩|⟨se,F⟩
   ·refine ct se (aj (pa (i_ 1) (ak (bn tY (tn tX ?_)))));refine sR fun _ xJ=>?_;refine bA bP S (dt rfl) ?_;intro tZ xK S yL;refine pa xK (en xJ ?_);refine sg fun _ t7=>?_;refine sg fun _ xL=>?_;replace S:=S.r0;refine aj (pm (i_ 1) (pe (.bool (decide (0 < (1:Int)))) (bM rfl rfl) (en xL ?_)));rcases oif F with ⟨sf,F⟩|⟨sf,F⟩
    ·refine ct sf ?_;refine sR fun _ xM=>?_;refine pM qw qq ?_;obtain ⟨AC,vO,F⟩:=ob F;refine aD (wA:=J) rfl qu rfl (dt rfl) rfl vO (dt rfl) ?_;intro AD yM AE qU vP;obtain ⟨q9,rfl⟩:=ax qU;refine pe q9 (ac rfl ((ai S.below vP) 0 _ rfl)) (pa q9 (en xM (aj (pM qw qq ?_))));obtain ⟨sK,vQ,F⟩:=ob F;refine cJ (wA:=J) rfl rfl qu (.inl (congrArg some rfl)) (.inr ⟨rfl,rfl⟩) vQ (dt rfl) ?_;intro sh si;refine pa sh (en t7 ?_);refine sR fun _ t8=>?_;refine pM Y U (pe (i_ (Z.length:Int)) (an rfl (S.rdAt (R:=(ar (roR J R0_) 30)) 0 rfl)) (pe (.bool ((Z.length:Int) == 0)) (aG rfl rfl) (pm (.bool ((Z.length:Int) == 0)) ?_)));rcases oif F with ⟨qG,F⟩|⟨qG,F⟩
     ·refine eo qG (eo qG (eo qG (eo qG (eo qG (eo qG (eo qG (eo qG (eo qG (pe (.bool true) (au rfl qG rfl) (en t8 (ct rfl (aj (pM Y U (pm q9 ?_))))))))))))));refine ay [q9] (aJ rfl (oc qU)) (by rfl) (dt rfl) rfl (dt rfl) S (dt rfl) ?_;intro AF AG S yN;obtain ⟨xN,vR,F⟩:=ob F;have s9:=S.boxRow 0 rfl;replace S:=S.t1;replace S:=S.roOne (R:=R0_) (W:=J) qU;replace S:=S.one;refine aE rfl (dt rfl) rfl (dt rfl) S rfl rfl rfl (by simp) s9 vR (dt rfl) ?_;intro AH t9 S;refine pa t9 (ak (bn qL (tn qx ?_)));replace S:=S.keep 1;exact ⟨qv,qy,sh,sK,t9,xN,qp,rfl,rfl,S,qr,si,F⟩
     refine ei qG (pM Y U (ei qG (pM Y U (ei qG (pe (i_ (Z.length:Int)) (an rfl (S.rdAt (R:=(ar (roR J R0_) 30)) 0 rfl)) (ei qG ?_))))));obtain ⟨xO,vS,F⟩:=ob F;refine pe (i_ xO) (cj rfl rfl vS) (ei qG ?_);obtain ⟨AI,vT,F⟩:=ob F;refine aD (wA:=tZ) rfl (S.rdAt (R:=(ar (roR J R0_) 30)) 0 rfl) rfl (dt rfl) rfl vT (dt rfl) ?_;intro AJ yO AK rz rk;replace rz:R0_.rd J _ _:=rz;obtain ⟨xP,rfl⟩:=ax rz;refine ei qG (pe xP (ac rfl (rk 0 _ rfl)) (ei qG (pm q9 (ei qG ?_))));obtain ⟨ua,vU,F⟩:=ob F;refine ec0 dm (aL (S.up rz) (S.up qU) vU) (ca (ag rfl (ag rfl rfl))) S fun AM vV S=>?_;have rk:=ai vV rk;refine ei qG (pe (.bool (ua != 0)) (cq rfl rfl) (pe (.bool (ua != 0)) (az rfl qG rfl) (en t8 ?_)));rcases oif F with ⟨sj,F⟩|⟨sj,F⟩
     ·refine ct sj (aj (pM Y U (pm q9 ?_)));refine ay [q9] (aJ rfl (oc qU)) (by rfl) (dt rfl) rfl (dt rfl) S (dt rfl) ?_;intro AN AO S vX;have rk:=ai vX rk;obtain ⟨xQ,vY,F⟩:=ob F;have ta:=S.boxRow 0 rfl;replace S:=S.t1;replace S:=S.roOne (R:=R0_) (W:=J) qU;replace S:=S.one;refine aE rfl (dt rfl) rfl (dt rfl) S rfl rfl rfl (by simp) ta vY (dt rfl) ?_;intro AP ub S;refine pa ub (ak (bn qL (tn qx ?_)));replace S:=S.keep 1;exact ⟨qv,qy,sh,sK,ub,xQ,qp,rfl,rfl,S,qr,si,F⟩
     refine cf sj (aV (bn qL (tn qx ?_)));replace S:=S.keep 1;exact ⟨qv,qy,sh,sK,Y,Z,qp,rfl,U,S,qr,si,F⟩
    refine cf sf ?_;refine sR fun _ xR=>?_;refine pM qv qp ?_;obtain ⟨AQ,vZ,F⟩:=ob F;refine aD (wA:=J) rfl qr rfl (dt rfl) rfl vZ (dt rfl) ?_;intro AR yP AS qV v5;obtain ⟨ra,rfl⟩:=ax qV;refine pe ra (ac rfl ((ai S.below v5) 0 _ rfl)) (pa ra (en xR (aj (pM qv qp ?_))));obtain ⟨sL,v6,F⟩:=ob F;refine cJ (wA:=J) rfl rfl qr (.inl (congrArg some rfl)) (.inr ⟨rfl,rfl⟩) v6 (dt rfl) ?_;intro sk sl;refine pa sk (en t7 ?_);refine sR fun _ uc=>?_;refine pM Y U (pe (i_ (Z.length:Int)) (an rfl (S.rdAt (R:=(ar (roR J R0_) 30)) 0 rfl)) (pe (.bool ((Z.length:Int) == 0)) (aG rfl rfl) (pm (.bool ((Z.length:Int) == 0)) ?_)));rcases oif F with ⟨qH,F⟩|⟨qH,F⟩
    ·refine eo qH (eo qH (eo qH (eo qH (eo qH (eo qH (eo qH (eo qH (eo qH (pe (.bool true) (au rfl qH rfl) (en uc (ct rfl (aj (pM Y U (pm ra ?_))))))))))))));refine ay [ra] (aJ rfl (oc qV)) (by rfl) (dt rfl) rfl (dt rfl) S (dt rfl) ?_;intro AT AU S yQ;obtain ⟨xS,v7,F⟩:=ob F;have tb:=S.boxRow 0 rfl;replace S:=S.t1;replace S:=S.roOne (R:=R0_) (W:=J) qV;replace S:=S.one;refine aE rfl (dt rfl) rfl (dt rfl) S rfl rfl rfl (by simp) tb v7 (dt rfl) ?_;intro AV ud S;refine pa ud (ak (bn qL (tn qx ?_)));replace S:=S.keep 1;exact ⟨sk,sL,qw,qz,ud,xS,rfl,qq,rfl,S,sl,qu,F⟩
    refine ei qH (pM Y U (ei qH (pM Y U (ei qH (pe (i_ (Z.length:Int)) (an rfl (S.rdAt (R:=(ar (roR J R0_) 30)) 0 rfl)) (ei qH ?_))))));obtain ⟨xT,v8,F⟩:=ob F;refine pe (i_ xT) (cj rfl rfl v8) (ei qH ?_);obtain ⟨AW,v9,F⟩:=ob F;refine aD (wA:=tZ) rfl (S.rdAt (R:=(ar (roR J R0_) 30)) 0 rfl) rfl (dt rfl) rfl v9 (dt rfl) ?_;intro AX yR AY rA rl;replace rA:R0_.rd J _ _:=rA;obtain ⟨xU,rfl⟩:=ax rA;refine ei qH (pe xU (ac rfl (rl 0 _ rfl)) (ei qH (pm ra (ei qH ?_))));obtain ⟨ue,wa,F⟩:=ob F;refine ec0 dm (aL (S.up rA) (S.up qV) wa) (ca (ag rfl (ag rfl rfl))) S fun AZ wb S=>?_;have rl:=ai wb rl;refine ei qH (pe (.bool (ue != 0)) (cq rfl rfl) (pe (.bool (ue != 0)) (az rfl qH rfl) (en uc ?_)));rcases oif F with ⟨sm,F⟩|⟨sm,F⟩
    ·refine ct sm (aj (pM Y U (pm ra ?_)));refine ay [ra] (aJ rfl (oc qV)) (by rfl) (dt rfl) rfl (dt rfl) S (dt rfl) ?_;intro A0 A1 S wc;have rl:=ai wc rl;obtain ⟨xV,wd,F⟩:=ob F;have tc:=S.boxRow 0 rfl;replace S:=S.t1;replace S:=S.roOne (R:=R0_) (W:=J) qV;replace S:=S.one;refine aE rfl (dt rfl) rfl (dt rfl) S rfl rfl rfl (by simp) tc wd (dt rfl) ?_;intro A2 uf S;refine pa uf (ak (bn qL (tn qx ?_)));replace S:=S.keep 1;exact ⟨sk,sL,qw,qz,uf,xV,rfl,qq,rfl,S,sl,qu,F⟩
    refine cf sm (aV (bn qL (tn qx ?_)));replace S:=S.keep 1;exact ⟨sk,sL,qw,qz,Y,Z,rfl,qq,U,S,sl,qu,F⟩
   refine cf se ?_;refine sR fun _ xW=>?_;refine pM qw qq (pe (i_ (qz.length:Int)) (an rfl qu) (pe (.bool (decide (0 < (qz.length:Int)))) (bM rfl rfl) (pa (.bool (decide (0 < (qz.length:Int)))) (en xW (ct ry ?_)))));refine cd (by kernel_rfl) (by kernel_rfl) ?_;refine qM qv qp ?_;obtain ⟨A3,we,F⟩:=ob F;refine aN (wA:=J) rfl qr rfl (dt rfl) rfl we (dt rfl) ?_;intro A4 yS A5 sT wg;obtain ⟨xX,rfl⟩:=ax sT;refine qe xX (ac rfl ((ai S.below wg) 0 _ rfl)) (qM qw qq ?_);obtain ⟨A6,wh,F⟩:=ob F;refine aN (wA:=J) rfl qu rfl (dt rfl) rfl wh (dt rfl) ?_;intro A7 yT A8 sU wi;obtain ⟨xY,rfl⟩:=ax sU;refine qe xY (ac rfl ((ai S.below wi) 0 _ rfl)) ?_;obtain ⟨sp,wj,F⟩:=ob F;refine dV (i_ sp) dm (fun w' hw'=>aL (c5 (S.up sT) hw') (c5 (S.up sU) hw') wj) (ca (ag rfl (ag rfl rfl))) (dt rfl) ?_;refine qe (i_ sp) (dh rfl) (bQ ?_);intro A9 wk;replace S:=S.ext wk;refine bn tY (tn tX ?_);refine sR fun _ xZ=>?_;refine bA bP S (dt rfl) ?_;intro ug x3 S yU;refine pa x3 (en xZ ?_);refine sg fun _ uh=>?_;refine sg fun _ x4=>?_;replace S:=S.r0;refine aj (pm (i_ sp) (pe (.bool (decide (0 < sp))) (bM rfl rfl) (en x4 ?_)));rcases oif F with ⟨sq,F⟩|⟨sq,F⟩
   ·refine ct sq ?_;refine sR fun _ x5=>?_;refine pM qw qq ?_;obtain ⟨Ba,wl,F⟩:=ob F;refine aD (wA:=J) rfl qu rfl (dt rfl) rfl wl (dt rfl) ?_;intro Bb yV Bc qW wm;obtain ⟨rb,rfl⟩:=ax qW;refine pe rb (ac rfl ((ai S.below wm) 0 _ rfl)) (pa rb (en x5 (aj (pM qw qq ?_))));obtain ⟨sM,wn,F⟩:=ob F;refine cJ (wA:=J) rfl rfl qu (.inl (congrArg some rfl)) (.inr ⟨rfl,rfl⟩) wn (dt rfl) ?_;intro ss su;refine pa ss (en uh ?_);refine sR fun _ ui=>?_;refine pM Y U (pe (i_ (Z.length:Int)) (an rfl (S.rdAt (R:=(ar (roR J R0_) 30)) 0 rfl)) (pe (.bool ((Z.length:Int) == 0)) (aG rfl rfl) (pm (.bool ((Z.length:Int) == 0)) ?_)));rcases oif F with ⟨qI,F⟩|⟨qI,F⟩
    ·refine eo qI (eo qI (eo qI (eo qI (eo qI (eo qI (eo qI (eo qI (eo qI (pe (.bool true) (au rfl qI rfl) (en ui (ct rfl (aj (pM Y U (pm rb ?_))))))))))))));refine ay [rb] (aJ rfl (oc qW)) (by rfl) (dt rfl) rfl (dt rfl) S (dt rfl) ?_;intro Bd Be S yW;obtain ⟨x6,wo,F⟩:=ob F;have td:=S.boxRow 0 rfl;replace S:=S.t1;replace S:=S.roOne (R:=R0_) (W:=J) qW;replace S:=S.one;refine aE rfl (dt rfl) rfl (dt rfl) S rfl rfl rfl (by simp) td wo (dt rfl) ?_;intro Bf uj S;refine pa uj (ak (bn qL (tn qx ?_)));replace S:=S.keep 1;exact ⟨qv,qy,ss,sM,uj,x6,qp,rfl,rfl,S,qr,su,F⟩
    refine ei qI (pM Y U (ei qI (pM Y U (ei qI (pe (i_ (Z.length:Int)) (an rfl (S.rdAt (R:=(ar (roR J R0_) 30)) 0 rfl)) (ei qI ?_))))));obtain ⟨x7,wq,F⟩:=ob F;refine pe (i_ x7) (cj rfl rfl wq) (ei qI ?_);obtain ⟨Bg,wr,F⟩:=ob F;refine aD (wA:=ug) rfl (S.rdAt (R:=(ar (roR J R0_) 30)) 0 rfl) rfl (dt rfl) rfl wr (dt rfl) ?_;intro Bh yX Bi rC rn;replace rC:R0_.rd J _ _:=rC;obtain ⟨x8,rfl⟩:=ax rC;refine ei qI (pe x8 (ac rfl (rn 0 _ rfl)) (ei qI (pm rb (ei qI ?_))));obtain ⟨uk,ws,F⟩:=ob F;refine ec0 dm (aL (S.up rC) (S.up qW) ws) (ca (ag rfl (ag rfl rfl))) S fun Bj wt S=>?_;have rn:=ai wt rn;refine ei qI (pe (.bool (uk != 0)) (cq rfl rfl) (pe (.bool (uk != 0)) (az rfl qI rfl) (en ui ?_)));rcases oif F with ⟨sv,F⟩|⟨sv,F⟩
    ·refine ct sv (aj (pM Y U (pm rb ?_)));refine ay [rb] (aJ rfl (oc qW)) (by rfl) (dt rfl) rfl (dt rfl) S (dt rfl) ?_;intro Bk Bl S wu;have rn:=ai wu rn;obtain ⟨x9,wv,F⟩:=ob F;have te:=S.boxRow 0 rfl;replace S:=S.t1;replace S:=S.roOne (R:=R0_) (W:=J) qW;replace S:=S.one;refine aE rfl (dt rfl) rfl (dt rfl) S rfl rfl rfl (by simp) te wv (dt rfl) ?_;intro Bm ul S;refine pa ul (ak (bn qL (tn qx ?_)));replace S:=S.keep 1;exact ⟨qv,qy,ss,sM,ul,x9,qp,rfl,rfl,S,qr,su,F⟩
    refine cf sv (aV (bn qL (tn qx ?_)));replace S:=S.keep 1;exact ⟨qv,qy,ss,sM,Y,Z,qp,rfl,U,S,qr,su,F⟩
   refine cf sq ?_;refine sR fun _ ya=>?_;refine pM qv qp ?_;obtain ⟨Bn,ww,F⟩:=ob F;refine aD (wA:=J) rfl qr rfl (dt rfl) rfl ww (dt rfl) ?_;intro Bo yY Bp qX wx;obtain ⟨rc,rfl⟩:=ax qX;refine pe rc (ac rfl ((ai S.below wx) 0 _ rfl)) (pa rc (en ya (aj (pM qv qp ?_))));obtain ⟨sN,wy,F⟩:=ob F;refine cJ (wA:=J) rfl rfl qr (.inl (congrArg some rfl)) (.inr ⟨rfl,rfl⟩) wy (dt rfl) ?_;intro sw sx;refine pa sw (en uh ?_);refine sR fun _ um=>?_;refine pM Y U (pe (i_ (Z.length:Int)) (an rfl (S.rdAt (R:=(ar (roR J R0_) 30)) 0 rfl)) (pe (.bool ((Z.length:Int) == 0)) (aG rfl rfl) (pm (.bool ((Z.length:Int) == 0)) ?_)));rcases oif F with ⟨qJ,F⟩|⟨qJ,F⟩
   ·refine eo qJ (eo qJ (eo qJ (eo qJ (eo qJ (eo qJ (eo qJ (eo qJ (eo qJ (pe (.bool true) (au rfl qJ rfl) (en um (ct rfl (aj (pM Y U (pm rc ?_))))))))))))));refine ay [rc] (aJ rfl (oc qX)) (by rfl) (dt rfl) rfl (dt rfl) S (dt rfl) ?_;intro Bq Br S yZ;obtain ⟨yb,wz,F⟩:=ob F;have tf:=S.boxRow 0 rfl;replace S:=S.t1;replace S:=S.roOne (R:=R0_) (W:=J) qX;replace S:=S.one;refine aE rfl (dt rfl) rfl (dt rfl) S rfl rfl rfl (by simp) tf wz (dt rfl) ?_;intro Bs un S;refine pa un (ak (bn qL (tn qx ?_)));replace S:=S.keep 1;exact ⟨sw,sN,qw,qz,un,yb,rfl,qq,rfl,S,sx,qu,F⟩
   refine ei qJ (pM Y U (ei qJ (pM Y U (ei qJ (pe (i_ (Z.length:Int)) (an rfl (S.rdAt (R:=(ar (roR J R0_) 30)) 0 rfl)) (ei qJ ?_))))));obtain ⟨yc,wB,F⟩:=ob F;refine pe (i_ yc) (cj rfl rfl wB) (ei qJ ?_);obtain ⟨Bt,wC,F⟩:=ob F;refine aD (wA:=ug) rfl (S.rdAt (R:=(ar (roR J R0_) 30)) 0 rfl) rfl (dt rfl) rfl wC (dt rfl) ?_;intro Bu y1 Bv rD ro;replace rD:R0_.rd J _ _:=rD;obtain ⟨yd,rfl⟩:=ax rD;refine ei qJ (pe yd (ac rfl (ro 0 _ rfl)) (ei qJ (pm rc (ei qJ ?_))));obtain ⟨uo,wD,F⟩:=ob F;refine ec0 dm (aL (S.up rD) (S.up qX) wD) (ca (ag rfl (ag rfl rfl))) S fun Bw wE S=>?_;have ro:=ai wE ro;refine ei qJ (pe (.bool (uo != 0)) (cq rfl rfl) (pe (.bool (uo != 0)) (az rfl qJ rfl) (en um ?_)));rcases oif F with ⟨sy,F⟩|⟨sy,F⟩
   ·refine ct sy (aj (pM Y U (pm rc ?_)));refine ay [rc] (aJ rfl (oc qX)) (by rfl) (dt rfl) rfl (dt rfl) S (dt rfl) ?_;intro Bx By S wF;have ro:=ai wF ro;obtain ⟨ye,wG,F⟩:=ob F;have tg:=S.boxRow 0 rfl;replace S:=S.t1;replace S:=S.roOne (R:=R0_) (W:=J) qX;replace S:=S.one;refine aE rfl (dt rfl) rfl (dt rfl) S rfl rfl rfl (by simp) tg wG (dt rfl) ?_;intro Bz uq S;refine pa uq (ak (bn qL (tn qx ?_)));replace S:=S.keep 1;exact ⟨sw,sN,qw,qz,uq,ye,rfl,qq,rfl,S,sx,qu,F⟩
   refine cf sy (aV (bn qL (tn qx ?_)));replace S:=S.keep 1;exact ⟨sw,sN,qw,qz,Y,Z,rfl,qq,U,S,sx,qu,F⟩
  refine cf ry (aR (tx sB (tx qx ?_)));replace F:=exB F uD;refine bS wS (tn wR ?_);refine sR fun _ yf=>?_;refine pM Y U (pa Y (en yf (ah (aw rfl rfl ?_))));have hr:=Option.some.inj F;exact ⟨Y,congrArg (fun (r:T2_)=>Ending.returned (Y)) hr,(S.rebase uB).below,Eq.mp (congrArg (fun (r:T2_)=>R3_.rd wU [Y] r) hr :) (pQ S.below (S.rdAt (R:=(ar (roR J R0_) 30)) 0 rfl))⟩
theorem j5 {w0 : World} {u0 : Value} {a0 : List T0_} (ha0 : R3_.rd w0 [u0] a0) {N : Nat} {r : T2_} (hF : cD N a0 = some r) :
    Calls Try.prog 129 #[u0] w0 fun e w' => ∃ (q0 : Value), e = .returned (q0) ∧ Ext w0 w' ∧ R3_.rd w' [q0] r := jx N ha0 hF
theorem ii {w0:World} {a0:Int} {u1:Value} {a1:List T0_} (ha1:R3_.rd w0 [u1] a1) {N:Nat} {r:T6_ × Bool} (F:dl N a0 a1=some r): Calls Try.prog 111 #[i_ a0,u1] w0 fun e w'=>∃ (q0:Value),e=.returned (.tuple #[.agg #[i_ r.1.1,q0],.bool r.2])∧Sat w0 w' [Own R3_ [q0] r.1.2] := by
 unfold dl at F;refine aC Try.func111 rfl rfl (dt rfl) ?_;have S:=Sat.start w0;refine sR fun _ rc=>?_;refine bG S (dt rfl) ?_;intro rA qr S rt;refine pa (.bool false) (en rc ?_);refine sg fun _ qC=>?_;refine sR fun _ re=>?_;refine pa (i_ 0) (en re ?_);refine bg fun _ qD=>?_;obtain ⟨rf,hL,qw⟩:=ob F;refine aU (fun k e w=>∃ (qp:Int),e 0=i_ a0∧e 1=u1∧e 4=.pointer (some ⟨qr,0,none⟩)∧e 6=i_ qp∧Sat w0 w [Box qr 26 [i_ 0,n_]]∧bC N k a0 a1 0 [] qp=some rf) N ?_ ?_ ?_
 ·exact ⟨0,rfl,rfl,rfl,rfl,S,hL⟩
 ·rintro e w ⟨_,_,_,_,_,_,hz⟩; exact nomatch (show none=some _ from hz)
 rintro k rC rD ⟨qp,qx,qu,Z,qv,S,F⟩;refine gn fun _ qy=>?_;refine sg fun _ qL=>?_;refine sR fun _ rg=>?_;refine pM (i_ qp) qv (pM u1 qu (pe (i_ (a1.length:Int)) (an rfl ha1) (pe (.bool (decide (qp < (a1.length:Int)))) (aY rfl rfl) (en rg ?_))));rcases oif F with ⟨qz,F⟩|⟨qz,F⟩
 ·refine ct qz (sn qL ?_);refine sg fun _ qE=>?_;refine bg fun _ qF=>?_;refine sR fun _ qN=>?_;refine pM u1 qu (pM (i_ qp) qv ?_);obtain ⟨qG,qV,F⟩:=ob F;refine aD (wA:=w0) rfl ha1 rfl (dt rfl) rfl qV (dt rfl) ?_;intro rE ru rF qJ qW;obtain ⟨rh,rfl⟩:=ax qJ;refine pe rh (ac rfl ((ai S.below qW) 0 _ rfl)) (pe (i_ (qG.length:Int)) (an rfl qJ) (pM (i_ a0) qx (pe (.bool ((qG.length:Int) != a0)) (cq rfl rfl) (pm (.bool ((qG.length:Int) != a0)) ?_))));rcases oif F with ⟨J,F⟩|⟨J,F⟩
  ·refine eo J (eo J (eo J (eo J (eo J (eo J (pe (.bool true) (au rfl J rfl) (en qN (ct rfl ?_))))))));refine sR fun _ ri=>?_;refine pe (.agg #[i_ 0,n_]) (cY [] [i_ 0,n_] rfl rfl) ?_;refine aB (S.top 0 rfl) Z [i_ 0,n_] rfl rfl (dt rfl) (all_cons rfl (all_cons rfl rfl)) ?_;intro qO S;replace S:Sat w0 qO [Box qr 26 [i_ 0,n_]]:=S;refine pa (.bool false) (en ri (ah (br qF (tr qE (tr qy (br qD (tr qC ?_)))))));replace F:=exL F qw;replace S:=S.nil R0_ 30;refine iP (cs:=[i_ 0,n_]) rfl Z rfl (aW (S.boxAt 1 rfl)) rfl ?_;have hr:=Option.some.inj F;exact ⟨n_,congrArg (fun (r:T6_ × Bool)=>Ending.returned (.tuple #[.agg #[i_ r.1.1,n_],.bool r.2])) hr,Eq.mp (congrArg (fun (r:T6_ × Bool)=>Sat w0 qO [Own R3_ [n_] r.1.2]) hr) (S.keep 1)⟩
  refine ei J (pM u1 qu (ei J (pM (i_ qp) qv (ei J ?_))));obtain ⟨rG,qX,F⟩:=ob F;refine aD (wA:=w0) rfl ha1 rfl (dt rfl) rfl qX (dt rfl) ?_;intro rH rx rJ qK qY;obtain ⟨rj,rfl⟩:=ax qK;refine ei J (pe rj (ac rfl ((ai S.below qY) 0 _ rfl)) (ei J ?_));obtain ⟨qP,qZ,F⟩:=ob F;refine ec0 nl (eM (S.up qK) qZ) (ca (ag rfl rfl)) S fun rK ry S=>?_;refine ei J (pe (.bool (!qP)) (bt rfl) (pe (.bool (!qP)) (az rfl J rfl) (en qN ?_)));rcases oif F with ⟨qA,F⟩|⟨qA,F⟩
  ·refine cf (am qA) (aV (bn qF (tn qE (aj (pM (i_ qp) qv ?_)))));obtain ⟨qH,q5,F⟩:=ob F;refine pe (i_ qH) (aF rfl rfl q5) (pa (i_ qH) (en qy ?_));replace S:=S.keep 1;exact ⟨qH,qx,qu,Z,rfl,S,F⟩
  refine ct (aq qA) ?_;refine sR fun _ rk=>?_;refine pe (.agg #[i_ 0,n_]) (cY [] [i_ 0,n_] rfl rfl) ?_;refine aB (S.top 0 rfl) Z [i_ 0,n_] rfl rfl (dt rfl) (all_cons rfl (all_cons rfl rfl)) ?_;intro qQ S;replace S:Sat w0 qQ [Box qr 26 [i_ 0,n_]]:=S;refine pa (.bool false) (en rk (ah (br qF (tr qE (tr qy (br qD (tr qC ?_)))))));replace F:=exL F qw;replace S:=S.nil R0_ 30;refine iP (cs:=[i_ 0,n_]) rfl Z rfl (aW (S.boxAt 1 rfl)) rfl ?_;have hr:=Option.some.inj F;exact ⟨n_,congrArg (fun (r:T6_ × Bool)=>Ending.returned (.tuple #[.agg #[i_ r.1.1,n_],.bool r.2])) hr,Eq.mp (congrArg (fun (r:T6_ × Bool)=>Sat w0 qQ [Own R3_ [n_] r.1.2]) hr) (S.keep 1)⟩
 refine cf qz (aR (tx qL (tx qy ?_)));replace F:=exA F qw;refine bS qD (tn qC ?_);refine sR fun _ rl=>?_;refine pM (i_ a0) qx (pM u1 qu ?_);obtain ⟨rL,q6,F⟩:=ob F;refine ba jT (j5 (S.up ha1) q6) (ca (ag rfl rfl)) (dt rfl) ?_;rintro _ rM ⟨qI,rfl,q7,qq⟩;refine ⟨_,rfl,?_⟩;replace S:=S.ext q7;refine pe (.agg #[i_ a0,qI]) (cY [(0,[i_ a0]),(1,[qI])] [i_ a0,qI] (f4 rfl (f4 (aJ rfl (oc qq)) rfl)) rfl) ?_;obtain ⟨Y,q8,F⟩:=ob F;refine ec1 oR (jX qq q8) (ca (ag rfl rfl)) S fun rN U q9 S=>?_;have qq:=c5 qq q9;refine bG S (dt rfl) ?_;intro rO qR S ra;have qq:=c5 qq ra;refine aB (S.top 0 rfl) rfl [i_ Y.1,U] rfl rfl (dt rfl) (all_cons rfl (all_cons (oc (S.rdAt (R:=R3_) 1 rfl)) rfl)) ?_;intro rn S;replace S:Sat w0 rn [Box qR 26 [i_ Y.1,U],Own R3_ [U] Y.2,Box qr 26 [i_ 0,n_]]:=S;refine en rl ?_;refine sg fun _ qS=>?_;refine sR fun _ ro=>?_;refine pe (.agg #[i_ Y.1,U]) (aK (cs:=[i_ Y.1,U]) rfl rfl (aW (S.boxAt 0 rfl))) ?_;obtain ⟨rp,rb,F⟩:=ob F;refine ec0 kP (dv (S.rdAt (R:=R3_) 1 rfl) rb) (ca (ag rfl rfl)) S fun rP rz S=>?_;refine pe (.bool (!rp)) (bt rfl) (en ro ?_);rcases oif F with ⟨qB,F⟩|⟨qB,F⟩
 ·refine cf (am qB) (sn qS ?_);refine sR fun _ rq=>?_;refine pe (.agg #[i_ Y.1,U]) (aK (cs:=[i_ Y.1,U]) rfl rfl (aW (S.boxAt 0 rfl))) ?_;refine aB (S.top 2 rfl) Z [i_ Y.1,U] rfl rfl (dt rfl) (all_cons rfl (all_cons (oc (S.rdAt (R:=R3_) 1 rfl)) rfl)) ?_;intro qT S;replace S:Sat w0 qT [Box qr 26 [i_ Y.1,U],Box qR 26 [i_ Y.1,U],Own R3_ [U] Y.2]:=S;refine pa (.bool true) (en rq (ah ?_));refine iP (cs:=[i_ Y.1,U]) rfl Z rfl (aW (S.boxAt 0 rfl)) rfl ?_;replace S:=S.t2;have hr:=Option.some.inj F;exact ⟨U,congrArg (fun (r:T6_ × Bool)=>Ending.returned (.tuple #[.agg #[i_ r.1.1,U],.bool r.2])) hr,Eq.mp (congrArg (fun (r:T6_ × Bool)=>Sat w0 qT [Own R3_ [U] r.1.2]) hr) (S.keep 1)⟩
 refine ct (aq qB) ?_;refine sg fun _ rr=>?_;replace S:=S.r1.r0;refine aj (pe (.agg #[i_ 0,n_]) (cY [] [i_ 0,n_] rfl rfl) ?_);refine aB (S.top 0 rfl) Z [i_ 0,n_] rfl rfl (dt rfl) (all_cons rfl (all_cons rfl rfl)) ?_;intro qU S;replace S:Sat w0 qU [Box qr 26 [i_ 0,n_]]:=S;refine pa (.bool false) (en rr (ah (tr qS ?_)));replace S:=S.nil R0_ 30;refine iP (cs:=[i_ 0,n_]) rfl Z rfl (aW (S.boxAt 1 rfl)) rfl ?_;have hr:=Option.some.inj F;exact ⟨n_,congrArg (fun (r:T6_ × Bool)=>Ending.returned (.tuple #[.agg #[i_ r.1.1,n_],.bool r.2])) hr,Eq.mp (congrArg (fun (r:T6_ × Bool)=>Sat w0 qU [Own R3_ [n_] r.1.2]) hr) (S.keep 1)⟩
theorem ky {w0:World} {Z:World} {G0:List Asn} {b0:Nat} {u0:Value} {a0:List Int} {a1:Int} {a2:Int} {a3:Int} {a4:Int} {a5:Int} (ha0:(ar u8R 5).rd Z [u0] a0) (S:Sat Z w0 (Box b0 101 [u0,i_ a1,i_ a2] :: G0)) {N:Nat} {r:T6_ × Int × Int} (F:fc N a0 a1 a2 a3 a4 a5=some r): Calls Try.prog 74 #[.pointer (some ⟨b0,0,none⟩),i_ a3,i_ a4,i_ a5] w0 fun e w'=>∃ (q0:Value),e=.returned (.agg #[i_ r.1.1,q0])∧Sat Z w' (Own R3_ [q0] r.1.2 :: Box b0 101 [u0,i_ r.2.1,i_ r.2.2] :: G0) := by
 unfold fc at F;refine aC Try.func74 rfl rfl (dt rfl) ?_;refine sR fun _ qW=>?_;refine bG S (dt rfl) ?_;intro ro qp S ri;refine en qW ?_;refine sR fun _ qX=>?_;refine bA R0_ S (dt rfl) ?_;intro rp qB S rj;refine pa qB (en qX ?_);refine sg fun _ qY=>?_;refine sR fun _ qZ=>?_;refine pm (.pointer (some ⟨b0,0,none⟩)) (pm (i_ a4) ?_);obtain ⟨q5,qP,F⟩:=ob F;refine pe (i_ q5) (aF rfl rfl qP) ?_;replace S:=S.t2;obtain ⟨qq,qQ,F⟩:=ob F;refine ba iI (dD ha0 S qQ) (ca (ag rfl (ag rfl rfl))) (dt rfl) ?_;rintro _ q6 ⟨rfl,S⟩;refine ⟨_,rfl,?_⟩;replace S:Sat Z q6 (Box b0 101 [u0,i_ qq.2.1,i_ qq.2.2] :: Own R3_ [qB] [] :: Box qp 26 [i_ 0,n_] :: G0):=S;refine pa (i_ qq.1) (en qZ ?_);refine bg fun _ q7=>?_;obtain ⟨q8,hL,qR⟩:=ob F;refine aU (fun k e w=>∃ (qu:Int),∃ (qv:Int),∃ (Y:Value),∃ (qw:List T0_),∃ (qr:Int),e 0=.pointer (some ⟨b0,0,none⟩)∧e 1=i_ a3∧e 3=i_ a5∧e 8=.pointer (some ⟨qp,0,none⟩)∧e 9=Y∧e 10=i_ qr∧Sat Z w (Box b0 101 [u0,i_ qu,i_ qv] :: Own R3_ [Y] qw :: Box qp 26 [i_ 0,n_] :: G0)∧dy N k a0 qu qv a3 a5 0 [] qw qr=some q8) N ?_ ?_ ?_
 ·exact ⟨qq.2.1,qq.2.2,qB,[],qq.1,rfl,rfl,rfl,rfl,rfl,rfl,S,hL⟩
 ·rintro e w ⟨_,_,_,_,_,_,_,_,_,_,_,_,hz⟩; exact nomatch (show none=some _ from hz)
 rintro k rq rr ⟨qu,qv,Y,qw,qr,qD,qy,qE,qz,qF,qG,S,F⟩;refine gn fun _ qI=>?_;refine sg fun _ qJ=>?_;refine sR fun _ q9=>?_;refine pM (i_ qr) qG (pe (.bool (decide (0 < qr))) (bM rfl rfl) (en q9 ?_));rcases oif F with ⟨qA,F⟩|⟨qA,F⟩
 ·refine ct qA (sn qJ ?_);refine sg fun _ ra=>?_;refine bg fun _ rb=>?_;refine aj (pM Y qF (pM (.pointer (some ⟨b0,0,none⟩)) qD (pM (i_ a3) qy (pM (i_ a5) qE ?_))));obtain ⟨qx,qS,F⟩:=ob F;refine ba mJ (hX ha0 S qS) (ca (ag rfl (ag rfl (ag rfl rfl)))) (dt rfl) ?_;rintro _ rc ⟨qK,rfl,S⟩;refine ⟨_,rfl,?_⟩;replace S:Sat Z rc (Own R0_ [qK] qx.1 :: Box b0 101 [u0,i_ qx.2.1,i_ qx.2.2] :: Own R3_ [Y] qw :: Box qp 26 [i_ 0,n_] :: G0):=S;refine ay [qK] (aJ rfl (oc (S.rdAt (R:=R0_) 0 rfl))) (by rfl) (dt rfl) rfl (dt rfl) S (dt rfl) ?_;intro rt ru S rk;obtain ⟨re,qT,F⟩:=ob F;have qH:=S.boxRow 0 rfl;replace S:=S.t3;replace S:=S.t2;replace S:=S.one;refine aE rfl (dt rfl) rfl (dt rfl) S rfl rfl rfl (by simp) qH qT (dt rfl) ?_;intro rx qL S;refine pa qL (ak (bn rb (tn ra ?_)));replace S:=S.r1;refine aj (pM (i_ qr) qG ?_);obtain ⟨qC,qU,F⟩:=ob F;refine pe (i_ qC) (cj rfl rfl qU) (pa (i_ qC) (en qI ?_));replace S:=S.t2.t1.t2;exact ⟨qx.2.1,qx.2.2,qL,re,qC,qD,qy,qE,qz,rfl,rfl,S,F⟩
 refine cf qA (aR (tx qJ (tx qI ?_)));replace F:=exB F qR;refine bS q7 (tn qY ?_);refine sR fun _ rf=>?_;refine pM (i_ a3) qy (pM Y qF ?_);obtain ⟨J,qV,F⟩:=ob F;refine ec1 ow (ii (S.rdAt (R:=R3_) 1 rfl) qV) (ca (ag rfl (ag rfl rfl))) S fun ry U rl S=>?_;refine pm (.tuple #[.agg #[i_ J.1.1,U],.bool J.2]) (pe (.agg #[i_ J.1.1,U]) (c6 rfl rfl) (pe (.bool J.2) (c6 rfl rfl) ?_));refine bG S (dt rfl) ?_;intro rz qN S rn;refine aB (S.top 0 rfl) rfl [i_ J.1.1,U] rfl rfl (dt rfl) (all_cons rfl (all_cons (oc (S.rdAt (R:=R3_) 1 rfl)) rfl)) ?_;intro rg S;replace S:Sat Z rg (Box qN 26 [i_ J.1.1,U] :: Own R3_ [U] J.1.2 :: Box b0 101 [u0,i_ qu,i_ qv] :: Own R3_ [Y] qw :: Box qp 26 [i_ 0,n_] :: G0):=S;refine pa (.bool J.2) (en rf ?_);refine sg fun _ rh=>?_;replace S:=S.r3;refine aj (pe (.agg #[i_ J.1.1,U]) (aK (cs:=[i_ J.1.1,U]) rfl rfl (aW (S.boxAt 0 rfl))) ?_);refine aB (S.top 3 rfl) qz [i_ J.1.1,U] rfl rfl (dt rfl) (all_cons rfl (all_cons (oc (S.rdAt (R:=R3_) 1 rfl)) rfl)) ?_;intro qO S;replace S:Sat Z qO (Box qp 26 [i_ J.1.1,U] :: Box qN 26 [i_ J.1.1,U] :: Own R3_ [U] J.1.2 :: Box b0 101 [u0,i_ qu,i_ qv] :: G0):=S;refine en rh (ah ?_);refine gG (cs:=[i_ J.1.1,U]) rfl qz rfl (aW (S.boxAt 0 rfl))  ?_;replace S:=S.t3.t3;have hr:=Option.some.inj F;replace S:=S.r3.r2;exact ⟨U,(congrArg (fun (r:T6_ × Int × Int)=>Ending.returned (.agg #[i_ r.1.1,U])) hr :),Eq.mp (congrArg (fun (r:T6_ × Int × Int)=>Sat Z qO (Own R3_ [U] r.1.2 :: Box b0 101 [u0,i_ r.2.1,i_ r.2.2] :: G0)) hr :) S⟩
theorem kB {w0:World} {Z:World} {G0:List Asn} {b0:Nat} {u0:Value} {a0:List Int} {a1:Int} {a2:Int} (ha0:(ar u8R 5).rd Z [u0] a0) (S:Sat Z w0 (Box b0 101 [u0,i_ a1,i_ a2] :: G0)) {N:Nat} {r:T6_ × Int × Int} (F:ff N a0 a1 a2=some r): Calls Try.prog 36 #[.pointer (some ⟨b0,0,none⟩)] w0 fun e w'=>∃ (q0:Value),e=.returned (.agg #[i_ r.1.1,q0])∧Sat Z w' (Own R3_ [q0] r.1.2 :: Box b0 101 [u0,i_ r.2.1,i_ r.2.2] :: G0) := by
 unfold ff at F;refine aC Try.func36 rfl rfl (dt rfl) ?_;refine sR fun _ rk=>?_;refine bG S (dt rfl) ?_;intro rT qp S rP;refine en rk ?_;refine sR fun _ rl=>?_;refine pm (.pointer (some ⟨b0,0,none⟩)) (pm (.pointer (some ⟨b0,0,none⟩)) ?_);replace S:=S.t1;obtain ⟨qP,q6,F⟩:=ob F;refine ba iI (dD ha0 S q6) (ca (ag rfl (ag rfl rfl))) (dt rfl) ?_;rintro _ rn ⟨rfl,S⟩;refine ⟨_,rfl,?_⟩;replace S:Sat Z rn (Box b0 101 [u0,i_ qP.2.1,i_ qP.2.2] :: Box qp 26 [i_ 0,n_] :: G0):=S;obtain ⟨U,q7,F⟩:=ob F;refine ba o2 (ky ha0 S q7) (ca (ag rfl (ag rfl (ag rfl (ag rfl rfl))))) (dt rfl) ?_;rintro _ ro ⟨J,rfl,S⟩;refine ⟨_,rfl,?_⟩;replace S:Sat Z ro (Own R3_ [J] U.1.2 :: Box b0 101 [u0,i_ U.2.1,i_ U.2.2] :: Box qp 26 [i_ 0,n_] :: G0):=S;refine bG S (dt rfl) ?_;intro rU Y S rQ;refine aB (S.top 0 rfl) rfl [i_ U.1.1,J] rfl rfl (dt rfl) (all_cons rfl (all_cons (oc (S.rdAt (R:=R3_) 1 rfl)) rfl)) ?_;intro rp S;replace S:Sat Z rp (Box Y 26 [i_ U.1.1,J] :: Own R3_ [J] U.1.2 :: Box b0 101 [u0,i_ U.2.1,i_ U.2.2] :: Box qp 26 [i_ 0,n_] :: G0):=S;refine en rl ?_;refine sg fun _ qA=>?_;refine sR fun _ rq=>?_;refine pm (.pointer (some ⟨b0,0,none⟩)) ?_;replace S:=S.t2;obtain ⟨qq,q8,F⟩:=ob F;refine ba iI (dD ha0 S q8) (ca (ag rfl (ag rfl rfl))) (dt rfl) ?_;rintro _ qQ ⟨rfl,S⟩;refine ⟨_,rfl,?_⟩;replace S:Sat Z qQ (Box b0 101 [u0,i_ qq.2.1,i_ qq.2.2] :: Box Y 26 [i_ U.1.1,J] :: Own R3_ [J] U.1.2 :: Box qp 26 [i_ 0,n_] :: G0):=S;refine en rq ?_;refine bg fun _ qB=>?_;refine sR fun _ rr=>?_;refine pe (.bool (qq.1 == 0)) (aG rfl rfl) (pa (.bool (qq.1 == 0)) (en rr ?_));rcases oif F with ⟨qC,F⟩|⟨qC,F⟩
 ·refine ct qC (aj (pm (.pointer (some ⟨b0,0,none⟩)) (pe (.pointer (some ⟨Y,0 + 0,none⟩)) (ae rfl) (pe (i_ U.1.1) (ac rfl ((S.boxAt 1 rfl) 0 _ rfl)) ?_))));obtain ⟨qD,q9,F⟩:=ob F;refine pe (i_ qD) (aF rfl rfl q9) ?_;refine fz (R:=bP) (xs:=([(-1),6,qD]:List Int)) [i_ (-1),i_ 6,i_ qD] rfl rfl rfl rfl (kK rfl (kK rfl (kK rfl rfl))) (jh ([(-1),6,qD]:List Int)) S (dt rfl) ?_;intro rV rW S rR;replace S:=S.t1;obtain ⟨qr,ra,F⟩:=ob F;refine ba kO (eF ha0 S ra) (ca (ag rfl (ag rfl rfl))) (dt rfl) ?_;rintro _ rt ⟨rfl,S⟩;refine ⟨_,rfl,?_⟩;replace S:Sat Z rt (Box b0 101 [u0,i_ qr.2.1,i_ qr.2.2] :: Box Y 26 [i_ U.1.1,J] :: Own R3_ [J] U.1.2 :: Box qp 26 [i_ 0,n_] :: G0):=S;refine pe (.pointer (some ⟨Y,0 + 0,none⟩)) (ae rfl) ?_;refine aB (S.top 1 rfl) rfl [i_ qr.1] rfl rfl (dt rfl) (all_cons rfl rfl) ?_;intro ru S;replace S:Sat Z ru (Box Y 26 [i_ qr.1,J] :: Box b0 101 [u0,i_ qr.2.1,i_ qr.2.2] :: Own R3_ [J] U.1.2 :: Box qp 26 [i_ 0,n_] :: G0):=S;refine ak (bn qB (tn qA ?_));refine sR fun _ rx=>?_;refine pe (.agg #[i_ qr.1,J]) (aK (cs:=[i_ qr.1,J]) rfl rfl (aW (S.boxAt 0 rfl))) ?_;refine aB (S.top 3 rfl) rfl [i_ qr.1,J] rfl rfl (dt rfl) (all_cons rfl (all_cons (oc (S.rdAt (R:=R3_) 2 rfl)) rfl)) ?_;intro qR S;replace S:Sat Z qR (Box qp 26 [i_ qr.1,J] :: Box Y 26 [i_ qr.1,J] :: Box b0 101 [u0,i_ qr.2.1,i_ qr.2.2] :: Own R3_ [J] U.1.2 :: G0):=S;refine en rx (ah ?_);refine gG (cs:=[i_ qr.1,J]) rfl rfl rfl (aW (S.boxAt 0 rfl))  ?_;replace S:=S.t2.t3;have hr:=Option.some.inj F;replace S:=S.r3.r2;exact ⟨J,(congrArg (fun (r:T6_ × Int × Int)=>Ending.returned (.agg #[i_ r.1.1,J])) hr :),Eq.mp (congrArg (fun (r:T6_ × Int × Int)=>Sat Z qR (Own R3_ [J] r.1.2 :: Box b0 101 [u0,i_ r.2.1,i_ r.2.2] :: G0)) hr :) S⟩
 refine cf qC ?_;refine sR fun _ ry=>?_;refine pe (.bool (qq.1 == 1)) (aG rfl rfl) (pa (.bool (qq.1 == 1)) (en ry ?_));rcases oif F with ⟨qE,F⟩|⟨qE,F⟩
 ·refine ct qE ?_;obtain ⟨C,hCd⟩:∃ C:World → Prop,∀ w,C w ↔ ∃ G,Sat Z w ([Box Y 26 [i_ U.1.1,J]] ++ G):=⟨_,fun _=>Iff.rfl⟩;refine dc [0,1,2,3,4,5,6,7,8,9] C (by kernel_rfl) ?_;intro rX rb;replace S:=S.ext rb;replace S:=S.t1;have hC:=(hCd _).2 ⟨_,S⟩;refine aP (.pointer (some ⟨Y,0 + 1,none⟩)) 0 rfl rfl hC (aA rfl (fun w' hw'=>by obtain ⟨_,S⟩:=(hCd _).1 hw'; exact (ae rfl))) ?_;refine aP J 1 rfl rfl hC (aA rfl (fun w' hw'=>by obtain ⟨_,S⟩:=(hCd _).1 hw'; exact (ac rfl ((S.boxAt 0 rfl) 1 _ rfl)))) ?_;refine aP (.pointer (some ⟨b0,0,none⟩)) 2 rfl rfl hC (aA rfl (fun w' hw'=>by obtain ⟨_,S⟩:=(hCd _).1 hw'; exact (aI rfl))) ?_;refine aO 3 rfl ?_;refine pe (.pointer (some ⟨Y,0 + 0,none⟩)) (ae rfl) (ak ?_);refine ⟨fun _=>hC,?_⟩;refine aO 4 rfl ?_;refine pe (i_ U.1.1) (ac rfl ((S.boxAt 0 rfl) 0 _ rfl)) (ak ?_);refine ⟨fun _=>hC,?_⟩;refine aO 5 rfl ?_;refine pe (i_ (imx 0 U.1.1)) (iw rfl rfl) (ak ?_);have hC:=(hCd _).2 ⟨_,S⟩;refine ⟨fun _=>hC,?_⟩;refine aO 6 rfl ?_;replace S:=S.t1;obtain ⟨qw,rc,F⟩:=ob F;refine ba mJ (hX ha0 S rc) (ca (ag rfl (ag rfl (ag rfl rfl)))) (dt rfl) ?_;rintro _ rz ⟨qI,rfl,S⟩;refine ⟨_,rfl,?_⟩;replace S:Sat Z rz (Own R0_ [qI] qw.1 :: Box b0 101 [u0,i_ qw.2.1,i_ qw.2.2] :: Box Y 26 [i_ U.1.1,J] :: Own R3_ [J] U.1.2 :: Box qp 26 [i_ 0,n_] :: G0):=S;refine ak ?_;replace S:=S.t2;have hC:=(hCd _).2 ⟨_,S⟩;refine ⟨fun _=>hC,?_⟩;refine aO 7 rfl ?_;refine ay [qI] (aJ rfl (oc (S.rdAt (R:=R0_) 1 rfl))) (by rfl) (dt rfl) rfl (dt rfl) S (dt rfl) ?_;intro rY rA S rS;refine ak ?_;replace S:=S.t1;have hC:=(hCd _).2 ⟨_,S⟩;refine ⟨fun _=>hC,?_⟩;refine aO 8 rfl ?_;obtain ⟨qS,re,F⟩:=ob F;have qO:=S.boxRow 1 rfl;replace S:=S.t4;replace S:=S.t3;replace S:=S.one;refine aE rfl (dt rfl) rfl (dt rfl) S rfl rfl rfl (by simp) qO re (dt rfl) ?_;intro rZ qu S;refine ak ?_;replace S:=S.t1;have hC:=(hCd _).2 ⟨_,S⟩;refine ⟨fun _=>hC,?_⟩;refine aO 9 rfl ?_;refine pe (.pointer (some ⟨Y,0 + 1,none⟩)) (ae rfl) (ak ?_);refine ⟨fun _=>hC,?_⟩;refine aO 10 rfl ?_;refine aB (S.top 0 rfl) rfl [qu] (aJ rfl (oc (S.rdAt (R:=R3_) 1 rfl))) rfl (dt rfl) (all_cons (oc (S.rdAt (R:=R3_) 1 rfl)) rfl) ?_;intro rC S;replace S:Sat Z rC (Box Y 26 [i_ U.1.1,qu] :: Own R3_ [qu] qS :: Box rA 30 [qI] :: Box b0 101 [u0,i_ qw.2.1,i_ qw.2.2] :: Box qp 26 [i_ 0,n_] :: G0):=S;refine ak ?_;refine ⟨fun h=>(nomatch (show false=true from h)),?_⟩;refine dC (by kernel_rfl) ?_;refine bn qB (tn qA ?_);refine sg fun _ rD=>?_;replace S:=S.r2;refine aj (pe (.agg #[i_ U.1.1,qu]) (aK (cs:=[i_ U.1.1,qu]) rfl rfl (aW (S.boxAt 0 rfl))) ?_);refine aB (S.top 3 rfl) rfl [i_ U.1.1,qu] rfl rfl (dt rfl) (all_cons rfl (all_cons (oc (S.rdAt (R:=R3_) 1 rfl)) rfl)) ?_;intro qT S;replace S:Sat Z qT (Box qp 26 [i_ U.1.1,qu] :: Box Y 26 [i_ U.1.1,qu] :: Own R3_ [qu] qS :: Box b0 101 [u0,i_ qw.2.1,i_ qw.2.2] :: G0):=S;refine en rD (ah ?_);refine gG (cs:=[i_ U.1.1,qu]) rfl rfl rfl (aW (S.boxAt 0 rfl))  ?_;replace S:=S.t3.t3;have hr:=Option.some.inj F;replace S:=S.r3.r2;exact ⟨qu,(congrArg (fun (r:T6_ × Int × Int)=>Ending.returned (.agg #[i_ r.1.1,qu])) hr :),Eq.mp (congrArg (fun (r:T6_ × Int × Int)=>Sat Z qT (Own R3_ [qu] r.1.2 :: Box b0 101 [u0,i_ r.2.1,i_ r.2.2] :: G0)) hr :) S⟩
 refine cf qE ?_;refine sR fun _ rE=>?_;refine pe (.bool (qq.1 == 2)) (aG rfl rfl) (pa (.bool (qq.1 == 2)) (en rE ?_));rcases oif F with ⟨qF,F⟩|⟨qF,F⟩
 ·refine ct qF ?_;refine sR fun _ qU=>?_;refine pe (.pointer (some ⟨Y,0 + 1,none⟩)) (ae rfl) (pe J (ac rfl ((S.boxAt 1 rfl) 1 _ rfl)) (pe (i_ (U.1.2.length:Int)) (an rfl (S.rdAt (R:=R3_) 2 rfl)) (pe (.bool (decide (0 < (U.1.2.length:Int)))) (bM rfl rfl) (pm (.bool (decide (0 < (U.1.2.length:Int)))) ?_))));rcases oif F with ⟨qv,F⟩|⟨qv,F⟩
  ·refine ei qv (pe (.pointer (some ⟨Y,0 + 0,none⟩)) (ae rfl) (ei qv (pe (i_ U.1.1) (ac rfl ((S.boxAt 1 rfl) 0 _ rfl)) (ei qv (pe (.bool (decide (0 < U.1.1))) (bM rfl rfl) (pe (.bool (decide (0 < U.1.1))) (au rfl qv rfl) (en qU ?_)))))));rcases oif F with ⟨qG,F⟩|⟨qG,F⟩
   ·refine ct qG ?_;obtain ⟨qV,qJ,F⟩:=ob F;replace S:=S.t2;obtain ⟨qH,rN,r7,rf,qz,S⟩:=S.takeOutC (m:=1) qJ rfl;obtain ⟨qx,rfl⟩:=ax qz;replace S:Sat Z qQ (Own R0_ [qx] qV :: iT R0_ 30 J U.1.2 (0:Int).toNat [qx] qH 1 :: Box b0 101 [u0,i_ qq.2.1,i_ qq.2.2] :: Box Y 26 [i_ U.1.1,J] :: Box qp 26 [i_ 0,n_] :: G0):=S;obtain ⟨C,hCd⟩:∃ C:World → Prop,∀ w,C w ↔ ∃ G,Sat Z w ([Box Y 26 [i_ U.1.1,J],iT R0_ 30 J U.1.2 (0:Int).toNat [qx] qH 1] ++ G):=⟨_,fun _=>Iff.rfl⟩;refine dc [0,1,2,3,4,5,6,7] C (by kernel_rfl) ?_;intro r8 qK;replace S:=S.ext qK;have qz:=c5 qz qK;replace S:=S.t1.t3;have hC:=(hCd _).2 ⟨_,S⟩;refine aP (.pointer (some ⟨Y,0 + 1,none⟩)) 0 rfl rfl hC (aA rfl (fun w' hw'=>by obtain ⟨_,S⟩:=(hCd _).1 hw'; exact (ae rfl))) ?_;refine aP J 1 rfl rfl hC (aA rfl (fun w' hw'=>by obtain ⟨_,S⟩:=(hCd _).1 hw'; exact (ac rfl ((S.boxAt 0 rfl) 1 _ rfl)))) ?_;refine aP (.pointer (some ⟨qH,(0:Int).toNat * 1,none⟩)) 2 rfl rfl hC (aA rfl (fun w' hw'=>by obtain ⟨_,S⟩:=(hCd _).1 hw'; exact (na (v:=J) rfl rf rfl qJ))) ?_;refine aP qx 3 rfl rfl hC (aA rfl (fun w' hw'=>by obtain ⟨_,S⟩:=(hCd _).1 hw'; exact (ac rfl ((S.holeCells 1 rfl) 0 _ rfl)))) ?_;refine aP (.pointer (some ⟨b0,0,none⟩)) 4 rfl rfl hC (aA rfl (fun w' hw'=>by obtain ⟨_,S⟩:=(hCd _).1 hw'; exact (aI rfl))) ?_;refine aO 5 rfl ?_;refine fz (R:=bP) (xs:=([(-1),100,99]:List Int)) [i_ (-1),i_ 100,i_ 99] rfl rfl rfl rfl (by rfl) (jh ([(-1),100,99]:List Int)) S (dt rfl) ?_;intro r9 sa S rg;have qz:=c5 qz rg;refine ak ?_;replace S:=S.t2.t2;have hC:=(hCd _).2 ⟨_,S⟩;refine ⟨fun _=>hC,?_⟩;refine aO 6 rfl ?_;replace S:=S.t2.t4;obtain ⟨qy,rh,F⟩:=ob F;refine ba kO (eF ha0 S rh) (ca (ag rfl (ag rfl rfl))) (dt rfl) ?_;rintro _ rF ⟨rfl,S⟩;refine ⟨_,rfl,?_⟩;replace S:Sat Z rF (Box b0 101 [u0,i_ qy.2.1,i_ qy.2.2] :: Box Y 26 [i_ U.1.1,J] :: iT R0_ 30 J U.1.2 (0:Int).toNat [qx] qH 1 :: Own R0_ [qx] qV :: Box qp 26 [i_ 0,n_] :: G0):=S;refine ak ?_;replace S:=S.t2.t2;have hC:=(hCd _).2 ⟨_,S⟩;refine ⟨fun _=>hC,?_⟩;refine aO 7 rfl ?_;obtain ⟨sc,qL,F⟩:=ob F;obtain ⟨rG,rO,qN⟩:=cy 3 S rfl qL;refine pe (.pointer (some ⟨rG,(0:Int).toNat * 1,none⟩)) (b6 (v:=qx) rfl qN rfl qL) (ak ?_);refine ⟨fun _=>hC,?_⟩;refine aO 8 rfl ?_;obtain ⟨sd,ri,F⟩:=ob F;replace S:=S.t3;replace S:=S.int qy.1;refine eZ rfl qN S ri rfl rfl ?_;intro rH S;replace S:=S.t2;replace S:=S.t1;obtain ⟨qW,rj,F⟩:=ob F;replace S:=S.putBackC rj;replace S:Sat Z rH (Own R3_ [J] qW :: Box Y 26 [i_ U.1.1,J] :: Box b0 101 [u0,i_ qy.2.1,i_ qy.2.2] :: Box qp 26 [i_ 0,n_] :: G0):=S;refine ak ?_;refine ⟨fun h=>(nomatch (show false=true from h)),?_⟩;refine dC (by kernel_rfl) ?_;refine bn qB (tn qA ?_);refine sR fun _ rJ=>?_;refine pe (.agg #[i_ U.1.1,J]) (aK (cs:=[i_ U.1.1,J]) rfl rfl (aW (S.boxAt 1 rfl))) ?_;refine aB (S.top 3 rfl) rfl [i_ U.1.1,J] rfl rfl (dt rfl) (all_cons rfl (all_cons (oc (S.rdAt (R:=R3_) 0 rfl)) rfl)) ?_;intro qX S;replace S:Sat Z qX (Box qp 26 [i_ U.1.1,J] :: Own R3_ [J] qW :: Box Y 26 [i_ U.1.1,J] :: Box b0 101 [u0,i_ qy.2.1,i_ qy.2.2] :: G0):=S;refine en rJ (ah ?_);refine gG (cs:=[i_ U.1.1,J]) rfl rfl rfl (aW (S.boxAt 0 rfl))  ?_;replace S:=S.t3.t2;have hr:=Option.some.inj F;replace S:=S.r3.r2;exact ⟨J,(congrArg (fun (r:T6_ × Int × Int)=>Ending.returned (.agg #[i_ r.1.1,J])) hr :),Eq.mp (congrArg (fun (r:T6_ × Int × Int)=>Sat Z qX (Own R3_ [J] r.1.2 :: Box b0 101 [u0,i_ r.2.1,i_ r.2.2] :: G0)) hr :) S⟩
   refine cf qG (aV (bn qB (tn qA ?_)));refine sR fun _ rK=>?_;refine pe (.agg #[i_ U.1.1,J]) (aK (cs:=[i_ U.1.1,J]) rfl rfl (aW (S.boxAt 1 rfl))) ?_;refine aB (S.top 3 rfl) rfl [i_ U.1.1,J] rfl rfl (dt rfl) (all_cons rfl (all_cons (oc (S.rdAt (R:=R3_) 2 rfl)) rfl)) ?_;intro qY S;replace S:Sat Z qY (Box qp 26 [i_ U.1.1,J] :: Box b0 101 [u0,i_ qq.2.1,i_ qq.2.2] :: Box Y 26 [i_ U.1.1,J] :: Own R3_ [J] U.1.2 :: G0):=S;refine en rK (ah ?_);refine gG (cs:=[i_ U.1.1,J]) rfl rfl rfl (aW (S.boxAt 0 rfl))  ?_;replace S:=S.t1.t3;have hr:=Option.some.inj F;replace S:=S.r3.r2;exact ⟨J,(congrArg (fun (r:T6_ × Int × Int)=>Ending.returned (.agg #[i_ r.1.1,J])) hr :),Eq.mp (congrArg (fun (r:T6_ × Int × Int)=>Sat Z qY (Own R3_ [J] r.1.2 :: Box b0 101 [u0,i_ r.2.1,i_ r.2.2] :: G0)) hr :) S⟩
  refine eo qv (eo qv (eo qv (pe (.bool false) (az rfl qv rfl) (en qU (cf rfl (aV (bn qB (tn qA ?_))))))));refine sR fun _ rL=>?_;refine pe (.agg #[i_ U.1.1,J]) (aK (cs:=[i_ U.1.1,J]) rfl rfl (aW (S.boxAt 1 rfl))) ?_;refine aB (S.top 3 rfl) rfl [i_ U.1.1,J] rfl rfl (dt rfl) (all_cons rfl (all_cons (oc (S.rdAt (R:=R3_) 2 rfl)) rfl)) ?_;intro qZ S;replace S:Sat Z qZ (Box qp 26 [i_ U.1.1,J] :: Box b0 101 [u0,i_ qq.2.1,i_ qq.2.2] :: Box Y 26 [i_ U.1.1,J] :: Own R3_ [J] U.1.2 :: G0):=S;refine en rL (ah ?_);refine gG (cs:=[i_ U.1.1,J]) rfl rfl rfl (aW (S.boxAt 0 rfl))  ?_;replace S:=S.t1.t3;have hr:=Option.some.inj F;replace S:=S.r3.r2;exact ⟨J,(congrArg (fun (r:T6_ × Int × Int)=>Ending.returned (.agg #[i_ r.1.1,J])) hr :),Eq.mp (congrArg (fun (r:T6_ × Int × Int)=>Sat Z qZ (Own R3_ [J] r.1.2 :: Box b0 101 [u0,i_ r.2.1,i_ r.2.2] :: G0)) hr :) S⟩
 refine cf qF (aV (bn qB (tn qA ?_)));refine sR fun _ rM=>?_;refine pe (.agg #[i_ U.1.1,J]) (aK (cs:=[i_ U.1.1,J]) rfl rfl (aW (S.boxAt 1 rfl))) ?_;refine aB (S.top 3 rfl) rfl [i_ U.1.1,J] rfl rfl (dt rfl) (all_cons rfl (all_cons (oc (S.rdAt (R:=R3_) 2 rfl)) rfl)) ?_;intro q5 S;replace S:Sat Z q5 (Box qp 26 [i_ U.1.1,J] :: Box b0 101 [u0,i_ qq.2.1,i_ qq.2.2] :: Box Y 26 [i_ U.1.1,J] :: Own R3_ [J] U.1.2 :: G0):=S;refine en rM (ah ?_);refine gG (cs:=[i_ U.1.1,J]) rfl rfl rfl (aW (S.boxAt 0 rfl))  ?_;replace S:=S.t1.t3;have hr:=Option.some.inj F;replace S:=S.r3.r2;exact ⟨J,(congrArg (fun (r:T6_ × Int × Int)=>Ending.returned (.agg #[i_ r.1.1,J])) hr :),Eq.mp (congrArg (fun (r:T6_ × Int × Int)=>Sat Z q5 (Own R3_ [J] r.1.2 :: Box b0 101 [u0,i_ r.2.1,i_ r.2.2] :: G0)) hr :) S⟩
theorem fh {w0:World} {u0:Value} {a0:List Int} (ha0:(ar u8R 5).rd w0 [u0] a0) {N:Nat} {r:Int × Int × List T0_} (F:bX N a0=some r): Calls Try.prog 7 #[u0] w0 fun e w'=>∃ (q0:Value),e=.returned (.tuple #[i_ r.1,.agg #[i_ r.2.1,q0]])∧Sat w0 w' [Own R3_ [q0] r.2.2] := by
 unfold bX at F;refine aC Try.func7 rfl rfl (dt rfl) ?_;have S:=Sat.start w0;refine sR fun _ qw=>?_;refine pa (i_ 0) ?_;refine bG S (dt rfl) ?_;intro qD Z S qB;refine en qw ?_;refine sR fun _ qx=>?_;refine pm u0 ?_;obtain ⟨qE,qr,F⟩:=ob F;refine ba pD (kA (S.up ha0) qr) (ca (ag rfl rfl)) (dt rfl) ?_;rintro _ qF ⟨Y,rfl,S'⟩;refine ⟨_,rfl,?_⟩;have qC:=S'.below;replace S:=S.call1 S';refine pa (.pointer (some ⟨Y,0,none⟩)) (en qx ?_);refine sR fun _ qy=>?_;refine pm (.pointer (some ⟨Y,0,none⟩)) ?_;obtain ⟨qp,qu,F⟩:=ob F;refine ba pB (jK ha0 S qu) (ca (ag rfl rfl)) (dt rfl) ?_;rintro _ qz ⟨rfl,S⟩;refine ⟨_,rfl,?_⟩;replace S:Sat w0 qz [Box Y 101 [u0,i_ qp.2.1,i_ qp.2.2],Box Z 26 [i_ 0,n_]]:=S;refine pm (.pointer (some ⟨Y,0,none⟩)) ?_;obtain ⟨J,qv,F⟩:=ob F;refine ba pG (kB ha0 S qv) (ca (ag rfl rfl)) (dt rfl) ?_;rintro _ qA ⟨U,rfl,S⟩;refine ⟨_,rfl,?_⟩;replace S:Sat w0 qA [Own R3_ [U] J.1.2,Box Y 101 [u0,i_ J.2.1,i_ J.2.2],Box Z 26 [i_ 0,n_]]:=S;refine pa (i_ qp.1) ?_;refine aB (S.top 2 rfl) rfl [i_ J.1.1,U] rfl rfl (dt rfl) (all_cons rfl (all_cons (oc (S.rdAt (R:=R3_) 0 rfl)) rfl)) ?_;intro qq S;replace S:Sat w0 qq [Box Z 26 [i_ J.1.1,U],Own R3_ [U] J.1.2,Box Y 101 [u0,i_ J.2.1,i_ J.2.2]]:=S;refine en qy (ah ?_);refine pH (cs1:=[i_ J.1.1,U]) rfl rfl rfl rfl (aW (S.boxAt 0 rfl)) ?_;replace S:=S.t1;have hr:=Option.some.inj F;exact ⟨U,congrArg (fun (r:Int × Int × List T0_)=>Ending.returned (.tuple #[i_ r.1,.agg #[i_ r.2.1,U]])) hr,Eq.mp (congrArg (fun (r:Int × Int × List T0_)=>Sat w0 qq [Own R3_ [U] r.2.2]) hr) (S.keep 1)⟩
theorem cE {w0:World} {a0:Int}  {N:Nat} {r:Int} (F:bN N a0=some r): Calls Try.prog 14 #[i_ a0] w0 fun e w'=>e=.returned (i_ r)∧Ext w0 w' := by
 unfold bN at F;refine aC Try.func14 rfl rfl (dt rfl) ?_;have S:=Sat.start w0;refine sR fun _ Y=>?_;refine pa (i_ 0) (en Y ?_);refine sg fun _ U=>?_;refine sR fun _ Z=>?_;refine pm (i_ a0) (pe (.bool (a0 == 2)) (aG rfl rfl) (en Z ?_));rcases oif F with ⟨J,F⟩|⟨J,F⟩
 ·refine ct J ?_;refine sR fun _ qp=>?_;refine pa (i_ 1000000000) (en qp (ah (tr U (aw rfl rfl ?_))));exact rI F S
 refine cf J (sn U ?_);refine sR fun _ qq=>?_;refine pa (i_ 0) (en qq (ah (aw rfl rfl ?_)));exact rI F S
theorem da {w0:World} {a0:Int}  {N:Nat} {r:Int} (F:c7 N a0=some r): Calls Try.prog 50 #[i_ a0] w0 fun e w'=>e=.returned (i_ r)∧Ext w0 w' := by
 unfold c7 at F;refine aC Try.func50 rfl rfl (dt rfl) ?_;have S:=Sat.start w0;refine sR fun _ J=>?_;refine pa (i_ 0) (en J ?_);refine sR fun _ U=>?_;refine pm (i_ a0) (pe (i_ (imn a0 1000000000)) (e7 rfl rfl) (pe (i_ (imx 0 (imn a0 1000000000))) (iw rfl rfl) (pa (i_ (imx 0 (imn a0 1000000000))) (en U (ah (aw rfl rfl ?_))))));exact rI F S
theorem fB {w0:World} {a0:Bool}  {N:Nat} {r:Int} (F:es N a0=some r): Calls Try.prog 51 #[.bool a0] w0 fun e w'=>e=.returned (i_ r)∧Ext w0 w' := by
 unfold es at F;refine aC Try.func51 rfl rfl (dt rfl) ?_;have S:=Sat.start w0;refine sR fun _ Y=>?_;refine pa (i_ 0) (en Y ?_);refine sg fun _ U=>?_;refine sR fun _ Z=>?_;refine pm (.bool a0) (en Z ?_);rcases oif F with ⟨J,F⟩|⟨J,F⟩
 ·refine ct J ?_;refine sR fun _ qp=>?_;refine pa (i_ 1) (en qp (ah (tr U (aw rfl rfl ?_))));exact rI F S
 refine cf J (sn U ?_);refine sR fun _ qq=>?_;refine pa (i_ 0) (en qq (ah (aw rfl rfl ?_)));exact rI F S
theorem dZ {w0:World} {a0:Int} {a1:Int} {a2:Int}  {N:Nat} {r:Int} (F:b7 N a0 a1 a2=some r): Calls Try.prog 15 #[i_ a0,i_ a1,i_ a2] w0 fun e w'=>e=.returned (i_ r)∧Ext w0 w' := by
 unfold b7 at F;refine aC Try.func15 rfl rfl (dt rfl) ?_;have S:=Sat.start w0;refine sR fun _ qD=>?_;refine pa (i_ 0) (en qD ?_);refine sR fun _ qE=>?_;refine pm (i_ a1) ?_;obtain ⟨J,qx,F⟩:=ob F;refine ec0 fG (da qx) (ca (ag rfl rfl)) S fun qY qT S=>?_;refine pm (i_ a2) ?_;obtain ⟨U,qy,F⟩:=ob F;refine ec0 fG (da qy) (ca (ag rfl rfl)) S fun qZ qU S=>?_;refine pa (i_ J) (pa (i_ U) (en qE ?_));refine sg fun _ Z=>?_;refine sR fun _ qF=>?_;refine pm (i_ a0) (en qF ?_);refine bg fun _ qp=>?_;refine sR fun _ qG=>?_;refine pe (.bool (a0 == 1)) (aG rfl rfl) (pa (.bool (a0 == 1)) (en qG ?_));rcases oif F with ⟨qq,F⟩|⟨qq,F⟩
 ·refine ct qq ?_;refine sR fun _ qH=>?_;refine pm (i_ J) (pm (i_ U) ?_);obtain ⟨qI,qz,F⟩:=ob F;refine pe (i_ qI) (aF rfl rfl qz) ?_;obtain ⟨qJ,qA,F⟩:=ob F;refine ec0 fG (da qA) (ca (ag rfl rfl)) S fun q5 qV S=>?_;refine pa (i_ qJ) (en qH (ah (br qp (tr Z (aw rfl rfl ?_)))));exact rI F S
 refine cf qq ?_;refine sR fun _ qK=>?_;refine pe (.bool (a0 == 2)) (aG rfl rfl) (pa (.bool (a0 == 2)) (en qK ?_));rcases oif F with ⟨qr,F⟩|⟨qr,F⟩
 ·refine ct qr ?_;refine sR fun _ qL=>?_;refine pm (i_ J) (pm (i_ U) (pe (i_ (imn J U)) (e7 rfl rfl) (pa (i_ (imn J U)) (en qL (ah (br qp (tr Z (aw rfl rfl ?_))))))));exact rI F S
 refine cf qr ?_;refine sR fun _ qN=>?_;refine pe (.bool (a0 == 3)) (aG rfl rfl) (pa (.bool (a0 == 3)) (en qN ?_));rcases oif F with ⟨qu,F⟩|⟨qu,F⟩
 ·refine ct qu ?_;refine sR fun _ qw=>?_;refine pm (i_ J) (pe (.bool (decide (0 < J))) (bM rfl rfl) (pm (.bool (decide (0 < J))) ?_));rcases oif F with ⟨Y,F⟩|⟨Y,F⟩
  ·refine eo Y (eo Y (pe (.bool true) (au rfl Y rfl) ?_));obtain ⟨qO,qB,F⟩:=ob F;refine ec0 jz (fB qB) (ca (ag rfl rfl)) S fun q6 qW S=>?_;refine pa (i_ qO) (en qw (ah (br qp (tr Z (aw rfl rfl ?_)))));exact rI F S
  refine ei Y (pm (i_ U) (ei Y (pe (.bool (decide (0 < U))) (bM rfl rfl) (pe (.bool (decide (0 < U))) (az rfl Y rfl) ?_))));obtain ⟨qP,qC,F⟩:=ob F;refine ec0 jz (fB qC) (ca (ag rfl rfl)) S fun q7 qX S=>?_;refine pa (i_ qP) (en qw (ah (br qp (tr Z (aw rfl rfl ?_)))));exact rI F S
 refine cf qu ?_;refine sR fun _ qQ=>?_;refine pe (.bool (a0 == 4)) (aG rfl rfl) (pa (.bool (a0 == 4)) (en qQ ?_));rcases oif F with ⟨qv,F⟩|⟨qv,F⟩
 ·refine ct qv ?_;refine sR fun _ qR=>?_;refine pm (i_ J) (pm (i_ U) (pe (i_ (imx J U)) (iw rfl rfl) (pa (i_ (imx J U)) (en qR (ah (br qp (tr Z (aw rfl rfl ?_))))))));exact rI F S
 refine cf qv (aV (bn qp (tn Z ?_)));refine sR fun _ qS=>?_;refine pa (i_ 0) (en qS (ah (aw rfl rfl ?_)));exact rI F S
theorem cA {w0:World} {a0:Int} {a1:Int} {a2:Int}  {N:Nat} {r:Bool} (F:b9 N a0 a1 a2=some r): Calls Try.prog 65 #[i_ a0,i_ a1,i_ a2] w0 fun e w'=>e=.returned (.bool r)∧Ext w0 w' := by
 unfold b9 at F;refine aC Try.func65 rfl rfl (dt rfl) ?_;have S:=Sat.start w0;refine sR fun _ Y=>?_;refine pa (.bool false) (en Y ?_);refine sR fun _ U=>?_;refine pm (i_ a0) (pm (i_ a1) (pe (.bool (decide (a1 ≤ a0))) (gV rfl rfl) (pm (.bool (decide (a1 ≤ a0))) ?_)));rcases oif F with ⟨J,F⟩|⟨J,F⟩
 ·refine ei J (pm (i_ a0) (ei J (pm (i_ a2) (ei J (pe (.bool (decide (a0 ≤ a2))) (iq rfl rfl) (pe (.bool (decide (a0 ≤ a2))) (au rfl J rfl) (pa (.bool (decide (a0 ≤ a2))) (en U (ah (aw rfl rfl ?_))))))))));exact rB F S
 refine eo J (eo J (eo J (pe (.bool false) (az rfl J rfl) (pa (.bool false) (en U (ah (aw rfl rfl ?_)))))));exact rB F S
theorem cM {w0:World} {a0:Int}  {N:Nat} {r:Bool} (F:bI N a0=some r): Calls Try.prog 37 #[i_ a0] w0 fun e w'=>e=.returned (.bool r)∧Ext w0 w' := by
 unfold bI at F;refine aC Try.func37 rfl rfl (dt rfl) ?_;have S:=Sat.start w0;refine sR fun _ U=>?_;refine pa (.bool false) (en U ?_);refine sR fun _ Y=>?_;refine pm (i_ a0) ?_;obtain ⟨Z,J,F⟩:=ob F;refine ec0 fO (cA J) (ca (ag rfl (ag rfl (ag rfl rfl)))) S fun qq qp S=>?_;refine pa (.bool Z) (en Y (ah (aw rfl rfl ?_)));exact rB F S
theorem dY {w0:World} {a0:Int} {a1:Int}  {N:Nat} {r:Int} (F:cx N a0 a1=some r): Calls Try.prog 73 #[i_ a0,i_ a1] w0 fun e w'=>e=.returned (i_ r)∧Ext w0 w' := by
 unfold cx at F;refine aC Try.func73 rfl rfl (dt rfl) ?_;have S:=Sat.start w0;refine sR fun _ qp=>?_;refine pa (i_ 0) (en qp ?_);refine sg fun _ Y=>?_;refine bg fun _ Z=>?_;refine sR fun _ qq=>?_;refine pm (i_ a0) (pm (i_ a1) (pe (.bool (decide (a0 < a1))) (aY rfl rfl) (pa (.bool (decide (a0 < a1))) (en qq ?_))));rcases oif F with ⟨J,F⟩|⟨J,F⟩
 ·refine ct J ?_;refine sR fun _ qr=>?_;refine pa (i_ (-1)) (en qr (ah (br Z (tr Y (aw rfl rfl ?_)))));exact rI F S
 refine cf J ?_;refine sR fun _ qu=>?_;refine pm (i_ a0) (pm (i_ a1) (pe (.bool (decide (a1 < a0))) (bM rfl rfl) (pa (.bool (decide (a1 < a0))) (en qu ?_))));rcases oif F with ⟨U,F⟩|⟨U,F⟩
 ·refine ct U ?_;refine sR fun _ qv=>?_;refine pa (i_ 1) (en qv (ah (br Z (tr Y (aw rfl rfl ?_)))));exact rI F S
 refine cf U (aV (bn Z (tn Y ?_)));refine sR fun _ qw=>?_;refine pa (i_ 0) (en qw (ah (aw rfl rfl ?_)));exact rI F S

end Go.Proofs.Ytdapplkijobjoaa
namespace Go.Proofs.Ytdapplkijobjoaa
open Go.RowKit
set_option maxRecDepth 100000
set_option maxHeartbeats 4000000
theorem ic {w0:World} {u0:Value} {a0:List Int} {u1:Value} {a1:List Int} (ha0:R0_.rd w0 [u0] a0) (ha1:R0_.rd w0 [u1] a1) {N:Nat} {r:Int} (F:dr N a0 a1=some r): Calls Try.prog 33 #[u0,u1] w0 fun e w'=>e=.returned (i_ r)∧Ext w0 w' := by
 unfold dr at F;refine aC Try.func33 rfl rfl (dt rfl) ?_;have S:=Sat.start w0;refine sR fun _ qZ=>?_;refine pa (i_ 0) (en qZ ?_);refine sg fun _ qw=>?_;refine sR fun _ q5=>?_;refine pa (i_ 0) (en q5 ?_);refine bg fun _ qx=>?_;obtain ⟨q6,hL,qq⟩:=ob F;refine aU (fun k e w=>∃ (J:Int),e 0=u0∧e 1=u1∧e 5=i_ J∧Sat w0 w []∧cO N k a0 a1 J=some q6) N ?_ ?_ ?_
 ·exact ⟨0,rfl,rfl,rfl,S,hL⟩
 ·rintro e w ⟨_,_,_,_,_,hz⟩; exact nomatch (show none=some _ from hz)
 rintro k rn ro ⟨J,Z,qp,Y,S,F⟩;refine gn fun _ qr=>?_;refine sg fun _ qy=>?_;refine sR fun _ qA=>?_;refine pM (i_ J) Y (pM u0 Z (pe (i_ (a0.length:Int)) (an rfl ha0) (pe (.bool (decide (J < (a0.length:Int)))) (aY rfl rfl) (pm (.bool (decide (J < (a0.length:Int)))) ?_))));rcases oif F with ⟨U,F⟩|⟨U,F⟩
 ·refine ei U (pM (i_ J) Y (ei U (pM u1 qp (ei U (pe (i_ (a1.length:Int)) (an rfl ha1) (ei U (pe (.bool (decide (J < (a1.length:Int)))) (aY rfl rfl) (pe (.bool (decide (J < (a1.length:Int)))) (au rfl U rfl) (en qA ?_)))))))));rcases oif F with ⟨qu,F⟩|⟨qu,F⟩
  ·refine ct qu (sn qy ?_);refine sg fun _ qB=>?_;refine bg fun _ qC=>?_;refine sg fun _ q7=>?_;refine cd (by kernel_rfl) (by kernel_rfl) ?_;refine qM u0 Z (qM (i_ J) Y ?_);obtain ⟨qD,qG,F⟩:=ob F;refine aN (wA:=w0) rfl ha0 rfl (dt rfl) rfl qG (dt rfl) ?_;intro rp rg rq qH qI;obtain rfl:=qH;refine qe (i_ qD) (ac rfl ((ai S.below qI) 0 _ rfl)) (qM u1 qp (qM (i_ J) Y ?_));obtain ⟨qE,qJ,F⟩:=ob F;refine aN (wA:=w0) rfl ha1 rfl (dt rfl) rfl qJ (dt rfl) ?_;intro rr rh rt qK qL;obtain rfl:=qK;refine qe (i_ qE) (ac rfl ((ai S.below qL) 0 _ rfl)) (qe (.bool (qD != qE)) (cq rfl rfl) (bQ ?_));intro ru qN;replace S:=S.ext qN;refine tn q7 ?_;rcases oif F with ⟨qv,F⟩|⟨qv,F⟩
   ·refine ct qv ?_;refine sg fun _ q8=>?_;refine cd (by kernel_rfl) (by kernel_rfl) ?_;refine qM u0 Z (qM (i_ J) Y ?_);obtain ⟨q9,qO,F⟩:=ob F;refine aN (wA:=w0) rfl ha0 rfl (dt rfl) rfl qO (dt rfl) ?_;intro rx ri ry qP qQ;obtain rfl:=qP;refine qe (i_ q9) (ac rfl ((ai S.below qQ) 0 _ rfl)) (qM u1 qp (qM (i_ J) Y ?_));obtain ⟨ra,qR,F⟩:=ob F;refine aN (wA:=w0) rfl ha1 rfl (dt rfl) rfl qR (dt rfl) ?_;intro rz rj rA qS qT;obtain rfl:=qS;refine qe (i_ ra) (ac rfl ((ai S.below qT) 0 _ rfl)) ?_;obtain ⟨qF,qU,F⟩:=ob F;refine dV (i_ qF) k5 (fun w' hw'=>dY qU) (ca (ag rfl (ag rfl rfl))) (dt rfl) ?_;refine qe (i_ qF) (dh rfl) (bQ ?_);intro rC qV;replace S:=S.ext qV;refine tn q8 (ah (br qC (tr qB (tr qr (br qx (tr qw ?_))))));replace F:=exL F qq;refine aw rfl rfl ?_;exact rI F S
   refine cf qv (aV (bn qC (tn qB (aj (pM (i_ J) Y ?_)))));obtain ⟨qz,qW,F⟩:=ob F;refine pe (i_ qz) (aF rfl rfl qW) (pa (i_ qz) (en qr ?_));replace S:=S.keep 0;exact ⟨qz,Z,qp,rfl,S,F⟩
  refine cf qu (aR (tx qy (tx qr ?_)));replace F:=exA F qq;refine bS qx (tn qw ?_);refine sR fun _ rb=>?_;refine pM u0 Z (pe (i_ (a0.length:Int)) (an rfl ha0) (pM u1 qp (pe (i_ (a1.length:Int)) (an rfl ha1) ?_)));obtain ⟨rc,qX,F⟩:=ob F;refine ec0 k5 (dY qX) (ca (ag rfl (ag rfl rfl))) S fun rD rk S=>?_;refine pa (i_ rc) (en rb (ah (aw rfl rfl ?_)));exact rI F S
 refine eo U (eo U (eo U (eo U (pe (.bool false) (az rfl U rfl) (en qA (cf rfl (aR (tx qy (tx qr ?_)))))))));replace F:=exA F qq;refine bS qx (tn qw ?_);refine sR fun _ re=>?_;refine pM u0 Z (pe (i_ (a0.length:Int)) (an rfl ha0) (pM u1 qp (pe (i_ (a1.length:Int)) (an rfl ha1) ?_)));obtain ⟨rf,qY,F⟩:=ob F;refine ec0 k5 (dY qY) (ca (ag rfl (ag rfl rfl))) S fun rE rl S=>?_;refine pa (i_ rf) (en re (ah (aw rfl rfl ?_)));exact rI F S
theorem eN {w0:World} {u0:Value} {a0:List Int} (ha0:R0_.rd w0 [u0] a0) {N:Nat} {r:Bool} (F:cm N a0=some r): Calls Try.prog 112 #[u0] w0 fun e w'=>e=.returned (.bool r)∧Ext w0 w' := by
 unfold cm at F;refine aC Try.func112 rfl rfl (dt rfl) ?_;have S:=Sat.start w0;refine sR fun _ qH=>?_;refine pa (.bool false) (en qH ?_);refine sg fun _ qx=>?_;refine sR fun _ qI=>?_;refine pm u0 (pe (i_ (a0.length:Int)) (an rfl ha0) (pm (i_ 0) (en qI ?_)));refine bg fun _ qy=>?_;obtain ⟨qJ,hL,qu⟩:=ob F;refine aU (fun k e w=>∃ (J:Int),e 5=u0∧e 6=i_ (a0.length:Int)∧e 7=i_ J∧Sat w0 w []∧bz N k a0 (a0.length:Int) J=some qJ) N ?_ ?_ ?_
 ·exact ⟨0,rfl,rfl,rfl,S,hL⟩
 ·rintro e w ⟨_,_,_,_,_,hz⟩; exact nomatch (show none=some _ from hz)
 rintro k qT qU ⟨J,qv,qw,U,S,F⟩;refine gn fun _ qp=>?_;refine sR fun _ qK=>?_;refine pe (.bool (decide (J < (a0.length:Int)))) (aY U qw) (en qK ?_);refine sg fun _ qz=>?_;rcases oif F with ⟨Y,F⟩|⟨Y,F⟩
 ·refine ct Y (sn qz ?_);refine sg fun _ qA=>?_;refine bg fun _ qB=>?_;refine sR fun _ qL=>?_;obtain ⟨qq,qC,F⟩:=ob F;refine aD (wA:=w0) qv ha0 rfl (dt rfl) U qC (dt rfl) ?_;intro qV qR qW qD qE;obtain rfl:=qD;refine pe (i_ qq) (ac rfl ((ai S.below qE) 0 _ rfl)) (pa (i_ qq) (en qL ?_));refine sR fun _ qN=>?_;refine pm (i_ qq) ?_;obtain ⟨qO,qF,F⟩:=ob F;refine ec0 fO (cA qF) (ca (ag rfl (ag rfl (ag rfl rfl)))) S fun qX qS S=>?_;refine pe (.bool (!qO)) (bt rfl) (en qN ?_);rcases oif F with ⟨Z,F⟩|⟨Z,F⟩
  ·refine cf (am Z) (aV (bn qB (tn qA (aj ?_))));obtain ⟨qr,qG,F⟩:=ob F;refine pe (i_ qr) (aF U rfl qG) (pm (i_ qr) (en qp ?_));replace S:=S.keep 0;exact ⟨qr,qv,qw,rfl,S,F⟩
  refine ct (aq Z) ?_;refine sR fun _ qP=>?_;refine pa (.bool false) (en qP (ah (br qB (tr qA (tr qp (br qy (tr qx ?_)))))));replace F:=exL F qu;refine aw rfl rfl ?_;exact rB F S
 refine cf Y (aR (tx qz (tx qp ?_)));replace F:=exA F qu;refine bS qy (tn qx ?_);refine sR fun _ qQ=>?_;refine pa (.bool true) (en qQ (ah (aw rfl rfl ?_)));exact rB F S
theorem iW {w0:World} {a0:Int} {u1:Value} {a1:List T0_} (ha1:R3_.rd w0 [u1] a1) {N:Nat} {r:Bool} (F:dS N a0 a1=some r): Calls Try.prog 76 #[i_ a0,u1] w0 fun e w'=>e=.returned (.bool r)∧Ext w0 w' := by
 unfold dS at F;refine aC Try.func76 rfl rfl (dt rfl) ?_;have S:=Sat.start w0;refine sR fun _ q9=>?_;refine pa (.bool false) (en q9 ?_);refine sg fun _ qJ=>?_;refine sR fun _ qR=>?_;refine pm (i_ a0) ?_;obtain ⟨qS,qU,F⟩:=ob F;refine ec0 fO (cA qU) (ca (ag rfl (ag rfl (ag rfl rfl)))) S fun ru ro S=>?_;refine pe (.bool (!qS)) (bt rfl) (pm (.bool (!qS)) ?_);rcases oif F with ⟨Y,F⟩|⟨Y,F⟩
 ·refine ei (am Y) (pm u1 (ei (am Y) (pe (i_ (a1.length:Int)) (an rfl ha1) (ei (am Y) (pe (.bool (decide (4000 < (a1.length:Int)))) (bM rfl rfl) (pe (.bool (decide (4000 < (a1.length:Int)))) (az rfl (am Y) rfl) (en qR ?_)))))));rcases oif F with ⟨qz,F⟩|⟨qz,F⟩
  ·refine ct qz ?_;refine sR fun _ ra=>?_;refine pa (.bool false) (en ra (ah (tr qJ (aw rfl rfl ?_))));exact rB F S
  refine cf qz (sn qJ ?_);refine sg fun _ qA=>?_;refine sR fun _ rb=>?_;refine pm u1 (pe (i_ (a1.length:Int)) (an rfl ha1) (pm (i_ 0) (en rb ?_)));refine bg fun _ qB=>?_;obtain ⟨rc,hL,qu⟩:=ob F;refine aU (fun k e w=>∃ (qp:Int),e 0=i_ a0∧e 1=u1∧e 15=u1∧e 16=i_ (a1.length:Int)∧e 17=i_ qp∧Sat w0 w []∧bO N k a0 a1 a1 (a1.length:Int) qp=some rc) N ?_ ?_ ?_
  ·exact ⟨0,rfl,rfl,rfl,rfl,rfl,S,hL⟩
  ·rintro e w ⟨_,_,_,_,_,_,_,hz⟩; exact nomatch (show none=some _ from hz)
  rintro k rx ry ⟨qp,qC,qD,qE,qF,qq,S,F⟩;refine gn fun _ qr=>?_;refine sR fun _ re=>?_;refine pe (.bool (decide (qp < (a1.length:Int)))) (aY qq qF) (en re ?_);refine sg fun _ qT=>?_;rcases oif F with ⟨qG,F⟩|⟨qG,F⟩
  ·refine ct qG (sn qT ?_);refine sg fun _ qw=>?_;refine bg fun _ qx=>?_;refine sR fun _ rf=>?_;refine pM (i_ qp) qq ?_;obtain ⟨qK,qV,F⟩:=ob F;refine aD (wA:=w0) qE ha1 rfl (dt rfl) qq qV (dt rfl) ?_;intro rz rp rA qv qW;obtain ⟨qy,rfl⟩:=ax qv;refine pe qy (ac rfl ((ai S.below qW) 0 _ rfl)) (pa (i_ qp) (pa qy (en rf ?_)));refine sR fun _ qH=>?_;refine pm qy (pe (i_ (qK.length:Int)) (an rfl qv) (pM (i_ a0) qC (pe (.bool ((qK.length:Int) != a0)) (cq rfl rfl) (pm (.bool ((qK.length:Int) != a0)) ?_))));rcases oif F with ⟨Z,F⟩|⟨Z,F⟩
   ·refine eo Z (eo Z (eo Z (pe (.bool true) (au rfl Z rfl) (pm (.bool true) (eo rfl (eo rfl (eo rfl ?_)))))));refine cL rfl (dt rfl) ?_;refine cL rfl (dt rfl) ?_;refine cL rfl (dt rfl) ?_;refine cL rfl (dt rfl) ?_;refine cL rfl (dt rfl) ?_;refine cL rfl (dt rfl) ?_;refine cL rfl (dt rfl) ?_;refine cL rfl (dt rfl) ?_;refine eo rfl (pe (.bool true) (au rfl rfl rfl) (en qH (ct rfl ?_)));refine sR fun _ rg=>?_;refine pa (.bool false) (en rg (ah (br qx (tr qw (tr qr (br qB (tr qA ?_)))))));replace F:=exL F qu;refine aw rfl rfl ?_;exact rB F S
   refine ei Z (pm qy (ei Z ?_));obtain ⟨qL,qX,F⟩:=ob F;refine ec0 lP (eN (S.up qv) qX) (ca (ag rfl rfl)) S fun rC rq S=>?_;refine ei Z (pe (.bool (!qL)) (bt rfl) (pe (.bool (!qL)) (az rfl Z rfl) (pm (.bool (!qL)) ?_)));rcases oif F with ⟨U,F⟩|⟨U,F⟩
   ·refine ei (am U) (pm (i_ qp) (ei (am U) (pe (.bool (decide (0 < qp))) (bM rfl rfl) (ei (am U) (pm (.bool (decide (0 < qp))) ?_)))));rcases oif F with ⟨J,F⟩|⟨J,F⟩
    ·refine ei J (pM u1 qD (ei J (pm (i_ qp) (ei J ?_))));obtain ⟨rh,qY,F⟩:=ob F;refine pe (i_ rh) (cj rfl rfl qY) (ei J ?_);obtain ⟨rD,qZ,F⟩:=ob F;refine aD (wA:=w0) rfl ha1 rfl (dt rfl) rfl qZ (dt rfl) ?_;intro rE rr rF qQ q5;obtain ⟨ri,rfl⟩:=ax qQ;refine ei J (pe ri (ac rfl ((ai S.below q5) 0 _ rfl)) (ei J (pm qy (ei J ?_))));obtain ⟨qN,q6,F⟩:=ob F;refine ec0 pq (ic (S.up qQ) (S.up qv) q6) (ca (ag rfl (ag rfl rfl))) S fun rG rt S=>?_;refine ei J (pe (.bool (decide (0 ≤ qN))) (gV rfl rfl) (ei (am U) (pe (.bool (decide (0 ≤ qN))) (au rfl J rfl) (pe (.bool (decide (0 ≤ qN))) (az rfl (am U) rfl) (en qH ?_)))));rcases oif F with ⟨qI,F⟩|⟨qI,F⟩
     ·refine ct qI ?_;refine sR fun _ rj=>?_;refine pa (.bool false) (en rj (ah (br qx (tr qw (tr qr (br qB (tr qA ?_)))))));replace F:=exL F qu;refine aw rfl rfl ?_;exact rB F S
     refine cf qI (aV (bn qx (tn qw (aj ?_))));obtain ⟨qO,q7,F⟩:=ob F;refine pe (i_ qO) (aF qq rfl q7) (pm (i_ qO) (en qr ?_));replace S:=S.keep 0;exact ⟨qO,qC,qD,qE,qF,rfl,S,F⟩
    refine eo J (eo J (eo J (eo J (eo J (eo J (eo J (eo J (ei (am U) (pe (.bool false) (az rfl J rfl) (pe (.bool false) (az rfl (am U) rfl) (en qH (cf rfl (aV (bn qx (tn qw (aj ?_))))))))))))))));obtain ⟨qP,q8,F⟩:=ob F;refine pe (i_ qP) (aF qq rfl q8) (pm (i_ qP) (en qr ?_));replace S:=S.keep 0;exact ⟨qP,qC,qD,qE,qF,rfl,S,F⟩
   refine eo (aq U) (eo (aq U) (eo (aq U) ?_));refine cL rfl (dt rfl) ?_;refine cL rfl (dt rfl) ?_;refine cL rfl (dt rfl) ?_;refine cL rfl (dt rfl) ?_;refine cL rfl (dt rfl) ?_;refine cL rfl (dt rfl) ?_;refine cL rfl (dt rfl) ?_;refine cL rfl (dt rfl) ?_;refine eo (aq U) (pe (.bool true) (au rfl (aq U) rfl) (en qH (ct rfl ?_)));refine sR fun _ rk=>?_;refine pa (.bool false) (en rk (ah (br qx (tr qw (tr qr (br qB (tr qA ?_)))))));replace F:=exL F qu;refine aw rfl rfl ?_;exact rB F S
  refine cf qG (aR (tx qT (tx qr ?_)));replace F:=exA F qu;refine bS qB (tn qA ?_);refine sR fun _ rl=>?_;refine pa (.bool true) (en rl (ah (aw rfl rfl ?_)));exact rB F S
 refine eo (aq Y) (eo (aq Y) (eo (aq Y) (pe (.bool true) (au rfl (aq Y) rfl) (en qR (ct rfl ?_)))));refine sR fun _ rn=>?_;refine pa (.bool false) (en rn (ah (tr qJ (aw rfl rfl ?_))));exact rB F S
theorem gl {w0:World} {a0:Int} {u1:Value} {a1:List T0_} (ha1:R3_.rd w0 [u1] a1) {N:Nat} {r:Bool} (F:cI N a0 a1=some r): Calls Try.prog 38 #[.agg #[i_ a0,u1]] w0 fun e w'=>e=.returned (.bool r)∧Ext w0 w' := by
 unfold cI at F;refine aC Try.func38 rfl rfl (dt rfl) ?_;have S:=Sat.start w0;refine sR fun _ Y=>?_;refine cR [i_ a0,u1] rfl S (dt rfl) ?_;intro qu J S qq;refine pa (.bool false) (en Y ?_);refine sR fun _ Z=>?_;refine pe (.pointer (some ⟨J,0 + 0,none⟩)) (ae rfl) (pe (i_ a0) (ac rfl ((S.boxAt 0 rfl) 0 _ rfl)) (pe (.pointer (some ⟨J,0 + 1,none⟩)) (ae rfl) (pe u1 (ac rfl ((S.boxAt 0 rfl) 1 _ rfl)) ?_)));obtain ⟨qp,U,F⟩:=ob F;refine ec0 o7 (iW (S.up ha1) U) (ca (ag rfl (ag rfl rfl))) S fun qv qr S=>?_;refine pa (.bool qp) (en Z (ah (aw rfl rfl ?_)));exact rB F S
theorem fm {w0:World} {a0:Int}  {N:Nat} {r:Int} (F:cT N a0=some r): Calls Try.prog 39 #[i_ a0] w0 fun e w'=>e=.returned (i_ r)∧Ext w0 w' := by
 unfold cT at F;refine aC Try.func39 rfl rfl (dt rfl) ?_;have S:=Sat.start w0;refine sR fun _ qq=>?_;refine pa (i_ 0) (en qq ?_);refine sg fun _ Y=>?_;refine sR fun _ qp=>?_;refine pm (i_ a0) (pe (.bool (a0 == 1)) (aG rfl rfl) (pm (.bool (a0 == 1)) ?_));rcases oif F with ⟨J,F⟩|⟨J,F⟩
 ·refine eo J (eo J (pe (.bool true) (au rfl J rfl) (pm (.bool true) (eo rfl (eo rfl (pe (.bool true) (au rfl rfl rfl) (en qp (ct rfl ?_))))))));refine sR fun _ qr=>?_;refine pa (i_ 1) (en qr (ah (tr Y (aw rfl rfl ?_))));exact rI F S
 refine ei J (pm (i_ a0) (ei J (pe (.bool (a0 == 3)) (aG rfl rfl) (pe (.bool (a0 == 3)) (az rfl J rfl) (pm (.bool (a0 == 3)) ?_)))));rcases oif F with ⟨U,F⟩|⟨U,F⟩
 ·refine eo U (eo U (pe (.bool true) (au rfl U rfl) (en qp (ct rfl ?_))));refine sR fun _ qu=>?_;refine pa (i_ 1) (en qu (ah (tr Y (aw rfl rfl ?_))));exact rI F S
 refine ei U (pm (i_ a0) (ei U (pe (.bool (a0 == 4)) (aG rfl rfl) (pe (.bool (a0 == 4)) (az rfl U rfl) (en qp ?_)))));rcases oif F with ⟨Z,F⟩|⟨Z,F⟩
 ·refine ct Z ?_;refine sR fun _ qv=>?_;refine pa (i_ 1) (en qv (ah (tr Y (aw rfl rfl ?_))));exact rI F S
 refine cf Z (sn Y ?_);refine sR fun _ qw=>?_;refine pa (i_ 0) (en qw (ah (aw rfl rfl ?_)));exact rI F S
theorem fj {w0:World} {a0:Int} {a1:Int} {a2:Int}  {N:Nat} {r:Int} (F:c3 N a0 a1 a2=some r): Calls Try.prog 40 #[i_ a0,i_ a1,i_ a2] w0 fun e w'=>e=.returned (i_ r)∧Ext w0 w' := by
 unfold c3 at F;refine aC Try.func40 rfl rfl (dt rfl) ?_;have S:=Sat.start w0;refine sR fun _ qI=>?_;refine pa (i_ 0) (en qI ?_);refine sR fun _ qJ=>?_;refine pm (i_ a1) ?_;obtain ⟨U,qy,F⟩:=ob F;refine ec0 fG (da qy) (ca (ag rfl rfl)) S fun re q6 S=>?_;refine pm (i_ a2) ?_;obtain ⟨Y,qz,F⟩:=ob F;refine ec0 fG (da qz) (ca (ag rfl rfl)) S fun rf q7 S=>?_;refine pa (i_ U) (pa (i_ Y) (en qJ ?_));refine sg fun _ Z=>?_;refine sR fun _ qK=>?_;refine pm (i_ a0) (en qK ?_);refine bg fun _ qp=>?_;refine sg fun _ qw=>?_;refine sR fun _ qL=>?_;refine pe (.bool (a0 == 1)) (aG rfl rfl) (pa (.bool (a0 == 1)) (en qL ?_));rcases oif F with ⟨qq,F⟩|⟨qq,F⟩
 ·refine ct qq (sn qw (ct qq ?_));refine sR fun _ qN=>?_;refine pm (i_ U) (pm (i_ Y) ?_);obtain ⟨qO,qA,F⟩:=ob F;refine pe (i_ qO) (ee rfl rfl qA) ?_;obtain ⟨qP,qB,F⟩:=ob F;refine ec0 fG (da qB) (ca (ag rfl rfl)) S fun rg q8 S=>?_;refine pa (i_ qP) (en qN (ah (br qp (tr Z (aw rfl rfl ?_)))));exact rI F S
 refine cf qq (aj (pe (.bool (a0 == 4)) (aG rfl rfl) (pa (.bool (a0 == 4)) (en qw ?_))));rcases oif F with ⟨qr,F⟩|⟨qr,F⟩
 ·refine ct qr ?_;refine sR fun _ qQ=>?_;refine pm (i_ U) (pm (i_ Y) ?_);obtain ⟨qR,qC,F⟩:=ob F;refine pe (i_ qR) (ee rfl rfl qC) ?_;obtain ⟨qS,qD,F⟩:=ob F;refine ec0 fG (da qD) (ca (ag rfl rfl)) S fun rh q9 S=>?_;refine pa (i_ qS) (en qQ (ah (br qp (tr Z (aw rfl rfl ?_)))));exact rI F S
 refine cf qr ?_;refine sR fun _ qT=>?_;refine pe (.bool (a0 == 2)) (aG rfl rfl) (pa (.bool (a0 == 2)) (en qT ?_));rcases oif F with ⟨qu,F⟩|⟨qu,F⟩
 ·refine ct qu ?_;refine sR fun _ qU=>?_;refine pm (i_ U) (pm (i_ Y) ?_);obtain ⟨qV,qE,F⟩:=ob F;refine pe (i_ qV) (aF rfl rfl qE) ?_;obtain ⟨qW,qF,F⟩:=ob F;refine ec0 fG (da qF) (ca (ag rfl rfl)) S fun ri ra S=>?_;refine pa (i_ qW) (en qU (ah (br qp (tr Z (aw rfl rfl ?_)))));exact rI F S
 refine cf qu ?_;refine sR fun _ qX=>?_;refine pe (.bool (a0 == 3)) (aG rfl rfl) (pa (.bool (a0 == 3)) (en qX ?_));rcases oif F with ⟨qv,F⟩|⟨qv,F⟩
 ·refine ct qv ?_;refine sR fun _ qx=>?_;refine pm (i_ U) (pe (.bool (decide (0 < U))) (bM rfl rfl) (pm (.bool (decide (0 < U))) ?_));rcases oif F with ⟨J,F⟩|⟨J,F⟩
  ·refine ei J (pm (i_ Y) (ei J (pe (.bool (decide (0 < Y))) (bM rfl rfl) (pe (.bool (decide (0 < Y))) (au rfl J rfl) ?_))));obtain ⟨qY,qG,F⟩:=ob F;refine ec0 jz (fB qG) (ca (ag rfl rfl)) S fun rj rb S=>?_;refine pa (i_ qY) (en qx (ah (br qp (tr Z (aw rfl rfl ?_)))));exact rI F S
  refine eo J (eo J (pe (.bool false) (az rfl J rfl) ?_));obtain ⟨qZ,qH,F⟩:=ob F;refine ec0 jz (fB qH) (ca (ag rfl rfl)) S fun rk rc S=>?_;refine pa (i_ qZ) (en qx (ah (br qp (tr Z (aw rfl rfl ?_)))));exact rI F S
 refine cf qv (aV (bn qp (tn Z ?_)));refine sR fun _ q5=>?_;refine pa (i_ 0) (en q5 (ah (aw rfl rfl ?_)));exact rI F S
theorem fi {w0:World} {a0:Int} {a1:Int} {a2:Int}  {N:Nat} {r:Int} (F:cZ N a0 a1 a2=some r): Calls Try.prog 41 #[i_ a0,i_ a1,i_ a2] w0 fun e w'=>e=.returned (i_ r)∧Ext w0 w' := by
 unfold cZ at F;refine aC Try.func41 rfl rfl (dt rfl) ?_;have S:=Sat.start w0;refine sR fun _ qP=>?_;refine pa (i_ 0) (en qP ?_);refine sg fun _ Y=>?_;refine sR fun _ qr=>?_;refine pm (i_ a0) ?_;obtain ⟨qy,qC,F⟩:=ob F;refine ec0 jL (cM qC) (ca (ag rfl rfl)) S fun re ra S=>?_;refine pe (.bool (!qy)) (bt rfl) (pm (.bool (!qy)) ?_);rcases oif F with ⟨J,F⟩|⟨J,F⟩
 ·refine ei (am J) (pm (i_ a1) (ei (am J) ?_));obtain ⟨qu,qD,F⟩:=ob F;refine ec0 fO (cA qD) (ca (ag rfl (ag rfl (ag rfl rfl)))) S fun rf rb S=>?_;refine ei (am J) (pe (.bool (!qu)) (bt rfl) (pe (.bool (!qu)) (az rfl (am J) rfl) (pm (.bool (!qu)) ?_)));rcases oif F with ⟨U,F⟩|⟨U,F⟩
  ·refine ei (am U) (pm (i_ a2) (ei (am U) ?_));obtain ⟨qz,qE,F⟩:=ob F;refine ec0 fO (cA qE) (ca (ag rfl (ag rfl (ag rfl rfl)))) S fun rg rc S=>?_;refine ei (am U) (pe (.bool (!qz)) (bt rfl) (pe (.bool (!qz)) (az rfl (am U) rfl) (en qr ?_)));rcases oif F with ⟨Z,F⟩|⟨Z,F⟩
   ·refine cf (am Z) (sn Y ?_);refine sg fun _ qv=>?_;refine sR fun _ qQ=>?_;refine pm (i_ a0) (en qQ ?_);refine bg fun _ qw=>?_;refine sR fun _ qR=>?_;refine pe (.bool (a0 == 1)) (aG rfl rfl) (pa (.bool (a0 == 1)) (en qR ?_));rcases oif F with ⟨qp,F⟩|⟨qp,F⟩
    ·refine ct qp ?_;refine sR fun _ qS=>?_;refine pm (i_ a2) (pm (i_ a1) ?_);obtain ⟨qT,qF,F⟩:=ob F;refine pe (i_ qT) (aF rfl rfl qF) ?_;obtain ⟨qU,qG,F⟩:=ob F;refine pe (i_ qU) (fE rfl rfl qG) ?_;obtain ⟨qA,qH,F⟩:=ob F;refine pe (i_ qA) (aF rfl rfl qH) (pa (i_ qA) (en qS (ah (br qw (tr qv (aw rfl rfl ?_))))));exact rI F S
    refine cf qp ?_;refine sR fun _ qV=>?_;refine pe (.bool (a0 == 3)) (aG rfl rfl) (pa (.bool (a0 == 3)) (en qV ?_));rcases oif F with ⟨qq,F⟩|⟨qq,F⟩
    ·refine ct qq ?_;refine sR fun _ qW=>?_;refine pm (i_ a2) (pm (i_ a1) ?_);obtain ⟨qX,qI,F⟩:=ob F;refine pe (i_ qX) (aF rfl rfl qI) ?_;obtain ⟨qx,qJ,F⟩:=ob F;refine pe (i_ qx) (fE rfl rfl qJ) (pe (i_ (imn 1 qx)) (e7 rfl rfl) (pa (i_ (imn 1 qx)) (en qW (ah (br qw (tr qv (aw rfl rfl ?_)))))));exact rI F S
    refine cf qq (aV (bn qw (tn qv ?_)));refine sR fun _ qY=>?_;refine pm (i_ a2) ?_;obtain ⟨qZ,qK,F⟩:=ob F;refine pe (i_ qZ) (ee rfl rfl qK) (pm (i_ a1) ?_);obtain ⟨q5,qL,F⟩:=ob F;refine pe (i_ q5) (aF rfl rfl qL) ?_;obtain ⟨q6,qN,F⟩:=ob F;refine pe (i_ q6) (fE rfl rfl qN) ?_;obtain ⟨qB,qO,F⟩:=ob F;refine pe (i_ qB) (aF rfl rfl qO) (pa (i_ qB) (en qY (ah (aw rfl rfl ?_))));exact rI F S
   refine ct (aq Z) ?_;refine sR fun _ q7=>?_;refine pa (i_ 0) (en q7 (ah (tr Y (aw rfl rfl ?_))));exact rI F S
  refine eo (aq U) (eo (aq U) (eo (aq U) (pe (.bool true) (au rfl (aq U) rfl) (en qr (ct rfl ?_)))));refine sR fun _ q8=>?_;refine pa (i_ 0) (en q8 (ah (tr Y (aw rfl rfl ?_))));exact rI F S
 refine eo (aq J) (eo (aq J) (eo (aq J) (pe (.bool true) (au rfl (aq J) rfl) (pm (.bool true) (eo rfl (eo rfl (eo rfl (pe (.bool true) (au rfl rfl rfl) (en qr (ct rfl ?_))))))))));refine sR fun _ q9=>?_;refine pa (i_ 0) (en q9 (ah (tr Y (aw rfl rfl ?_))));exact rI F S
theorem fY {w0:World} {a0:Int} {a1:Int} {u2:Value} {a2:List T0_} (ha2:R3_.rd w0 [u2] a2) {N:Nat} {r:Int} (F:cu N a0 a1 a2=some r): Calls Try.prog 8 #[i_ a0,.agg #[i_ a1,u2]] w0 fun e w'=>e=.returned (i_ r)∧Ext w0 w' := by
 unfold cu at F;refine aC Try.func8 rfl rfl (dt rfl) ?_;have S:=Sat.start w0;refine sR fun _ rp=>?_;refine cR [i_ a1,u2] rfl S (dt rfl) ?_;intro r8 rq S rR;refine pa (i_ 0) (en rp ?_);refine sR fun _ rr=>?_;refine pm (i_ a0) ?_;obtain ⟨qp,q7,F⟩:=ob F;refine ec0 iG (cE q7) (ca (ag rfl rfl)) S fun r9 rS S=>?_;refine pa (i_ qp) (en rr ?_);refine sg fun _ qC=>?_;refine sR fun _ qS=>?_;refine pm (i_ a0) ?_;obtain ⟨qT,q8,F⟩:=ob F;refine ec0 jL (cM q8) (ca (ag rfl rfl)) S fun sa rT S=>?_;refine pe (.bool (!qT)) (bt rfl) (pm (.bool (!qT)) ?_);rcases oif F with ⟨J,F⟩|⟨J,F⟩
 ·refine ei (am J) (pe (.agg #[i_ a1,u2]) (aK (cs:=[i_ a1,u2]) rfl rfl (aW (S.boxAt 0 rfl))) (ei (am J) ?_));obtain ⟨qU,q9,F⟩:=ob F;refine ec0 pA (gl (S.up ha2) q9) (ca (ag rfl rfl)) S fun sc rU S=>?_;refine ei (am J) (pe (.bool (!qU)) (bt rfl) (pe (.bool (!qU)) (az rfl (am J) rfl) (en qS ?_)));rcases oif F with ⟨qw,F⟩|⟨qw,F⟩
  ·refine cf (am qw) (sn qC ?_);refine sg fun _ rt=>?_;refine sR fun _ ru=>?_;refine pe (.pointer (some ⟨rq,0 + 1,none⟩)) (ae rfl) (pe u2 (ac rfl ((S.boxAt 0 rfl) 1 _ rfl)) (pe (i_ (a2.length:Int)) (an rfl ha2) (pm (i_ 0) (en ru ?_))));refine bg fun _ rx=>?_;obtain ⟨ry,hL,ra⟩:=ob F;replace S:=S.r0;refine aU (fun k e w=>∃ (U:Int),∃ (qq:Int),e 0=i_ a0∧e 5=i_ U∧e 23=u2∧e 24=i_ (a2.length:Int)∧e 25=i_ qq∧Sat w0 w []∧bk N k a0 U a2 (a2.length:Int) qq=some ry) N ?_ ?_ ?_
   ·exact ⟨qp,0,rfl,rfl,rfl,rfl,rfl,S,hL⟩
   ·rintro e w ⟨_,_,_,_,_,_,_,_,hz⟩; exact nomatch (show none=some _ from hz)
   rintro k sd se ⟨U,qq,qG,qH,qI,qJ,qx,S,F⟩;refine gn fun _ qV=>?_;refine sR fun _ rz=>?_;refine pe (.bool (decide (qq < (a2.length:Int)))) (aY qx qJ) (en rz ?_);refine sg fun _ qW=>?_;rcases oif F with ⟨qy,F⟩|⟨qy,F⟩
   ·refine ct qy (sn qW ?_);refine sg fun _ rA=>?_;refine bg fun _ rC=>?_;refine sR fun _ rD=>?_;obtain ⟨qu,rb,F⟩:=ob F;refine aD (wA:=w0) qI ha2 rfl (dt rfl) qx rb (dt rfl) ?_;intro sf rV sh qz rc;obtain ⟨qA,rfl⟩:=ax qz;refine pe qA (ac rfl ((ai S.below rc) 0 _ rfl)) (pa qA (en rD ?_));refine sR fun _ rE=>?_;refine pM (i_ a0) qG ?_;obtain ⟨qX,re,F⟩:=ob F;refine ec0 nk (fm re) (ca (ag rfl rfl)) S fun si rW S=>?_;refine pa (i_ qX) (en rE ?_);refine sg fun _ rF=>?_;refine sR fun _ rG=>?_;refine pm qA (pe (i_ (qu.length:Int)) (an rfl qz) (pm (i_ 0) (en rG ?_)));refine bg fun _ rH=>?_;obtain ⟨rJ,hL,rf⟩:=ob F;refine aU (fun k e w=>∃ (qv:Int),∃ (Y:Int),e 0=i_ a0∧e 5=i_ U∧e 8=i_ qv∧e 23=u2∧e 24=i_ (a2.length:Int)∧e 25=i_ qq∧e 31=qA∧e 32=i_ (qu.length:Int)∧e 33=i_ Y∧Sat w0 w []∧bi N k a0 U qv a2 (a2.length:Int) qq qu (qu.length:Int) Y=some rJ) N ?_ ?_ ?_
    ·exact ⟨qX,0,qG,qH,rfl,qI,qJ,qx,rfl,rfl,rfl,S,hL⟩
    ·rintro e w ⟨_,_,_,_,_,_,_,_,_,_,_,_,hz⟩; exact nomatch (show none=some _ from hz)
    rintro k sj sk ⟨qv,Y,Z,qK,qL,qN,qO,qP,qQ,qR,qr,S,F⟩;refine gn fun _ qY=>?_;refine sR fun _ rK=>?_;refine pe (.bool (decide (Y < (qu.length:Int)))) (aY qr qR) (en rK ?_);refine sg fun _ qZ=>?_;rcases oif F with ⟨qB,F⟩|⟨qB,F⟩
    ·refine ct qB (sn qZ ?_);refine sg fun _ rL=>?_;refine bg fun _ rM=>?_;refine sR fun _ rN=>?_;refine pM (i_ Y) qr ?_;obtain ⟨qD,rg,F⟩:=ob F;refine aD (wA:=w0) qQ qz rfl (dt rfl) qr rg (dt rfl) ?_;intro sl rX sm rh ri;obtain rfl:=rh;refine pe (i_ qD) (ac rfl ((ai S.below ri) 0 _ rfl)) (pa (i_ Y) (pa (i_ qD) (en rN (aj (pM (i_ a0) Z (pM (i_ qv) qL (pM (i_ a0) Z (pm (i_ Y) (pm (i_ qD) ?_)))))))));obtain ⟨sp,rj,F⟩:=ob F;refine ec0 mD (fi rj) (ca (ag rfl (ag rfl (ag rfl rfl)))) S fun sq rY S=>?_;obtain ⟨q5,rk,F⟩:=ob F;refine ec0 mO (fj rk) (ca (ag rfl (ag rfl (ag rfl rfl)))) S fun ss rZ S=>?_;refine pa (i_ q5) (ak (bn rM (tn rL (aj ?_))));obtain ⟨qE,rl,F⟩:=ob F;refine pe (i_ qE) (aF qr rfl rl) (pm (i_ qE) (en qY ?_));replace S:=S.keep 0;exact ⟨q5,qE,Z,qK,rfl,qN,qO,qP,qQ,qR,rfl,S,F⟩
    refine cf qB (aR (tx qZ (tx qY ?_)));replace F:=exB F rf;refine bS rH (tn rF (aj (pM (i_ a0) Z (pM (i_ U) qK (pM (i_ qv) qL ?_)))));obtain ⟨q6,rn,F⟩:=ob F;refine ec0 kR (dZ rn) (ca (ag rfl (ag rfl (ag rfl rfl)))) S fun su r7 S=>?_;refine pa (i_ q6) (ak (bn rC (tn rA (aj ?_))));obtain ⟨qF,ro,F⟩:=ob F;refine pe (i_ qF) (aF qP rfl ro) (pm (i_ qF) (en qV ?_));replace S:=S.keep 0;exact ⟨q6,qF,Z,rfl,qN,qO,rfl,S,F⟩
   refine cf qy (aR (tx qW (tx qV ?_)));replace F:=exB F ra;refine bS rx (tn rt ?_);refine sR fun _ rO=>?_;refine pM (i_ U) qH (pa (i_ U) (en rO (ah (aw rfl rfl ?_))));exact rI F S
  refine ct (aq qw) ?_;refine sg fun _ rP=>?_;replace S:=S.r0;refine aj (pm (i_ qp) (pa (i_ qp) (en rP (ah (tr qC (aw rfl rfl ?_))))));exact rI F S
 refine eo (aq J) (eo (aq J) (eo (aq J) (pe (.bool true) (au rfl (aq J) rfl) (en qS (ct rfl ?_)))));refine sg fun _ rQ=>?_;replace S:=S.r0;refine aj (pm (i_ qp) (pa (i_ qp) (en rQ (ah (tr qC (aw rfl rfl ?_))))));exact rI F S
theorem e9 {w0:World} {a0:Int}  {N:Nat} {r:Int} (F:cK N a0=some r): Calls Try.prog 11 #[i_ a0] w0 fun e w'=>e=.returned (i_ r)∧Ext w0 w' := by
 unfold cK at F;refine aC Try.func11 rfl rfl (dt rfl) ?_;have S:=Sat.start w0;refine sR fun _ Y=>?_;refine pa (i_ 0) (en Y ?_);refine sg fun _ U=>?_;refine sR fun _ Z=>?_;refine pm (i_ a0) (pe (.bool (a0 == 2)) (aG rfl rfl) (en Z ?_));rcases oif F with ⟨J,F⟩|⟨J,F⟩
 ·refine ct J ?_;refine sR fun _ qp=>?_;refine pa (i_ 1000000000) (en qp (ah (tr U (aw rfl rfl ?_))));exact rI F S
 refine cf J (sn U ?_);refine sR fun _ qq=>?_;refine pa (i_ 0) (en qq (ah (aw rfl rfl ?_)));exact rI F S
theorem cN {w0:World} {a0:Int}  {N:Nat} {r:Bool} (F:bJ N a0=some r): Calls Try.prog 16 #[i_ a0] w0 fun e w'=>e=.returned (.bool r)∧Ext w0 w' := by
 unfold bJ at F;refine aC Try.func16 rfl rfl (dt rfl) ?_;have S:=Sat.start w0;refine sR fun _ U=>?_;refine pa (.bool false) (en U ?_);refine sR fun _ Y=>?_;refine pm (i_ a0) ?_;obtain ⟨Z,J,F⟩:=ob F;refine ec0 it (em J) (ca (ag rfl (ag rfl (ag rfl rfl)))) S fun qq qp S=>?_;refine pa (.bool Z) (en Y (ah (aw rfl rfl ?_)));exact rB F S
theorem cl {w0:World} {a0:Int}  {N:Nat} {r:Int} (F:bW N a0=some r): Calls Try.prog 79 #[i_ a0] w0 fun e w'=>e=.returned (i_ r)∧Ext w0 w' := by
 unfold bW at F;refine aC Try.func79 rfl rfl (dt rfl) ?_;have S:=Sat.start w0;refine sR fun _ J=>?_;refine pa (i_ 0) (en J ?_);refine sR fun _ U=>?_;refine pm (i_ a0) (pe (i_ (imn 1000000000 a0)) (e7 rfl rfl) (pe (i_ (imx 0 (imn 1000000000 a0))) (iw rfl rfl) (pa (i_ (imx 0 (imn 1000000000 a0))) (en U (ah (aw rfl rfl ?_))))));exact rI F S
theorem ik {w0:World} {a0:Int} {a1:Int} {a2:Int}  {N:Nat} {r:Int} (F:dn N a0 a1 a2=some r): Calls Try.prog 43 #[i_ a0,i_ a1,i_ a2] w0 fun e w'=>e=.returned (i_ r)∧Ext w0 w' := by
 unfold dn at F;refine aC Try.func43 rfl rfl (dt rfl) ?_;have S:=Sat.start w0;refine sR fun _ qB=>?_;refine pa (i_ 0) (en qB ?_);refine sR fun _ qC=>?_;refine pm (i_ a1) ?_;obtain ⟨J,qw,F⟩:=ob F;refine ec0 fH (cl qw) (ca (ag rfl rfl)) S fun qU qR S=>?_;refine pa (i_ J) (en qC ?_);refine sR fun _ qD=>?_;refine pm (i_ a2) ?_;obtain ⟨U,qx,F⟩:=ob F;refine ec0 fH (cl qx) (ca (ag rfl rfl)) S fun qV qS S=>?_;refine pa (i_ U) (en qD ?_);refine sg fun _ Y=>?_;refine sR fun _ qE=>?_;refine pm (i_ a0) (en qE ?_);refine bg fun _ Z=>?_;refine sR fun _ qF=>?_;refine pe (.bool (a0 == 1)) (aG rfl rfl) (pa (.bool (a0 == 1)) (en qF ?_));rcases oif F with ⟨qp,F⟩|⟨qp,F⟩
 ·refine ct qp ?_;refine sR fun _ qG=>?_;refine pm (i_ J) (pm (i_ U) ?_);obtain ⟨qH,qy,F⟩:=ob F;refine pe (i_ qH) (aF rfl rfl qy) ?_;obtain ⟨qI,qz,F⟩:=ob F;refine ec0 fH (cl qz) (ca (ag rfl rfl)) S fun qW qT S=>?_;refine pa (i_ qI) (en qG (ah (br Z (tr Y (aw rfl rfl ?_)))));exact rI F S
 refine cf qp ?_;refine sR fun _ qJ=>?_;refine pe (.bool (a0 == 2)) (aG rfl rfl) (pa (.bool (a0 == 2)) (en qJ ?_));rcases oif F with ⟨qq,F⟩|⟨qq,F⟩
 ·refine ct qq ?_;refine sR fun _ qK=>?_;refine pm (i_ J) (pm (i_ U) (pe (i_ (imn J U)) (e7 rfl rfl) (pa (i_ (imn J U)) (en qK (ah (br Z (tr Y (aw rfl rfl ?_))))))));exact rI F S
 refine cf qq ?_;refine sR fun _ qL=>?_;refine pe (.bool (a0 == 3)) (aG rfl rfl) (pa (.bool (a0 == 3)) (en qL ?_));rcases oif F with ⟨qr,F⟩|⟨qr,F⟩
 ·refine ct qr ?_;refine sR fun _ qN=>?_;refine pm (i_ J) (pm (i_ U) ?_);obtain ⟨qv,qA,F⟩:=ob F;refine pe (i_ qv) (aF rfl rfl qA) (pe (i_ (imn 1 qv)) (e7 rfl rfl) (pa (i_ (imn 1 qv)) (en qN (ah (br Z (tr Y (aw rfl rfl ?_)))))));exact rI F S
 refine cf qr ?_;refine sR fun _ qO=>?_;refine pe (.bool (a0 == 4)) (aG rfl rfl) (pa (.bool (a0 == 4)) (en qO ?_));rcases oif F with ⟨qu,F⟩|⟨qu,F⟩
 ·refine ct qu ?_;refine sR fun _ qP=>?_;refine pm (i_ J) (pm (i_ U) (pe (i_ (imx J U)) (iw rfl rfl) (pa (i_ (imx J U)) (en qP (ah (br Z (tr Y (aw rfl rfl ?_))))))));exact rI F S
 refine cf qu (aV (bn Z (tn Y ?_)));refine sR fun _ qQ=>?_;refine pa (i_ 0) (en qQ (ah (aw rfl rfl ?_)));exact rI F S

end Go.Proofs.Ytdapplkijobjoaa
