/- Plain laws: rows of a join one after another; the factorization of a join. -/
import Derived.Test.YtdapplkijobjoaaV1
namespace Go.Proofs.Ytdapplkijobjoaa
open Go.RowKit
theorem uO {f:Nxt} (hf:NxtOk f) {k:Nat} (hk:k≤5):(∀ r∈(jh k (bF f k [])).1.2,r.length=k)∧d8 (jh k (bF f k [])).1.2∧(jh k (bF f k [])).1.2.length≤4000:=by
 obtain ⟨_,h2,h3⟩:=lw hf hk
 unfold jh
 cases h:decide (((bF f k []).1.length:Int)≤4000) with
 | false=>exact ⟨by simp [lS],List.Pairwise.nil,by simp [lS]⟩
 | true =>
  rw [decide_eq_true_eq] at h
  exact ⟨fun r hr=>(h2 r hr).1,h3,by rw [cond_true];show (bF f k []).1.length≤4000;omega⟩
theorem tD {ts:List bc} {n:Int} {atoms:List bb} {out order:List Int}:∃ k:Nat,1≤k∧k≤5∧((eZ ts n atoms out order).2.2=true→n=(k:Int))∧(∀ r∈(eZ ts n atoms out order).1.2,r.length=k)∧d8 (eZ ts n atoms out order).1.2∧(eZ ts n atoms out order).1.2.length≤4000:=by
 unfold eZ
 cases h:okQ ts n atoms out order with
 | false=>exact ⟨1,by omega,by omega,by simp [lS],by simp [lS],List.Pairwise.nil,by simp [lS]⟩
 | true =>
  obtain ⟨m,rfl,q,_⟩:=v9 h
  cases jL (cp ts order atoms)
  ·obtain ⟨h1,h2,h3⟩:=uO (jZ q) q.n5
   exact ⟨m,q.n1,q.n5,fun _=>rfl,h1,h2,h3⟩
  ·exact ⟨m,q.n1,q.n5,fun _=>rfl,by simp,List.Pairwise.nil,by simp⟩
def wR (j:tv) (order:List Int):(List Int × List aG) × Bool:=bif j.2.2 then ((order,jT j.1.1.toNat j.1.2),true) else (([],[]),false)
section
variable {N:Nat}
theorem uL {ts:List bc} {n:Int} {atoms:List bb} {out order:List Int} (h:(eZ ts n atoms out order).2.2=true):∃ k:Nat,k≤5∧(eZ ts n atoms out order).1.1=(k:Int)∧kM k (eZ ts n atoms out order).1.2:=by
 obtain ⟨k,k1,k5,hk,hr,_,hl⟩:=tD (ts:=ts) (n:=n) (atoms:=atoms) (out:=out) (order:=order)
 refine ⟨k,k5,?_,hl,fun i hi=>by rw [dN hi];exact hr _ (List.getElem_mem hi)⟩
 have e:=hk h
 unfold eZ at h ⊢
 cases h2:okQ ts n atoms out order with
 | false=>rw [h2] at h;cases h
 | true =>
  rw [h2,cond_true] at h
  rw [cond_true]
  cases h3:jL (cp ts order atoms) with
  | true=>exact e
  | false =>
   rw [h3,cond_false] at h
   rw [cond_false]
   unfold jh at h ⊢
   cases h4:decide (((bF (bE ts order atoms) n.toNat []).1.length:Int)≤4000) with
   | true=>exact e
   | false=>rw [h4] at h;cases h
theorem pk (hM:1073742848≤N) {ts:List bc} {n:Int} {atoms:List bb} {out order:List Int} (ht:mD ts) (ha:eC atoms) (ho:okI out) (hr:okI order):iu N ts n atoms out order=some (wR (eZ ts n atoms out order) order):=by
 unfold iu wR
 rw [nH hM ht ha ho hr,bs]
 cases h:(eZ ts n atoms out order).2.2 with
 | false=>rfl
 | true =>
  obtain ⟨k,k5,e,hall⟩:=uL h
  rw [cond_true,cond_true,uj hM k5 hall hr.1,bs,e];rfl
end
theorem rH (a:Int) {m:Nat} (hm:m≤4611686018427387904):0≤fD a (m:Int)∧fD a (m:Int)≤(m:Int):=by
 have h1:(BitVec.ofInt IntKind.i64.bits a &&& BitVec.ofInt IntKind.i64.bits (m:Int)).toNat≤m:=by
  rw [BitVec.toNat_and]
  refine Nat.le_trans Nat.and_le_right ?_
  rw [BitVec.toNat_ofInt]
  have:IntKind.i64.bits=64:=rfl
  rw [this]
  omega
 unfold fD
 rw [jX (md (by omega) (by omega))]
 omega
theorem vR (a:Int) {b:Nat}:∃ v,sr a (b:Int)=some v:=by unfold sr;rw [if_pos (by omega)];exact ⟨_,rfl⟩
abbrev dy (a:List Int):Prop:=a.length≤1048576∧∀ v∈a,0≤v∧v≤255
def bO (a:List Int) (p:Int):Prop:=0≤p∧p≤(a.length:Int)
section
variable {N:Nat}
theorem Ae (a:List Int) (ha:dy a):∀ (m i k:Nat) (h:Int),i+m=4000→m<k→0≤h→h≤1073741823→∃ v,f8 N k a h (i:Int)=some v:=by
 intro m
 induction m with
 | zero =>
  intro i k h hi hk _ _
  obtain ⟨k,rfl⟩:∃ g,k=g+1:=⟨k-1,by omega⟩
  rw [f8,decide_eq_false (show ¬ (i:Int)<4000 by omega)]
  cases decide ((i:Int)<(a.length:Int)) <;> exact ⟨_,rfl⟩
 | succ m ih =>
  intro i k h hi hk h0 h1
  obtain ⟨k,rfl⟩:∃ g,k=g+1:=⟨k-1,by omega⟩
  rw [f8]
  by_cases hl:i<a.length
  ·have hb:=ha.2 _ (List.getElem_mem hl)
   rw [dlt hl,cond_true,decide_eq_true (show (i:Int)<4000 by omega),cond_true,tj (by omega) (by omega),bs,aM hl,bs,jX (md (by omega) (by omega)),e9 (by omega) (by omega),bs,e9 (by omega) (by omega),bs,ad1 (by omega),bs]
   have hi':=rH (h*131+a[i]+7) (m:=1073741823) (by decide)
   exact ih (i+1) k _ (by omega) (by omega) hi'.1 hi'.2
  ·rw [dge hl,cond_false];exact ⟨_,rfl⟩
theorem qX (hN:1073741824≤N) {a:List Int} (ha:dy a):∃ h,ju N a=some (0,h):=by
 have hl:=ha.1
 obtain ⟨v,hv⟩:=Ae (N:=N) a ha 4000 0 N (10101+(a.length:Int)) (by omega) (by omega) (by omega) (by omega)
 unfold ju
 rw [e9 (by omega) (by omega),bs]
 have hv':f8 N N a (10101+(a.length:Int)) 0=some v:=hv
 rw [hv',bs]
 exact ⟨_,rfl⟩
theorem jG {a:List Int} (ha:dy a) {p h:Int} (hc:bO a p):∃ x q g,fT N a p h=some (x,q,g)∧0≤x∧x≤255∧bO a q:=by
 have hl:=ha.1
 have h0:=hc.1;have h1:=hc.2
 unfold fT
 obtain ⟨x1,e1⟩:=vR (IntKind.i64.wrap ((IntKind.i64.wrap (h*6364136223846793005))+1442695040888963407)) (b:=33)
 obtain ⟨x2,e2⟩:=vR (IntKind.i64.wrap ((IntKind.i64.wrap (h*6364136223846793005))+1442695040888963407)) (b:=45)
 have e1':sr (IntKind.i64.wrap ((IntKind.i64.wrap (h*6364136223846793005))+1442695040888963407)) 33=some x1:=e1
 have e2':sr (IntKind.i64.wrap ((IntKind.i64.wrap (h*6364136223846793005))+1442695040888963407)) 45=some x2:=e2
 rw [e1',bs,e2',bs]
 by_cases hp:p<(a.length:Int)
 ·rw [decide_eq_true hp,cond_true,eI h0 hp,bs]
  have hb:=rH (IntKind.i64.wrap ((fD (i9 x1 x2) 255)+(IntKind.i64.wrap a[p.toNat]))) (m:=255) (by decide)
  refine ⟨_,_,_,rfl,hb.1,hb.2,?_⟩
  rw [jX (md (by omega) (by omega))]
  exact ⟨by omega,by omega⟩
 ·rw [decide_eq_false hp,cond_false]
  have hb:=rH (i9 x1 x2) (m:=255) (by decide)
  exact ⟨_,_,_,rfl,hb.1,hb.2,hc⟩
theorem bC {a:List Int} (ha:dy a) {p h n:Int} (hc:bO a p):∃ x q g,bm N a p h n=some (x,q,g)∧0≤x∧(0<n→x<n)∧(n≤0→x=0)∧bO a q:=by
 unfold bm
 by_cases h0:n≤0
 ·rw [decide_eq_true h0,cond_true]
  exact ⟨_,_,_,rfl,Int.le_refl _,fun h=>by omega,fun _=>rfl,hc⟩
 ·rw [decide_eq_false h0,cond_false]
  by_cases h1:n≤256
  ·obtain ⟨x,q,g,e,b0,b1,hc'⟩:=jG (N:=N) ha (h:=h) hc
   rw [decide_eq_true h1,cond_true,e,bs,rx (by omega),bs]
   have:=vC b0 (show 0<n by omega)
   exact ⟨_,_,_,rfl,this.1,fun _=>this.2,fun h=>by omega,hc'⟩
  ·rw [decide_eq_false h1,cond_false]
   obtain ⟨x,q,g,e,b0,b1,hc1⟩:=jG (N:=N) ha (h:=h) hc
   rw [e,bs]
   obtain ⟨y,q2,g2,e2,c0,c1,hc2⟩:=jG (N:=N) ha (h:=g) hc1
   dsimp only
   rw [e2,bs]
   obtain ⟨z,q3,g3,e3,d0,d1,hc3⟩:=jG (N:=N) ha (h:=g2) hc2
   dsimp only
   rw [e3,bs]
   obtain ⟨w,q4,g4,e4,f0,f1,hc4⟩:=jG (N:=N) ha (h:=g3) hc3
   dsimp only
   rw [e4,bs]
   dsimp only
   rw [tj (by omega) (by omega),bs,tj (by omega) (by omega),bs,e9 (by omega) (by omega),bs,tj (by omega) (by omega),bs,e9 (by omega) (by omega),bs,e9 (by omega) (by omega),bs,rx (by omega),bs]
   have:=vC (show 0≤x*16777216+y*65536+z*256+w by omega) (show 0<n by omega)
   exact ⟨_,_,_,rfl,this.1,fun _=>this.2,fun h=>by omega,hc4⟩
theorem gu {a l:List Int} (ha:dy a) {p h:Int} (hc:bO a p) (hl:0<l.length):∃ x q g,dn N a p h l=some (x,q,g)∧x∈l∧bO a q:=by
 obtain ⟨x,q,g,e,b0,b1,_,hc'⟩:=bC (N:=N) ha (h:=h) (n:=(l.length:Int)) hc
 have b2:=b1 (by omega)
 unfold dn
 rw [e,bs]
 dsimp only
 rw [eI b0 b2,bs]
 exact ⟨_,_,_,rfl,List.getElem_mem _,hc'⟩
end
section
variable {N:Nat}
theorem AA {a:List Int} (ha:dy a) {n m:Int} (hm:0<m):∀ (d k:Nat) (acc:List Int) (p h:Int),bO a p→acc.length+d=n.toNat→d<k→n≤1048576→(∀ v∈acc,0≤v∧v<m) →
  ∃ q g row,gL N k a p h n m acc=some (q,g,row)∧bO a q∧row.length=n.toNat∧∀ v∈row,0≤v∧v<m:=by
 intro d
 induction d with
 | zero =>
  intro k acc p h hc hd hk _ hv
  obtain ⟨k,rfl⟩:∃ g,k=g+1:=⟨k-1,by omega⟩
  rw [gL,decide_eq_false (show ¬ (acc.length:Int)<n by omega),cond_false]
  exact ⟨_,_,_,rfl,hc,by omega,hv⟩
 | succ d ih =>
  intro k acc p h hc hd hk hn hv
  obtain ⟨k,rfl⟩:∃ g,k=g+1:=⟨k-1,by omega⟩
  obtain ⟨x,q,g,e,b0,b1,_,hc'⟩:=bC (N:=N) ha (h:=h) (n:=m) hc
  rw [gL,decide_eq_true (show (acc.length:Int)<n by omega),cond_true,e,bs]
  dsimp only
  rw [bo (by decide) (by simp;omega),bs]
  refine ih k _ q g hc' (by simp;omega) (by omega) hn fun v hv'=>?_
  rcases List.mem_append.1 hv' with h | h
  ·exact hv v h
  ·rw [List.mem_singleton] at h;rw [h];exact ⟨b0,b1 hm⟩
theorem lG (hN:1073741824≤N) {a:List Int} (ha:dy a) {p h n m:Int} (hc:bO a p) (hm:0<m) (hn:n≤1048576) :
  ∃ row q g,fS N a p h n m=some (row,q,g)∧bO a q∧row.length=n.toNat∧∀ v∈row,0≤v∧v<m:=by
 obtain ⟨q,g,row,e,h1,h2,h3⟩:=AA (N:=N) ha (n:=n) hm n.toNat N [] p h hc (by simp) (by omega) hn (by simp)
 unfold fS
 rw [e]
 exact ⟨row,q,g,rfl,h1,h2,h3⟩
theorem AB (hN:1073741824≤N) {a:List Int} (ha:dy a) {n m y:Int} {z:aS} (hm:0<m) (hn:n≤1048576):∀ (d k:Nat) (acc:aS) (p h c:Int),bO a p→c.toNat=d→c≤1048576→d<k→acc.length+d≤1048576→(∀ r∈acc,r.length=n.toNat∧∀ v∈r,0≤v∧v<m) →
  ∃ q g rows c',gS N k a p h n m y z acc c=some (q,g,rows,c')∧bO a q∧rows.length≤acc.length+d∧∀ r∈rows,r.length=n.toNat∧∀ v∈r,0≤v∧v<m:=by
 intro d
 induction d with
 | zero =>
  intro k acc p h c hc hd _ hk hl hv
  obtain ⟨k,rfl⟩:∃ g,k=g+1:=⟨k-1,by omega⟩
  rw [gS,decide_eq_false (show ¬ 0<c by omega),cond_false]
  exact ⟨_,_,_,_,rfl,hc,by omega,hv⟩
 | succ d ih =>
  intro k acc p h c hc hd hcc hk hl hv
  obtain ⟨k,rfl⟩:∃ g,k=g+1:=⟨k-1,by omega⟩
  obtain ⟨row,q,g,e,hc',h2,h3⟩:=lG hN ha (h:=h) (n:=n) hc hm hn
  rw [gS,decide_eq_true (show 0<c by omega),cond_true,e,bs]
  dsimp only
  rw [bo (by decide) (by simp;omega),bs,cZ (by omega) (by omega),bs]
  obtain ⟨q',g',rows,c',e',k1,k2,k3⟩:=ih k (acc++[row]) q g (c-1) hc' (by omega) (by omega) (by omega) (by simp;omega) fun r hr=>by
   rcases List.mem_append.1 hr with h | h
   ·exact hv r h
   ·rw [List.mem_singleton] at h;rw [h];exact ⟨h2,h3⟩
  exact ⟨q',g',rows,c',e',k1,by simp at k2;omega,k3⟩
theorem ko (hM:1073742848≤N) {a:List Int} (ha:dy a) {p h n m y:Int} (hc:bO a p) (hm:0<m∧m≤100) (hn:0≤n∧n≤5) (hy:0≤y∧y≤100) :
  ∃ rows q g,gk N a p h n y m=some ((n,rows),q,g)∧bO a q∧(rows.length:Int)≤y∧∀ r∈rows,(r.length:Int)=n∧∀ v∈r,0≤v∧v<m:=by
 have hN:1073741824≤N:=by omega
 obtain ⟨x,q,g,e,b0,b1,_,hc'⟩:=bC (N:=N) ha (h:=h) (n:=y+1) hc
 have b1:=b1 (by omega)
 obtain ⟨q',g',rows,c',e',k1,k2,k3⟩:=AB hN ha (n:=n) (m:=m) (y:=0) (z:=[]) hm.1 (by omega) x.toNat N [] q g x hc' rfl (by omega) (by omega) (by simp;omega) (by simp)
 unfold gk
 rw [e9 (by omega) (by omega),bs,e,bs]
 dsimp only
 rw [e']
 simp only [List.length_nil,Nat.zero_add] at k2
 have hf:∀ r∈rows,(r.length:Int)=n∧bv r=true:=fun r hr=>by
  have:=k3 r hr
  refine ⟨by omega,?_⟩
  unfold bv
  refine List.all_eq_true.2 fun v hv=>?_
  have:=this.2 v hv
  unfold inR
  simp only [Bool.and_eq_true,decide_eq_true_eq]
  omega
 have hok:f7 rows:=⟨by omega,fun r hr=>⟨by have:=(k3 r hr).1;omega,fun _ _=>trivial⟩⟩
 rw [bs]
 unfold lpB
 dsimp only
 rw [gF hM hok,bs,ja hn (by omega) hf]
 have hsl:=gT 20 rows
 refine ⟨cA 20 rows,q',g',rfl,k1,by omega,fun r hr=>?_⟩
 have hr':=kc 20 rows r hr
 exact ⟨(hf r hr').1,(k3 r hr').2⟩
def tw (r:Int × aS):Prop:=(-1≤r.1∧r.1≤6)∧r.2.length≤7∧∀ w∈r.2,w.length≤6∧∀ v∈w,-1≤v∧v≤100
theorem v7 (hM:1073742848≤N) {a:List Int} (ha:dy a) {p h:Int} (hc:bO a p):∃ r q g,kj N a p h=some (r,q,g)∧bO a q∧tw r:=by
 have hN:1073741824≤N:=by omega
 obtain ⟨n,q,g,e,b0,b1,_,hc1⟩:=bC (N:=N) ha (h:=h) (n:=4) hc
 have b1:=b1 (by decide)
 obtain ⟨rows,q2,g2,e2,hc2,hl,hr⟩:=ko hM ha (h:=g) (n:=n) (m:=4) (y:=6) hc1 (by decide) (by omega) (by decide)
 obtain ⟨s,q3,g3,e3,_,_,_,hc3⟩:=bC (N:=N) ha (h:=g2) (n:=14) hc2
 have hsm:∀ w∈rows,w.length≤6∧∀ v∈w,-1≤v∧v≤100:=fun w hw=>by
  have:=hr w hw
  exact ⟨by omega,fun v hv=>by have:=this.2 v hv;omega⟩
 have base:tw (n,rows):=⟨⟨by show -1≤n;omega,by show n≤6;omega⟩,by show rows.length≤7;omega,hsm⟩
 unfold kj
 rw [e,bs]
 dsimp only
 rw [e2,bs]
 dsimp only
 rw [e3,bs]
 dsimp only
 cases h0:(s == 0)
 ·rw [cond_false]
  cases h1:(s == 1)
  ·rw [cond_false]
   cases h2:(s == 2)
   ·exact ⟨_,_,_,rfl,hc3,base⟩
   ·rw [cond_true]
    by_cases hp:0<rows.length
    ·rw [decide_eq_true (show (0:Int)<(rows.length:Int) by omega),cond_true]
     by_cases hn:0<n
     ·have hm0:=hr _ (List.getElem_mem hp)
      have hm1:=hsm _ (List.getElem_mem hp)
      have hp0:0<rows[0].length:=by omega
      obtain ⟨x,q4,g4,e4,hx,hc4⟩:=gu (N:=N) ha (h:=g3) hc3 (l:=[(-1),100,99]) (by decide)
      have i0:ix rows 0=some rows[0]:=aM hp
      have i1:ix rows[0] 0=some rows[0][0]:=aM hp0
      have s1:sto rows[0] 0 x=some (rows[0].set 0 x):=gt hp0
      have s2:sto rows 0 (rows[0].set 0 x)=some (rows.set 0 (rows[0].set 0 x)):=gt hp
      have hxb:-1≤x∧x≤100:=by
       simp only [List.mem_cons,List.not_mem_nil,or_false] at hx
       omega
      rw [decide_eq_true hn,cond_true,i0,bs,e4,bs,i1,bs,s1,bs,s2,bs]
      refine ⟨_,_,_,rfl,hc4,⟨base.1,by show (rows.set 0 _).length≤7;rw [List.length_set];omega,fun w hw=>?_⟩⟩
      rcases List.mem_or_eq_of_mem_set hw with h | h
      ·exact hsm w h
      ·subst h
       refine ⟨by rw [List.length_set];exact hm1.1,fun v hv=>?_⟩
       rcases List.mem_or_eq_of_mem_set hv with h | h
       ·exact hm1.2 v h
       ·rw [h];exact hxb
     ·rw [decide_eq_false hn,cond_false]
      exact ⟨_,_,_,rfl,hc3,base⟩
    ·rw [decide_eq_false (show ¬ (0:Int)<(rows.length:Int) by omega),cond_false]
     exact ⟨_,_,_,rfl,hc3,base⟩
  ·rw [cond_true]
   have hi:imx 0 n=n:=by unfold imx;split <;> omega
   obtain ⟨w,q4,g4,e4,hc4,hw1,hw2⟩:=lG hN ha (h:=g3) (n:=n) (m:=4) hc3 (by decide) (by omega)
   rw [hi,e4,bs]
   dsimp only
   rw [bo (by decide) (by simp;omega),bs]
   refine ⟨_,_,_,rfl,hc4,base.1,by show (rows++[w]).length≤7;simp;omega,fun v hv=>?_⟩
   rcases List.mem_append.1 hv with h | h
   ·exact hsm v h
   ·rw [List.mem_singleton] at h;subst h
    exact ⟨by omega,fun v hv=>by have:=hw2 v hv;omega⟩
 ·obtain ⟨x,q4,g4,e4,hx,hc4⟩:=gu (N:=N) ha (h:=g3) hc3 (l:=[(-1),6,n+1]) (Nat.zero_lt_succ _)
  rw [cond_true,e9 (by omega) (by omega),bs,e4,bs]
  refine ⟨_,_,_,rfl,hc4,⟨?_,base.2⟩⟩
  simp only [List.mem_cons,List.not_mem_nil,or_false] at hx
  show -1≤x∧x≤6
  omega
end
def fb (F:Nat→List (List Int)):Nat→List (List Int)
 | 0=>[]
 | j+1=>fb F j++F j
def gC (nodes:List aG):Nat→Int→List Int→List (List Int)
 | 0,_,_=>[]
 | f+1,nd,pre=>if nd=0 then [pre] else
   fb (fun j=>gC nodes f ((nodes.getD nd.toNat ([],[])).2.getD j 0) (pre++[(nodes.getD nd.toNat ([],[])).1.getD j 0])) (nodes.getD nd.toNat ([],[])).1.length
theorem pH {F:Nat→List (List Int)} {r:List Int}:∀ n,r∈fb F n→∃ j,j<n∧r∈F j
 | 0,h=>by simp [fb] at h
 | n+1,h=>by
  unfold fb at h
  rcases List.mem_append.1 h with h | h
  ·obtain ⟨j,h1,h2⟩:=pH n h;exact ⟨j,by omega,h2⟩
  ·exact ⟨n,by omega,h⟩
def wN (nodes:List aG) (nd:Int):Int:=(b8 nodes nodes.length).getD nd.toNat 0
theorem BU {olen:Nat} {nodes:List aG} {far:List Int} (V:VF olen nodes far) {nd:Int} (h:inN nodes nd) {j:Nat} (hj:j<(nodes.getD nd.toNat ([],[])).2.length) :
  inN nodes ((nodes.getD nd.toNat ([],[])).2.getD j 0)∧(nodes.getD nd.toNat ([],[])).2.getD j 0<nd:=by
 have h1:=h.1;have h2:=h.2
 have:=V.ch (i:=nd.toNat) (by omega) hj
 exact ⟨⟨this.1,by omega⟩,by omega⟩
def WFn (ns:List aG):Prop:=1≤ns.length∧∀ i,i<ns.length→∀ c∈(ns.getD i ([],[])).2,0≤c∧c<(i:Int)
def rM (a b:List aG):Prop:=∃ t,b=a++t
theorem rM.trans {a b c:List aG} (h:rM a b) (k:rM b c):rM a c:=by
 obtain ⟨t,rfl⟩:=h;obtain ⟨u,rfl⟩:=k;exact ⟨t++u,by simp⟩
theorem rM.len {a b:List aG} (h:rM a b):a.length≤b.length:=by
 obtain ⟨t,rfl⟩:=h;simp
theorem lH {F G:Nat→List (List Int)}:∀ n,(∀ j,j<n→F j=G j)→fb F n=fb G n
 | 0,_=>rfl
 | n+1,h=>by unfold fb;rw [lH n (fun j hj=>h j (by omega)),h n (by omega)]
theorem ug {F:Nat→List (List Int)} {g:List Int→List Int}:∀ n,fb (fun j=>(F j).map g) n=(fb F n).map g
 | 0=>rfl
 | n+1=>by unfold fb;rw [ug n,List.map_append]
theorem qN (ns:List aG):∀ (f:Nat) (nd:Int) (p q:List Int),gC ns f nd (p++q)=(gC ns f nd q).map (p++·)
 | 0,_,_,_=>rfl
 | f+1,nd,p,q=>by
  rw [gC,gC]
  by_cases hz:nd=0
  ·rw [if_pos hz,if_pos hz];rfl
  ·rw [if_neg hz,if_neg hz,← ug]
   refine lH _ fun j _=>?_
   rw [List.append_assoc,qN ns f _ p]
theorem uE {rows:List (List Int)} {d:Nat} {v:Int}:∀ f k j,k≤j→j<jj rows d v f k→(rows.getD j []).getD d 0=v
 | 0,k,j,h1,h2=>by unfold jj at h2;omega
 | f+1,k,j,h1,h2=>by
  unfold jj at h2
  split at h2
  ·rename_i e
   by_cases h:j=k
   ·rw [h];exact e
   ·exact uE f (k+1) j (by omega) h2
  ·omega
theorem AT {olen:Nat} {nodes:List aG} {far:List Int} (V:VF olen nodes far):∀ (f:Nat) (nd:Int) (pre:List Int),inN nodes nd→nd<f→wN nodes nd=imn 1000000000 ((gC nodes f nd pre).length:Int):=by
 intro f
 induction f with
 | zero=>intro nd pre h hf;have:=h.1;omega
 | succ f ih =>
  intro nd pre h hf
  have h1:=h.1;have h2:=h.2
  rw [gC]
  by_cases h0:nd=0
  ·subst h0
   rw [if_pos rfl];unfold wN;rw [show (0:Int).toNat=0 from rfl,rn nodes _ V.pos];simp [imn]
  ·rw [if_neg h0]
   have hi:nd.toNat<nodes.length:=by omega
   have hl:=V.lens (i:=nd.toNat) (by omega)
   have key:∀ m,m≤(nodes.getD nd.toNat ([],[])).2.length→((nodes.getD nd.toNat ([],[])).2.take m).foldl (fR (b8 nodes nd.toNat)) 0 =
     imn 1000000000 ((fb (fun j=>gC nodes f ((nodes.getD nd.toNat ([],[])).2.getD j 0) (pre++[(nodes.getD nd.toNat ([],[])).1.getD j 0])) m).length:Int):=by
    intro m
    induction m with
    | zero=>intro _;simp [fb,imn]
    | succ m ihm =>
     intro hm
     have hj:m<(nodes.getD nd.toNat ([],[])).2.length:=by omega
     obtain ⟨c1,c2⟩:=BU V h hj
     have h4:=ih _ (pre++[(nodes.getD nd.toNat ([],[])).1.getD m 0]) c1 (by omega)
     have hg:(nodes.getD nd.toNat ([],[])).2.getD m 0=(nodes.getD nd.toNat ([],[])).2[m]:=by
      rw [List.getD_eq_getElem?_getD,List.getElem?_eq_getElem hj,Option.getD_some]
     have h5:(b8 nodes nd.toNat).getD ((nodes.getD nd.toNat ([],[])).2.getD m 0).toNat 0=wN nodes ((nodes.getD nd.toNat ([],[])).2.getD m 0):=by
      have:=c1.1
      exact (pN nodes nodes.length nd.toNat _ (by omega) (by omega) (by omega)).symm
     rw [List.take_succ_eq_append_getElem hj,List.foldl_append,ihm (by omega),List.foldl_cons,List.foldl_nil,fb,List.length_append]
     rw [← hg]
     unfold fR
     rw [h5,h4]
     unfold imn
     split <;> split <;> split <;> split <;> omega
   have:=key _ (Nat.le_refl _)
   rw [List.take_length] at this
   unfold wN
   rw [kR nodes nodes.length nd.toNat (by omega) hi,this,hl]
def Bq (ns:List aG):Nat→Int→Int
 | 0,_=>0
 | f+1,nd=>if nd=0 then 0 else Bq ns f ((ns.getD nd.toNat ([],[])).2.getD 0 0)+1
def dep (ns:List aG) (nd:Int):Int:=Bq ns ns.length nd
structure NodeOk (ns:List aG) (i:Nat):Prop where
 lens:(ns.getD i ([],[])).1.length=(ns.getD i ([],[])).2.length
 vals:bv (ns.getD i ([],[])).1=true
 asc:fq (ns.getD i ([],[])).1
 ne:(ns.getD i ([],[])).1≠[]
 chs:∀ c∈(ns.getD i ([],[])).2,dep ns c=dep ns ((ns.getD i ([],[])).2.getD 0 0)
 new:∀ j,1≤j→j<i→ns.getD j ([],[])≠ns.getD i ([],[])
def B6 (ns:List aG):Prop:=∀ i,1≤i→i<ns.length→NodeOk ns i
theorem sF {rows:List (List Int)} {d:Nat} {v:Int}:∀ f k,jj rows d v f k<k+f→(rows.getD (jj rows d v f k) []).getD d 0≠v
 | 0,k,h=>by unfold jj at h;omega
 | f+1,k,h=>by
  unfold jj at h ⊢
  split
  ·rename_i e
   rw [if_pos e] at h
   exact sF f (k+1) (by omega)
  ·rename_i e
   exact e
theorem y2 {rows:List (List Int)} {j:Nat} (h:j<rows.length):rows.getD j []=rows[j]:=by
 rw [List.getD_eq_getElem?_getD,List.getElem?_eq_getElem h,Option.getD_some]
theorem yc {rows:List (List Int)} {d i:Nat} (hlt:i<rows.length):(rows.take (gz rows d i)).drop i≠[]:=by
 have hb:=lR (d:=d) hlt
 intro h
 have:=congrArg List.length h
 simp only [List.length_drop,List.length_take,List.length_nil] at this
 omega
theorem vq {rows:List (List Int)} {d i:Nat}:((rows.take (gz rows d i)).drop i).Sublist rows:=(List.drop_sublist _ _).trans (List.take_sublist _ _)
theorem vG {rows:List (List Int)} {n d i:Nat} {pre:List Int} (hdn:d<n) (hlt:i<rows.length) (hrow:∀ r∈rows,r.length=n∧r.take d=pre):∀ r∈(rows.take (gz rows d i)).drop i,r.length=n∧r.take (d+1)=pre++[(rows.getD i []).getD d 0]:=fun r hm=>by
 have hb:=lR (d:=d) hlt
 obtain ⟨j,hj,rfl⟩:=List.getElem_of_mem hm
 rw [List.getElem_drop,List.getElem_take]
 rw [List.length_drop,List.length_take] at hj
 have h0:=hrow _ (List.getElem_mem (show i+j<rows.length by omega))
 have hv:=uE (rows:=rows) (d:=d) (v:=(rows.getD i []).getD d 0) (rows.length-i) i (i+j) (by omega) (by show i+j<gz rows d i;omega)
 rw [List.getD_eq_getElem?_getD (l:=rows),List.getElem?_eq_getElem (show i+j<rows.length by omega),Option.getD_some] at hv
 refine ⟨h0.1,?_⟩
 have hdl:d<(rows[i+j]'(by omega)).length:=by omega
 rw [List.take_succ_eq_append_getElem hdl,h0.2]
 rw [List.getD_eq_getElem?_getD (l:=rows[i+j]'(by omega)),List.getElem?_eq_getElem hdl,Option.getD_some] at hv
 rw [hv]
theorem vN {rows:List (List Int)} {n d:Nat} {pre:List Int} (hdn:d<n) (ha:d8 rows) (hrow:∀ r∈rows,r.length=n∧r.take d=pre) {i j:Nat} (h:i≤j) (hj:j<rows.length):(rows.getD i []).getD d 0≤(rows.getD j []).getD d 0:=by
 by_cases e:i=j
 ·rw [e];exact Int.le_refl _
 ·rw [y2 hj,y2 (show i<rows.length by omega)]
  have h1:=hrow _ (List.getElem_mem (show i<rows.length by omega))
  have h2:=hrow _ (List.getElem_mem hj)
  exact rV d _ _ (h1.2.trans h2.2.symm) (by omega) (by omega) (List.pairwise_iff_getElem.1 ha i j (by omega) hj (by omega))
theorem xY {n:Nat} {rows:List (List Int)} (hn5:n≤5) (ha:kM n rows):(jT n rows).length≤rows.length*n+2:=by
 have hl:=ha.1
 unfold jT
 by_cases h:rows=[]
 ·rw [if_pos h];show 2≤_;omega
 ·have hmul:rows.length*n≤4000*5:=Nat.mul_le_mul hl hn5
  have hz:zN.length=1:=rfl
  rw [if_neg h]
  have:=(sD (n:=n) n 0 zN rows zl ha h (by omega)).2
  show (b7 n zN rows 0).2.length≤_
  have e:(b7 n zN rows 0).2.length≤zN.length+rows.length*n+1:=this
  omega
abbrev mb:=Int × List bb × List Int
def QGd (q:mb):Prop:=(1≤q.1∧q.1≤5)∧(1≤q.2.1.length∧q.2.1.length≤4)∧(∀ a∈q.2.1,a.1.size≤4∧1≤a.2.length∧a.2.length≤5)∧q.2.2.length≤5
def QSm (q:mb):Prop:=(0≤q.1∧q.1≤6)∧q.2.1.length≤5∧(∀ a∈q.2.1,a.1.size≤4∧a.2.length≤5)∧q.2.2.length≤6
theorem QGd.sm {q:mb} (h:QGd q):QSm q:=⟨⟨by have:=h.1;omega,by have:=h.1;omega⟩,by have:=h.2.1;omega,fun a ha=>⟨(h.2.2.1 a ha).1,(h.2.2.1 a ha).2.2⟩,by have:=h.2.2.2;omega⟩
theorem QSm.atoms {q:mb} (h:QSm q):eC q.2.1:=⟨by have:=h.2.1;omega,fun a ha=>⟨by have:=(h.2.2.1 a ha).1;omega,by have:=(h.2.2.1 a ha).2;omega,fun _ _=>trivial⟩⟩
theorem QSm.out {q:mb} (h:QSm q):okI q.2.2:=⟨by have:=h.2.2.2;omega,fun _ _=>trivial⟩
section
variable {N:Nat}
abbrev xZ:List ByteArray:=[(⟨#[40,88,89,90,41,61,114,40,88,89,41,44,115,40,89,90,41,44,116,40,90,88,41]⟩:ByteArray),(⟨#[40,88,89,90,85,41,61,114,40,88,89,41,44,115,40,89,90,41,44,116,40,90,85,41,44,117,40,85,88,41]⟩:ByteArray),(⟨#[40,88,89,90,41,61,114,40,88,89,41,44,115,40,89,90,41]⟩:ByteArray),(⟨#[40,88,41,61,114,40,88,89,41,44,115,40,89,90,41,44,116,40,90,85,41]⟩:ByteArray),(⟨#[40,88,89,90,41,61,118,40,88,89,90,41,44,114,40,88,89,41]⟩:ByteArray),(⟨#[40,88,89,41,61,114,40,88,89,41,44,114,40,89,88,41]⟩:ByteArray),(⟨#[40,88,89,90,85,41,61,118,40,88,89,90,41,44,115,40,90,85,41,44,116,40,85,88,41]⟩:ByteArray),(⟨#[40,88,41,61,114,40,88,88,41]⟩:ByteArray),(⟨#[40,88,89,41,61,114,40,88,90,41,44,115,40,90,89,41,44,114,40,88,85,41,44,115,40,85,89,41]⟩:ByteArray),(⟨#[40,41,61,114,40,88,89,41,44,115,40,89,88,41]⟩:ByteArray),(⟨#[40,88,89,90,85,86,41,61,114,40,88,89,41,44,115,40,89,90,41,44,116,40,90,85,41,44,117,40,85,86,41]⟩:ByteArray)]
theorem Ab (M:Nat):cd (M+100) (⟨#[40,88,89,90,41,61,114,40,88,89,41,44,115,40,89,90,41,44,116,40,90,88,41]⟩:ByteArray)=some ((3,[((⟨#[114]⟩:ByteArray),[0,1]),((⟨#[115]⟩:ByteArray),[1,2]),((⟨#[116]⟩:ByteArray),[2,0])],[0,1,2]),true):=by kernel_rfl
theorem zQ (M:Nat):cd (M+100) (⟨#[40,88,89,90,85,41,61,114,40,88,89,41,44,115,40,89,90,41,44,116,40,90,85,41,44,117,40,85,88,41]⟩:ByteArray)=some ((4,[((⟨#[114]⟩:ByteArray),[0,1]),((⟨#[115]⟩:ByteArray),[1,2]),((⟨#[116]⟩:ByteArray),[2,3]),((⟨#[117]⟩:ByteArray),[3,0])],[0,1,2,3]),true):=by kernel_rfl
theorem zV (M:Nat):cd (M+100) (⟨#[40,88,89,90,41,61,114,40,88,89,41,44,115,40,89,90,41]⟩:ByteArray)=some ((3,[((⟨#[114]⟩:ByteArray),[0,1]),((⟨#[115]⟩:ByteArray),[1,2])],[0,1,2]),true):=by kernel_rfl
theorem zq (M:Nat):cd (M+100) (⟨#[40,88,41,61,114,40,88,89,41,44,115,40,89,90,41,44,116,40,90,85,41]⟩:ByteArray)=some ((4,[((⟨#[114]⟩:ByteArray),[0,1]),((⟨#[115]⟩:ByteArray),[1,2]),((⟨#[116]⟩:ByteArray),[2,3])],[0]),true):=by kernel_rfl
theorem zA (M:Nat):cd (M+100) (⟨#[40,88,89,90,41,61,118,40,88,89,90,41,44,114,40,88,89,41]⟩:ByteArray)=some ((3,[((⟨#[118]⟩:ByteArray),[0,1,2]),((⟨#[114]⟩:ByteArray),[0,1])],[0,1,2]),true):=by kernel_rfl
theorem As (M:Nat):cd (M+100) (⟨#[40,88,89,41,61,114,40,88,89,41,44,114,40,89,88,41]⟩:ByteArray)=some ((2,[((⟨#[114]⟩:ByteArray),[0,1]),((⟨#[114]⟩:ByteArray),[1,0])],[0,1]),true):=by kernel_rfl
theorem Ai (M:Nat):cd (M+100) (⟨#[40,88,89,90,85,41,61,118,40,88,89,90,41,44,115,40,90,85,41,44,116,40,85,88,41]⟩:ByteArray)=some ((4,[((⟨#[118]⟩:ByteArray),[0,1,2]),((⟨#[115]⟩:ByteArray),[2,3]),((⟨#[116]⟩:ByteArray),[3,0])],[0,1,2,3]),true):=by kernel_rfl
theorem zC (M:Nat):cd (M+100) (⟨#[40,88,41,61,114,40,88,88,41]⟩:ByteArray)=some ((1,[((⟨#[114]⟩:ByteArray),[0,0])],[0]),true):=by kernel_rfl
theorem Am (M:Nat):cd (M+100) (⟨#[40,88,89,41,61,114,40,88,90,41,44,115,40,90,89,41,44,114,40,88,85,41,44,115,40,85,89,41]⟩:ByteArray)=some ((4,[((⟨#[114]⟩:ByteArray),[0,2]),((⟨#[115]⟩:ByteArray),[2,1]),((⟨#[114]⟩:ByteArray),[0,3]),((⟨#[115]⟩:ByteArray),[3,1])],[0,1]),true):=by kernel_rfl
theorem AR (M:Nat):cd (M+100) (⟨#[40,41,61,114,40,88,89,41,44,115,40,89,88,41]⟩:ByteArray)=some ((2,[((⟨#[114]⟩:ByteArray),[0,1]),((⟨#[115]⟩:ByteArray),[1,0])],[]),true):=by kernel_rfl
theorem zb (M:Nat):cd (M+100) (⟨#[40,88,89,90,85,86,41,61,114,40,88,89,41,44,115,40,89,90,41,44,116,40,90,85,41,44,117,40,85,86,41]⟩:ByteArray)=some ((5,[((⟨#[114]⟩:ByteArray),[0,1]),((⟨#[115]⟩:ByteArray),[1,2]),((⟨#[116]⟩:ByteArray),[2,3]),((⟨#[117]⟩:ByteArray),[3,4])],[0,1,2,3,4]),true):=by kernel_rfl
theorem vc (hN:1073741824≤N):∀ s∈xZ,∃ q,cd N s=some (q,true)∧QGd q:=by
 obtain ⟨M,rfl⟩:∃ M,N=M+100:=⟨N-100,by omega⟩
 intro s hs
 simp only [List.mem_cons,List.not_mem_nil,or_false] at hs
 rcases hs with rfl | rfl | rfl | rfl | rfl | rfl | rfl | rfl | rfl | rfl | rfl
 ·exact ⟨_,Ab M,by unfold QGd;decide⟩
 ·exact ⟨_,zQ M,by unfold QGd;decide⟩
 ·exact ⟨_,zV M,by unfold QGd;decide⟩
 ·exact ⟨_,zq M,by unfold QGd;decide⟩
 ·exact ⟨_,zA M,by unfold QGd;decide⟩
 ·exact ⟨_,As M,by unfold QGd;decide⟩
 ·exact ⟨_,Ai M,by unfold QGd;decide⟩
 ·exact ⟨_,zC M,by unfold QGd;decide⟩
 ·exact ⟨_,Am M,by unfold QGd;decide⟩
 ·exact ⟨_,AR M,by unfold QGd;decide⟩
 ·exact ⟨_,zb M,by unfold QGd;decide⟩
theorem mG {a:List Int} {l:List ByteArray} (ha:dy a) {p h:Int} (hc:bO a p) (hl:0<l.length):∃ x q g,hP N a p h l=some (x,q,g)∧x∈l∧bO a q:=by
 obtain ⟨x,q,g,e,b0,b1,_,hc'⟩:=bC (N:=N) ha (h:=h) (n:=(l.length:Int)) hc
 have b2:=b1 (by omega)
 unfold hP
 rw [e,bs]
 dsimp only
 rw [eI b0 b2,bs]
 exact ⟨_,_,_,rfl,List.getElem_mem _,hc'⟩
theorem gm {a:List Int} (ha:dy a) {p h n:Int} (hc:bO a p):∃ b q g,dW N a p h n=some (b,q,g)∧bO a q:=by
 obtain ⟨x,q,g,e,_,_,_,hc'⟩:=bC (N:=N) ha (h:=h) (n:=n) hc
 unfold dW
 rw [e,bs]
 exact ⟨_,_,_,rfl,hc'⟩
theorem wB {a:List Int} (ha:dy a) {z1 z7 z9 n:Int} {z2 z5 z8:List bb} {z3 z6 z10:List Int} {s:ByteArray}:∀ (d k:Nat) (acc:List Int) (p h m:Int),bO a p→m.toNat=d→m≤10→d<k→acc.length+d≤100 →
  ∃ q g vs m',f4 N k a p h z1 z2 z3 z7 z5 z6 n z8 z10 z9 s acc m=some (q,g,vs,m')∧bO a q∧vs.length=acc.length+d:=by
 intro d
 induction d with
 | zero =>
  intro k acc p h m hc hd _ hk _
  obtain ⟨k,rfl⟩:∃ g,k=g+1:=⟨k-1,by omega⟩
  rw [f4,decide_eq_false (show ¬ 0<m by omega),cond_false]
  exact ⟨_,_,_,_,rfl,hc,by omega⟩
 | succ d ih =>
  intro k acc p h m hc hd hm hk hl
  obtain ⟨k,rfl⟩:∃ g,k=g+1:=⟨k-1,by omega⟩
  obtain ⟨x,q,g,e,_,_,_,hc'⟩:=bC (N:=N) ha (h:=h) (n:=n) hc
  rw [f4,decide_eq_true (show 0<m by omega),cond_true,e,bs]
  dsimp only
  rw [bo (by decide) (by simp;omega),bs,cZ (by omega) (by omega),bs]
  obtain ⟨q',g',vs,m',e',k1,k2⟩:=ih k (acc++[x]) q g (m-1) hc' (by omega) (by omega) (by omega) (by simp;omega)
  exact ⟨q',g',vs,m',e',k1,by simp at k2;omega⟩
theorem v5 (hN:1073741824≤N) {a:List Int} (ha:dy a) {z1 z4 n:Int} {z2 z5:List bb} {z3 z6 z7:List Int}:∀ (d k:Nat) (acc:List bb) (p h m:Int),bO a p→m.toNat=d→m≤10→d<k→acc.length+d≤100→(∀ x∈acc,x.1.size≤4∧1≤x.2.length∧x.2.length≤5) →
  ∃ q g ats m',fZ N k a p h z1 z2 z3 z4 z5 z6 n acc z7 m=some (q,g,ats,m')∧bO a q∧ats.length=acc.length+d∧∀ x∈ats,x.1.size≤4∧1≤x.2.length∧x.2.length≤5:=by
 intro d
 induction d with
 | zero =>
  intro k acc p h m hc hd _ hk _ hx
  obtain ⟨k,rfl⟩:∃ g,k=g+1:=⟨k-1,by omega⟩
  rw [fZ,decide_eq_false (show ¬ 0<m by omega),cond_false]
  exact ⟨_,_,_,_,rfl,hc,by omega,hx⟩
 | succ d ih =>
  intro k acc p h m hc hd hm hk hl hx
  obtain ⟨k,rfl⟩:∃ g,k=g+1:=⟨k-1,by omega⟩
  obtain ⟨x,q,g,e,b0,b1,_,hc'⟩:=bC (N:=N) ha (h:=h) (n:=5) hc
  have b1:=b1 (by decide)
  rw [fZ,decide_eq_true (show 0<m by omega),cond_true,e,bs]
  dsimp only
  have hi:x<(([(⟨#[114]⟩:ByteArray),(⟨#[115]⟩:ByteArray),(⟨#[116]⟩:ByteArray),(⟨#[117]⟩:ByteArray),(⟨#[118]⟩:ByteArray)]:List ByteArray).length:Int):=b1
  rw [eI b0 hi,bs,BT b0 (by decide) (by omega),bs]
  have ht:0≤x.tdiv 4∧x.tdiv 4≤1:=by
   rw [Int.tdiv_eq_ediv_of_nonneg b0];omega
  rw [e9 (by omega) (by omega),bs]
  have hs:∀ s∈([(⟨#[114]⟩:ByteArray),(⟨#[115]⟩:ByteArray),(⟨#[116]⟩:ByteArray),(⟨#[117]⟩:ByteArray),(⟨#[118]⟩:ByteArray)]:List ByteArray),s.size≤4:=by decide
  have hs':=hs _ (List.getElem_mem (l:=([(⟨#[114]⟩:ByteArray),(⟨#[115]⟩:ByteArray),(⟨#[116]⟩:ByteArray),(⟨#[117]⟩:ByteArray),(⟨#[118]⟩:ByteArray)]:List ByteArray)) (n:=x.toNat) (by omega))
  obtain ⟨q',g',vs,m',e',k1,k2⟩:=wB (N:=N) ha (z1:=z1) (z2:=z2) (z3:=z3) (z7:=z4) (z5:=z5) (z6:=z6) (n:=n) (z8:=acc) (z10:=z7) (z9:=m) (s:=([(⟨#[114]⟩:ByteArray),(⟨#[115]⟩:ByteArray),(⟨#[116]⟩:ByteArray),(⟨#[117]⟩:ByteArray),(⟨#[118]⟩:ByteArray)]:List ByteArray)[x.toNat]) (2+x.tdiv 4).toNat N [] q g (2+x.tdiv 4) hc' rfl (by omega) (by omega) (by simp;omega)
  rw [e',bs]
  unfold lpB
  dsimp only
  rw [bo (by decide) (by simp;omega),bs,cZ (by omega) (by omega),bs]
  simp only [List.length_nil,Nat.zero_add] at k2
  obtain ⟨q2,g2,ats,m2,e2,j1,j2,j3⟩:=ih k (acc++[(_,vs)]) q' g' (m-1) k1 (by omega) (by omega) (by omega) (by simp;omega) (fun y hy=>by
   rcases List.mem_append.1 hy with h | h
   ·exact hx y h
   ·rw [List.mem_singleton] at h;rw [h]
    exact ⟨hs',by show 1≤vs.length;omega,by show vs.length≤5;omega⟩)
  exact ⟨q2,g2,ats,m2,e2,j1,by simp at j2;omega,j3⟩
theorem wm {a:List Int} (ha:dy a) {z1 z4:Int} {n:Nat} {z2 z5 z8:List bb} {z3 z6:List Int} (hn:n≤10):∀ (d k:Nat) (acc:List Int) (p h:Int) (i:Nat),bO a p→i+d=n→d<k→acc.length≤i →
  ∃ q g out v,eB N k a p h z1 z2 z3 z4 z5 z6 (n:Int) z8 acc (i:Int)=some (q,g,out,v)∧bO a q∧out.length≤n:=by
 intro d
 induction d with
 | zero =>
  intro k acc p h i hc hd hk hl
  obtain ⟨k,rfl⟩:∃ g,k=g+1:=⟨k-1,by omega⟩
  rw [eB,decide_eq_false (show ¬ (i:Int)<(n:Int) by omega),cond_false]
  exact ⟨_,_,_,_,rfl,hc,by omega⟩
 | succ d ih =>
  intro k acc p h i hc hd hk hl
  obtain ⟨k,rfl⟩:∃ g,k=g+1:=⟨k-1,by omega⟩
  obtain ⟨b,q,g,e,hc'⟩:=gm (N:=N) ha (h:=h) (n:=2) hc
  rw [eB,decide_eq_true (show (i:Int)<(n:Int) by omega),cond_true,e,bs]
  dsimp only
  cases b with
  | true =>
   rw [cond_true,bo (by decide) (by simp;omega),bs,ad1 (by omega),bs]
   exact ih k _ q g (i+1) hc' (by omega) (by omega) (by simp;omega)
  | false =>
   rw [cond_false,ad1 (by omega),bs]
   exact ih k _ q g (i+1) hc' (by omega) (by omega) (by omega)
theorem oy (hN:1073741824≤N) {a:List Int} (ha:dy a) {p h:Int} (hc:bO a p):∃ r q g,il N a p h=some (r,q,g)∧bO a q∧QGd r:=by
 unfold il
 obtain ⟨s,q,g,e,hs,hc1⟩:=mG (N:=N) ha (h:=h) (l:=xZ) hc (by decide)
 obtain ⟨r,er,hr⟩:=vc hN s hs
 rw [e,bs]
 dsimp only
 rw [er,bs]
 obtain ⟨b,q2,g2,e2,hc2⟩:=gm (N:=N) ha (h:=g) (n:=3) hc1
 rw [e2,bs]
 dsimp only
 cases b with
 | false=>rw [cond_false];exact ⟨_,_,_,rfl,hc2,hr⟩
 | true =>
  obtain ⟨x,q3,g3,e3,b0,b1,_,hc3⟩:=bC (N:=N) ha (h:=g2) (n:=4) hc2
  have b1:=b1 (by decide)
  rw [cond_true,e3,bs]
  dsimp only
  obtain ⟨y,q4,g4,e4,c0,c1,_,hc4⟩:=bC (N:=N) ha (h:=g3) (n:=4) hc3
  have c1:=c1 (by decide)
  rw [e9 (by omega) (by omega),bs,e4,bs]
  dsimp only
  rw [e9 (by omega) (by omega),bs]
  obtain ⟨q5,g5,ats,m5,e5,hc5,l5,a5⟩:=v5 hN ha (z1:=0) (z2:=[]) (z3:=[]) (z4:=r.1) (z5:=r.2.1) (z6:=r.2.2) (n:=1+x) (z7:=[]) (1+y).toNat N [] q4 g4 (1+y) hc4 rfl (by omega) (by omega) (by simp;omega) (by simp)
  rw [e5,bs]
  unfold lpB
  dsimp only
  have hx:((x.toNat+1:Nat):Int)=1+x:=by omega
  obtain ⟨q6,g6,out,v6,e6,hc6,l6⟩:=wm (N:=N) ha (z1:=0) (z2:=[]) (z3:=[]) (z4:=r.1) (z5:=r.2.1) (z6:=r.2.2) (n:=x.toNat+1) (z8:=ats) (by omega) (x.toNat+1) N [] q5 g5 0 hc5 (by omega) (by omega) (by simp)
  rw [hx] at e6
  have e6':eB N N a q5 g5 0 [] [] r.1 r.2.1 r.2.2 (1+x) ats [] 0=some (q6,g6,out,v6):=e6
  simp only [List.length_nil,Nat.zero_add] at l5
  have hq:QGd (1+x,ats,out):=⟨⟨by show 1≤1+x;omega,by show 1+x≤5;omega⟩,⟨by show 1≤ats.length;omega,by show ats.length≤4;omega⟩,a5,by show out.length≤5;omega⟩
  rw [e6',bs]
  dsimp only
  rw [ff hN (QSm.atoms hq.sm) (QSm.out hq.sm),bs]
  cases eX (1+x) ats out with
  | true=>rw [cond_true];exact ⟨_,_,_,rfl,hc6,hq⟩
  | false=>rw [cond_false];exact ⟨_,_,_,rfl,hc6,hr⟩
theorem wr (hN:1073741824≤N) {a:List Int} (ha:dy a) {p h:Int} (hc:bO a p):∃ r q g,kA N a p h=some (r,q,g)∧bO a q∧QSm r:=by
 obtain ⟨⟨n,ats,out⟩,q,g,e,hc1,hr⟩:=oy hN ha (h:=h) hc
 obtain ⟨x,q2,g2,e2,_,_,_,hc2⟩:=bC (N:=N) ha (h:=g) (n:=14) hc1
 unfold kA
 rw [e,bs]
 dsimp only
 rw [e2,bs]
 dsimp only
 have hn:=hr.1;have ha1:=hr.2.1;have ha2:=hr.2.2.1;have ho:=hr.2.2.2
 dsimp only at hn ha1 ha2 ho
 have hsm:=hr.sm
 cases h0:(x == 0) with
 | true =>
  rw [cond_true,e9 (by omega) (by omega),bs]
  obtain ⟨y,q3,g3,e3,hy,hc3⟩:=gu (N:=N) ha (h:=g2) (l:=[0,6,n+1]) hc2 (Nat.zero_lt_succ _)
  rw [e3,bs]
  refine ⟨_,_,_,rfl,hc3,⟨?_,hsm.2⟩⟩
  simp only [List.mem_cons,List.not_mem_nil,or_false] at hy
  show 0≤y∧y≤6
  omega
 | false =>
 rw [cond_false]
 cases h1:(x == 1) with
 | true =>
  rw [cond_true]
  obtain ⟨y,q3,g3,e3,hy,hc3⟩:=mG (N:=N) ha (h:=g2) (l:=[ByteArray.empty,(⟨#[119]⟩:ByteArray),(⟨#[114]⟩:ByteArray)]) hc2 (by decide)
  have hys:∀ s∈[ByteArray.empty,(⟨#[119]⟩:ByteArray),(⟨#[114]⟩:ByteArray)],s.size≤4:=by decide
  rw [e3,bs,bo (by decide) (by simp;omega),bs]
  refine ⟨_,_,_,rfl,hc3,hsm.1,by show (ats++[_]).length≤5;simp;omega,fun b hb=>?_,hsm.2.2.2⟩
  rcases List.mem_append.1 hb with h | h
  ·exact hsm.2.2.1 b h
  ·rw [List.mem_singleton] at h;rw [h];exact ⟨hys y hy,by show ([0]:List Int).length≤5;decide⟩
 | false =>
 rw [cond_false]
 cases h2:(x == 2) with
 | true =>
  rw [cond_true]
  obtain ⟨y,q3,g3,e3,b0,b1,_,hc3⟩:=bC (N:=N) ha (h:=g2) (n:=6) hc2
  have b1:=b1 (by decide)
  rw [e3,bs]
  dsimp only
  rw [cZ (by omega) (by omega),bs,bo (by decide) (by simp;omega),bs]
  exact ⟨_,_,_,rfl,hc3,hsm.1,hsm.2.1,hsm.2.2.1,by show (out++[_]).length≤6;simp;omega⟩
 | false =>
 rw [cond_false]
 have hl:0<ats.length:=by omega
 have i0:ix ats 0=some ats[0]:=aM hl
 have hm0:=ha2 _ (List.getElem_mem hl)
 cases h3:(x == 3) with
 | true =>
  have s0:sto ats 0 (ats[0].1,[])=some (ats.set 0 (ats[0].1,[])):=gt hl
  rw [cond_true,i0,bs,s0,bs]
  refine ⟨_,_,_,rfl,hc2,hsm.1,by show (ats.set 0 _).length≤5;rw [List.length_set];omega,fun b hb=>?_,hsm.2.2.2⟩
  rcases List.mem_or_eq_of_mem_set hb with h | h
  ·exact hsm.2.2.1 b h
  ·rw [h];exact ⟨hm0.1,Nat.zero_le _⟩
 | false =>
 rw [cond_false]
 cases h4:(x == 4) with
 | true =>
  obtain ⟨y,q3,g3,e3,hy,hc3⟩:=gu (N:=N) ha (h:=g2) (l:=[(-1),5]) hc2 (by decide)
  have hl1:0<ats[0].2.length:=by omega
  have i1:ix ats[0].2 0=some ats[0].2[0]:=aM hl1
  have s1:sto ats[0].2 0 y=some (ats[0].2.set 0 y):=gt hl1
  have s0:sto ats 0 (ats[0].1,ats[0].2.set 0 y)=some (ats.set 0 (ats[0].1,ats[0].2.set 0 y)):=gt hl
  rw [cond_true,i0,bs,e3,bs,i1,bs,s1,bs,s0,bs]
  refine ⟨_,_,_,rfl,hc3,hsm.1,by show (ats.set 0 _).length≤5;rw [List.length_set];omega,fun b hb=>?_,hsm.2.2.2⟩
  rcases List.mem_or_eq_of_mem_set hb with h | h
  ·exact hsm.2.2.1 b h
  ·rw [h];exact ⟨hm0.1,by show (ats[0].2.set 0 y).length≤5;rw [List.length_set];exact hm0.2.2⟩
 | false =>
 rw [cond_false]
 exact ⟨_,_,_,rfl,hc2,hsm⟩
end
def TSm (t:bc):Prop:=t.1.size≤5∧t.2.2.length≤10∧∀ r∈t.2.2,r.length≤6
def DSm (ts:List bc):Prop:=ts.length≤6∧∀ t∈ts,TSm t
theorem DSm.ok {ts:List bc} (h:DSm ts):mD ts:=⟨by have:=h.1;omega,fun t ht=>by
 obtain ⟨h1,h2,h3⟩:=h.2 t ht
 exact ⟨by omega,by omega,fun r hr=>⟨by have:=h3 r hr;omega,fun _ _=>trivial⟩⟩⟩
theorem yD:∀ (n:Nat) (l:List Int),l.length<n→∃ v:Nat,v<n∧(v:Int)∉l:=by
 intro n
 induction n with
 | zero=>intro l h;omega
 | succ n ih =>
  intro l h
  by_cases hm:(n:Int)∈l
  ·have hl:=List.length_erase_of_mem hm
   have hp:=List.length_pos_of_mem hm
   obtain ⟨v,h1,h2⟩:=ih (l.erase (n:Int)) (by omega)
   exact ⟨v,by omega,fun hv=>h2 ((List.mem_erase_of_ne (by omega)).2 hv)⟩
  ·exact ⟨n,by omega,hm⟩
section
variable {N:Nat}
abbrev ku:List ByteArray:=[(⟨#[114]⟩:ByteArray),(⟨#[115]⟩:ByteArray),(⟨#[116]⟩:ByteArray),(⟨#[117]⟩:ByteArray),(⟨#[118]⟩:ByteArray)]
theorem xB {n m y:Int} {rows:aS} {s:ByteArray} (hs:s.size≤5) (hn:n≤5) (hy:y≤10) (hl:(rows.length:Int)≤y) (hr:∀ r∈rows,(r.length:Int)=n∧∀ v∈r,0≤v∧v<m):TSm (s,(n,rows)) :=
 ⟨hs,by show rows.length≤10;omega,fun r h=>by have:=(hr r h).1;omega⟩
theorem BA (hM:1073742848≤N) {a:List Int} (ha:dy a) {z:List bc} {m:Int} (hm:0<m∧m≤100):∀ (d k:Nat) (acc:List bc) (p h:Int) (i:Nat),bO a p→i+d=5→d<k→acc.length=i→(∀ t∈acc,TSm t) →
  ∃ q g ts v,fU N k a p h z m acc ku (ku.length:Int) (i:Int)=some (q,g,ts,v)∧bO a q∧ts.length=5∧∀ t∈ts,TSm t:=by
 intro d
 induction d with
 | zero =>
  intro k acc p h i hc hd hk hl ht
  obtain ⟨k,rfl⟩:∃ g,k=g+1:=⟨k-1,by omega⟩
  rw [fU,decide_eq_false (show ¬ (i:Int)<(ku.length:Int) by show ¬ (i:Int)<5;omega),cond_false]
  exact ⟨_,_,_,_,rfl,hc,by omega,ht⟩
 | succ d ih =>
  intro k acc p h i hc hd hk hl ht
  obtain ⟨k,rfl⟩:∃ g,k=g+1:=⟨k-1,by omega⟩
  have hi:i<ku.length:=by show i<5;omega
  have hs:∀ s∈ku,s.size≤5:=by decide
  have hs':=hs _ (List.getElem_mem hi)
  rw [fU,decide_eq_true (show (i:Int)<(ku.length:Int) by omega),cond_true,aM hi,bs]
  obtain ⟨y,q,g,e,hy,hc1⟩:=gu (N:=N) ha (h:=h) (l:=[3,6,9]) hc (by decide)
  have hyb:0≤y∧y≤10:=by
   simp only [List.mem_cons,List.not_mem_nil,or_false] at hy
   omega
  cases eqS ku[i] (⟨#[118]⟩:ByteArray) with
  | true =>
   obtain ⟨rows,q2,g2,e2,hc2,r1,r2⟩:=ko hM ha (h:=g) (n:=3) (m:=m) (y:=y) hc1 hm (by decide) (by omega)
   rw [cond_true,e,bs]
   dsimp only
   rw [e2,bs]
   dsimp only
   rw [bo (by decide) (by simp;omega),bs,ad1 (by omega),bs]
   refine ih k _ q2 g2 (i+1) hc2 (by omega) (by omega) (by simp;omega) fun t h=>?_
   rcases List.mem_append.1 h with h | h
   ·exact ht t h
   ·rw [List.mem_singleton] at h;rw [h];exact xB hs' (by decide) hyb.2 r1 r2
  | false =>
   obtain ⟨rows,q2,g2,e2,hc2,r1,r2⟩:=ko hM ha (h:=g) (n:=2) (m:=m) (y:=y) hc1 hm (by decide) (by omega)
   rw [cond_false,e,bs]
   dsimp only
   rw [e2,bs]
   dsimp only
   rw [bo (by decide) (by simp;omega),bs,ad1 (by omega),bs]
   refine ih k _ q2 g2 (i+1) hc2 (by omega) (by omega) (by simp;omega) fun t h=>?_
   rcases List.mem_append.1 h with h | h
   ·exact ht t h
   ·rw [List.mem_singleton] at h;rw [h];exact xB hs' (by decide) hyb.2 r1 r2
theorem rA {ts:List bc} {i:Nat} {t:bc} (h:∀ t∈ts,TSm t) (ht:TSm t):∀ u∈ts.set i t,TSm u:=fun u hu=>by
 rcases List.mem_or_eq_of_mem_set hu with h' | h'
 ·exact h u h'
 ·rw [h'];exact ht
theorem o6 {α:Type} {xs:List α} {i:Int} {y:α} (h0:0≤i) (h:i<xs.length):sto xs i y=some (xs.set i.toNat y):=by
 obtain ⟨k,rfl⟩:=Int.eq_ofNat_of_zero_le h0
 exact gt (by omega)
theorem sy (hM:1073742848≤N) {a:List Int} (ha:dy a) {p h:Int} (hc:bO a p):∃ ts q g,j6 N a p h=some (ts,q,g)∧bO a q∧ts.length=5∧∀ t∈ts,TSm t:=by
 unfold j6
 obtain ⟨m,q,g,e,hm,hc1⟩:=gu (N:=N) ha (h:=h) (l:=[2,3,4,6]) hc (by decide)
 have hmb:0<m∧m≤100:=by
  simp only [List.mem_cons,List.not_mem_nil,or_false] at hm
  omega
 rw [e,bs]
 dsimp only
 obtain ⟨q2,g2,ts,v,e2,hc2,hl,ht⟩:=BA hM ha (z:=[]) hmb 5 N [] q g 0 hc1 rfl (by omega) rfl (by simp)
 have e2':fU N N a q g [] m [] ku (ku.length:Int) 0=some (q2,g2,ts,v):=e2
 rw [e2',bs]
 unfold lpB
 dsimp only
 obtain ⟨b,q3,g3,e3,hc3⟩:=gm (N:=N) ha (h:=g2) (n:=8) hc2
 rw [e3,bs]
 dsimp only
 cases b with
 | false=>rw [cond_false];exact ⟨_,_,_,rfl,hc3,hl,ht⟩
 | true =>
  obtain ⟨x,q4,g4,e4,b0,b1,_,hc4⟩:=bC (N:=N) ha (h:=g3) (n:=5) hc3
  have b1:=b1 (by decide)
  have hx:x<(ts.length:Int):=by omega
  have hm:=ht _ (List.getElem_mem (show x.toNat<ts.length by omega))
  rw [cond_true,e4,bs]
  dsimp only
  rw [eI b0 hx,bs,o6 b0 hx,bs]
  exact ⟨_,_,_,rfl,hc4,by rw [List.length_set];exact hl,rA ht ⟨hm.1,Nat.zero_le _,fun r hr=>by cases hr⟩⟩
theorem tw.t {r:Int × aS} {s:ByteArray} (hs:s.size≤5) (k:tw r):TSm (s,r):=⟨hs,by show r.2.length≤10;have:=k.2.1;omega,fun w hw=>(k.2.2 w hw).1⟩
theorem wj (hM:1073742848≤N) {a:List Int} (ha:dy a) {p h:Int} (hc:bO a p):∃ ts q g,km N a p h=some (ts,q,g)∧bO a q∧DSm ts:=by
 have hN:1073741824≤N:=by omega
 obtain ⟨ts,q,g,e,hc1,hl,ht⟩:=sy hM ha (h:=h) hc
 obtain ⟨x,q2,g2,e2,b0,b1,_,hc2⟩:=bC (N:=N) ha (h:=g) (n:=5) hc1
 have b1:=b1 (by decide)
 obtain ⟨y,q3,g3,e3,_,_,_,hc3⟩:=bC (N:=N) ha (h:=g2) (n:=14) hc2
 have hx:x<(ts.length:Int):=by omega
 have hm:=ht _ (List.getElem_mem (show x.toNat<ts.length by omega))
 unfold km
 rw [e,bs]
 dsimp only
 rw [e2,bs]
 dsimp only
 rw [e3,bs]
 dsimp only
 cases h0:(y == 0) with
 | true =>
  obtain ⟨s,q4,g4,e4,hs,hc4⟩:=mG (N:=N) ha (h:=g3) (l:=[ByteArray.empty,(⟨#[82]⟩:ByteArray),(⟨#[97,98,99,100,101]⟩:ByteArray),(⟨#[97]⟩:ByteArray),(⟨#[122]⟩:ByteArray)]) hc3 (by decide)
  have hss:∀ s∈[ByteArray.empty,(⟨#[82]⟩:ByteArray),(⟨#[97,98,99,100,101]⟩:ByteArray),(⟨#[97]⟩:ByteArray),(⟨#[122]⟩:ByteArray)],s.size≤5:=by decide
  rw [cond_true,e4,bs,eI b0 hx,bs,o6 b0 hx,bs]
  exact ⟨_,_,_,rfl,hc4,by rw [List.length_set];omega,rA ht ⟨hss s hs,hm.2⟩⟩
 | false =>
 rw [cond_false]
 cases h1:(y == 1) with
 | true =>
  obtain ⟨r,q4,g4,e4,hc4,hr⟩:=v7 hM ha (h:=g3) hc3
  rw [cond_true,e4,bs,eI b0 hx,bs,o6 b0 hx,bs]
  exact ⟨_,_,_,rfl,hc4,by rw [List.length_set];omega,rA ht (hr.t hm.1)⟩
 | false =>
 rw [cond_false]
 cases h2:(y == 2) with
 | true =>
  rw [cond_true,eI b0 hx,bs,bo (by decide) (by simp;omega),bs]
  refine ⟨_,_,_,rfl,hc3,by simp;omega,fun t h=>?_⟩
  rcases List.mem_append.1 h with h | h
  ·exact ht t h
  ·rw [List.mem_singleton] at h;rw [h];exact hm
 | false =>
 rw [cond_false]
 cases h3:(y == 3) with
 | true =>
  have es:slc ts 0 x=some ((ts.take x.toNat).drop 0):=by
   have:=iP (xs:=ts) (lo:=0) (hi:=x.toNat) (by omega) (by omega)
   rwa [show ((x.toNat:Nat):Int)=x by omega] at this
  rw [cond_true,es,bs]
  refine ⟨_,_,_,rfl,hc3,by rw [List.drop_zero,List.length_take];omega,fun t h=>ht t (List.mem_of_mem_take (by simpa using h))⟩
 | false =>
 rw [cond_false]
 exact ⟨_,_,_,rfl,hc3,by omega,ht⟩
theorem uQ (hM:1073742848≤N) {a:List Int} (ha:dy a) {p h:Int} (hc:bO a p):∃ ts r q g,jP N a p h=some (ts,r,q,g)∧bO a q∧DSm ts∧QSm r:=by
 have hN:1073741824≤N:=by omega
 obtain ⟨ts,q,g,e,hc1,hl,ht⟩:=sy hM ha (h:=h) hc
 obtain ⟨r,q2,g2,e2,hc2,hr⟩:=oy hN ha (h:=g) hc1
 obtain ⟨y,q3,g3,e3,_,_,_,hc3⟩:=bC (N:=N) ha (h:=g2) (n:=24) hc2
 unfold jP
 rw [e,bs]
 dsimp only
 rw [e2,bs]
 dsimp only
 rw [e3,bs]
 dsimp only
 cases h0:(y == 0) with
 | true =>
  obtain ⟨ts2,q4,g4,e4,hc4,ht4⟩:=wj hM ha (h:=g3) hc3
  rw [cond_true,e4,bs]
  exact ⟨_,_,_,_,rfl,hc4,ht4,hr.sm⟩
 | false =>
 rw [cond_false]
 cases h1:(y == 1) with
 | true =>
  obtain ⟨r2,q4,g4,e4,hc4,hr4⟩:=wr hN ha (h:=g3) hc3
  rw [cond_true,e4,bs]
  exact ⟨_,_,_,_,rfl,hc4,⟨by omega,ht⟩,hr4⟩
 | false =>
 rw [cond_false]
 exact ⟨_,_,_,_,rfl,hc3,⟨by omega,ht⟩,hr.sm⟩
theorem wg (hN:1073741824≤N) {a acc:List Int} {p h:Int} {n v:Nat} (hn:n≤5) (hacc:acc.length≤5) (hv:v<n) (hf:(v:Int)∉acc):∀ (d k r:Nat),r<n→(r+d=v∨r+d=v+n)→d≤n→d<k→∃ x:Int,fo N k a p h (n:Int) acc (r:Int)=some x∧0≤x∧x<n:=by
 intro d
 induction d with
 | zero =>
  intro k r hr hd _ hk
  obtain ⟨k,rfl⟩:∃ g,k=g+1:=⟨k-1,by omega⟩
  have:r=v:=by omega
  subst this
  have hneg:¬ 0≤ck acc (r:Int):=fun h=>hf (kW.1 h)
  rw [fo,iy hN (by omega),bs,decide_eq_false hneg,cond_false]
  exact ⟨_,rfl,by omega,by omega⟩
 | succ d ih =>
  intro k r hr hd hdn hk
  obtain ⟨k,rfl⟩:∃ g,k=g+1:=⟨k-1,by omega⟩
  rw [fo,iy hN (by omega),bs]
  by_cases hq:0≤ck acc (r:Int)
  ·rw [decide_eq_true hq,cond_true,ad1 (by omega),bs,rx (by omega),bs]
   by_cases hw:r+1=n
   ·have e:(((r+1:Nat):Int)).tmod (n:Int)=((0:Nat):Int):=by rw [hw,Int.tmod_self];rfl
    rw [e]
    exact ih k 0 (by omega) (by omega) (by omega) (by omega)
   ·have e:(((r+1:Nat):Int)).tmod (n:Int)=((r+1:Nat):Int):=Int.tmod_eq_of_lt (by omega) (by omega)
    rw [e]
    exact ih k (r+1) (by omega) (by omega) (by omega) (by omega)
  ·rw [decide_eq_false hq,cond_false]
   exact ⟨_,rfl,by omega,by omega⟩
theorem wC (hN:1073741824≤N) {a:List Int} (ha:dy a) {n:Nat} (hn:n≤5):∀ (d k:Nat) (acc:List Int) (p h:Int),bO a p→acc.length+d=n→d<k→(∀ v∈acc,0≤v∧v<n) →
  ∃ q g out,fX N k a p h (n:Int) acc=some (q,g,out)∧bO a q∧out.length=n∧∀ v∈out,0≤v∧v<n:=by
 intro d
 induction d with
 | zero =>
  intro k acc p h hc hd hk hv
  obtain ⟨k,rfl⟩:∃ g,k=g+1:=⟨k-1,by omega⟩
  rw [fX,decide_eq_false (by omega),cond_false]
  exact ⟨_,_,_,rfl,hc,by omega,hv⟩
 | succ d ih =>
  intro k acc p h hc hd hk hv
  obtain ⟨k,rfl⟩:∃ g,k=g+1:=⟨k-1,by omega⟩
  obtain ⟨x,q,g,e,b0,b1,_,hc1⟩:=bC (N:=N) ha (h:=h) (n:=(n:Int)) hc
  have b1:=b1 (by omega)
  obtain ⟨v,hv1,hv2⟩:=yD n acc (by omega)
  obtain ⟨r,rfl⟩:=Int.eq_ofNat_of_zero_le b0
  obtain ⟨y,e2,y0,y1⟩:=wg hN (a:=a) (p:=q) (h:=g) hn (by omega) hv1 hv2 (if r≤v then v-r else v+n-r) N r (by omega) (by split <;> omega) (by split <;> omega) (by split <;> omega)
  rw [fX,decide_eq_true (by omega),cond_true,e,bs]
  dsimp only
  have e2':fo N N a q g (n:Int) acc ((r:Nat):Int)=some y:=e2
  rw [e2',bs]
  unfold lpB
  dsimp only
  rw [bo (by decide) (by simp;omega),bs]
  refine ih k _ q g hc1 (by simp;omega) (by omega) fun w hw=>?_
  rcases List.mem_append.1 hw with h | h
  ·exact hv w h
  ·rw [List.mem_singleton] at h;rw [h];exact ⟨y0,y1⟩
theorem uF (hN:1073741824≤N) {a:List Int} (ha:dy a) {p h:Int} {n:Nat} (hn:n≤5) (hc:bO a p):∃ out q g,jc N a p h (n:Int)=some (out,q,g)∧bO a q∧out.length=n:=by
 obtain ⟨q,g,out,e,h1,h2,_⟩:=wC hN ha hn n N [] p h hc (by simp) (by omega) (by simp)
 unfold jc
 rw [e,bs]
 exact ⟨_,_,_,rfl,h1,h2⟩
theorem s9 (hN:1073741824≤N) {a:List Int} (ha:dy a) {p h n:Int} {ats:List bb} {o:List Int} (hc:bO a p):∃ out q g,iR N a p h n ats o=some (out,q,g)∧bO a q∧out.length≤5:=by
 unfold iR
 have hi:∃ m:Nat,imx 0 (imn 5 n)=(m:Int)∧m≤5:=by
  have h1:0≤imx 0 (imn 5 n)∧imx 0 (imn 5 n)≤5:=by
   unfold imx imn
   split <;> split at*<;> omega
  exact ⟨(imx 0 (imn 5 n)).toNat,by omega,by omega⟩
 obtain ⟨m,em,hm⟩:=hi
 obtain ⟨out,q,g,e,hc1,hl⟩:=uF hN ha (h:=h) hm hc
 rw [em,e,bs]
 dsimp only
 by_cases h0:(0:Int)<(out.length:Int)
 ·obtain ⟨b,q2,g2,e2,hc2⟩:=gm (N:=N) ha (h:=g) (n:=14) hc1
  rw [decide_eq_true h0,cond_true,e2,bs]
  dsimp only
  cases b with
  | false=>rw [cond_false];exact ⟨_,_,_,rfl,hc2,by omega⟩
  | true =>
   obtain ⟨x,q3,g3,e3,_,_,_,hc3⟩:=bC (N:=N) ha (h:=g2) (n:=6) hc2
   rw [cond_true,e3,bs,eI (by decide) h0,bs,o6 (by decide) h0,bs]
   exact ⟨_,_,_,rfl,hc3,by rw [List.length_set];omega⟩
 ·rw [decide_eq_false h0,cond_false];exact ⟨_,_,_,rfl,hc1,by rw [hl];exact hm⟩
def JSm (ts:List bc) (r:mb) (o:List Int):Prop:=DSm ts∧QSm r∧o.length≤5
theorem JSm.o {ts:List bc} {r:mb} {o:List Int} (h:JSm ts r o):okI o:=⟨by have:=h.2.2;omega,fun _ _=>trivial⟩
theorem ud (hM:1073742848≤N) {a:List Int} (ha:dy a) {p h:Int} (hc:bO a p):∃ ts r o q g,i4 N a p h=some (ts,r,o,q,g)∧bO a q∧JSm ts r o:=by
 obtain ⟨ts,r,q,g,e,hc1,ht,hr⟩:=uQ hM ha (h:=h) hc
 unfold i4
 rw [e,bs]
 dsimp only
 obtain ⟨o,q2,g2,e2,hc2,hl⟩:=s9 (N:=N) (by omega) ha (h:=g) (n:=r.1) (ats:=r.2.1) (o:=r.2.2) hc1
 rw [e2,bs]
 exact ⟨_,_,_,_,_,rfl,hc2,ht,hr,hl⟩
theorem Bh {a:List Int}:bO a 0:=⟨Int.le_refl _,by omega⟩
end
theorem sB {f:Nxt}:∀ {m:Nat} {p0 s r:List Int},r∈(bF f m p0).1→s.length<m→r.take (p0++s).length=p0++s→∃ h:(p0++s).length<r.length,r[(p0++s).length]∈(f (p0++s)).1
 | 0,_,_,_,_,hs,_=>absurd hs (Nat.not_lt_zero _)
 | m+1,p0,s,r,hr,hs,ht=>by
  obtain ⟨v,hv,hr⟩:=List.mem_flatMap.1 hr
  obtain ⟨s',e,hl⟩:=kd hr
  cases s with
  | nil =>
   subst e
   simp only [List.append_nil]
   refine ⟨by simp,?_⟩
   have:(p0++[v]++s')[p0.length]'(by simp)=v:=by simp
   rw [this];exact hv
  | cons w s =>
   have hw:w=v:=by
    subst e
    have h1:=congrArg (fun l:List Int=>l[p0.length]?) ht
    simp only [List.length_append,List.length_cons,List.append_assoc] at h1
    rw [List.getElem?_take_of_lt (by omega)] at h1
    simpa using h1.symm
   subst hw
   have e2:p0++w :: s=p0++[w]++s:=by simp
   rw [e2] at ht ⊢
   exact sB hr (by simp at hs;omega) ht
theorem sO {f g:Nxt} {n:Nat} (h:∀ p:List Int,p.length<n→(f p).1=(g p).1):∀ (m:Nat) (p:List Int),p.length+m≤n→(bF f m p).1=(bF g m p).1
 | 0,_,_=>rfl
 | m+1,p,hp=>by
  show (f p).1.flatMap (fun v=>(bF f m (p++[v])).1)=(g p).1.flatMap fun v=>(bF g m (p++[v])).1
  rw [h p (by omega)]
  congr 1
  funext v
  exact sO h m _ (by simp;omega)
theorem rT {ts:List bc} {n:Nat} {atoms:List bb} {order:List Int} (q:QFor ts n atoms order):(bF (bE ts order atoms) n []).1=(bF (qD ts order atoms) n []).1 :=
 sO (n:=n) (fun p hp=>ux ((jZ q).asc p) ((y8 q).asc p) (BR q hp)) n [] (by simp)
section
variable {N:Nat}
theorem tR (hN:1073741824≤N) {xs ys:List Int} (hx:xs.length≤1048576):iO N xs ys=some (decide (xs=ys)):=by
 unfold iO
 by_cases hl:xs.length=ys.length
 ·rw [BV hl,cond_false]
  refine Bi (L:=fun k i=>dU N k xs ys i) hl hx hN (fun k i h h'=>?_) (fun k=>?_)
  ·show dU N (k+1) xs ys (i:Int)=_
   rw [dU,dlt h,cond_true,aM h,bs,aM h',bs,qv,ad1 (by omega),bs]
   cases decide (xs[i]=ys[i]) <;> rfl
  ·show dU N (k+1) xs ys (xs.length:Int)=_
   rw [dU,dge (by omega),cond_false]
 ·rw [BP hl,cond_true];exact AY hl
end
theorem og {ts:List bc} {n:Nat} {atoms:List bb} {order:List Int} (q:QFor ts n atoms order) {v:Int} (h0:0≤v) (h1:v<n):v∈order:=by
 apply Classical.byContradiction
 intro hn
 obtain ⟨h2,h3⟩:=go q.os
 have:=jF n (v :: order) (List.nodup_cons.2 ⟨hn,h2⟩) (fun x hx=>by
  rcases List.mem_cons.1 hx with rfl | h
  ·exact ⟨h0,h1⟩
  ·have:=h3 x h;omega)
 rw [List.length_cons,q.ol] at this
 omega
theorem wE {ts:List bc} {n:Nat} {atoms:List bb} {order:List Int} (q:QFor ts n atoms order) (he:jL (cp ts order atoms)=true):(bF (qD ts order atoms) n []).1=[]:=by
 refine List.eq_nil_iff_forall_not_mem.2 fun r hr=>?_
 unfold jL cp at he
 rw [List.any_eq_true] at he
 obtain ⟨t,ht,h0⟩:=he
 rw [decide_eq_true_eq] at h0
 obtain ⟨a,ha,rfl⟩:=List.mem_map.1 ht
 obtain ⟨i,hi,rfl⟩:=List.getElem_of_mem ha
 obtain ⟨h1,h2,h3⟩:=q.al _ ha
 have hv:=h3 _ (List.getElem_mem (show 0<atoms[i].2.length by omega))
 obtain ⟨l,hl,el⟩:=List.getElem_of_mem (og q hv.1 hv.2)
 have hol:=q.ol
 obtain ⟨s,e,hs⟩:=kd hr
 have hrl:r.length=n:=by rw [e];exact hs
 have hpl:(r.take l).length=l:=by rw [List.length_take];omega
 obtain ⟨w1,w2⟩:=sB (p0:=[]) (s:=r.take l) hr (by omega) (by rw [List.nil_append,hpl])
 obtain ⟨x,w2⟩:∃ x,x∈(qD ts order atoms (r.take l)).1:=⟨_,by simpa using w2⟩
 have k:=mO (ls:=eg ts order atoms (r.take l)) (B:=16) fun l hl=>(gl q l hl).1
 have hin:atV ts order atoms (r.take l) i∈eg ts order atoms (r.take l):=by
  unfold eg
  rw [hpl]
  refine List.mem_map.2 ⟨i,j0.2 ⟨hi,?_⟩,rfl⟩
  rw [aX hl,el,fv hi]
  exact List.getElem_mem _
 have hx:=k.2.1 _ w2 _ hin
 unfold atV at hx
 rw [fv hi] at hx
 have hlen:=s5 (gh ts order atoms[i]).1 (gh ts order atoms[i]).2 (kC atoms[i].2 order (r.take l))
 have:=List.length_pos_of_mem hx
 omega
def lF (order r:List Int) (v:Int):Int:=r.getD (ck order v).toNat 0
def oX (ts:List bc) (a:bb):aS:=(ci ts a.1).1.2
def BQ (ts:List bc) (atoms:List bb) (f:Int→Int):Prop:=∀ a∈atoms,a.2.map f∈oX ts a
theorem lu {vs:List Int} {v:Int} (h:v∈vs):∃ j:Nat,ck vs v=(j:Int)∧∃ hj:j<vs.length,vs[j]=v:=by
 rcases kz vs v with ⟨h1,_⟩ | ⟨j,hj,e,e2,_⟩
 ·exact absurd h h1
 ·exact ⟨j,e2,hj,e⟩
theorem wt {vs:List Int} {f:Int→Int} {j:Nat} (h:j<vs.length):(vs.map f).getD j 0=f vs[j]:=by
 rw [aX (by rw [List.length_map];exact h),List.getElem_map]
theorem nO (vars:List Int):∀ (l out:List Int),l.Nodup→(∀ v∈l,v∈vars→ck vars v∉out)→l.foldl (d9 vars) out=out++(l.filter fun v=>decide (v∈vars)).map (ck vars)
 | [],out,_,_=>by simp
 | v :: l,out,hn,ho=>by
  obtain ⟨n1,n2⟩:=List.nodup_cons.1 hn
  rw [List.foldl_cons]
  by_cases hv:v∈vars
  ·have e:d9 vars out v=out++[ck vars v]:=by
    unfold d9
    rw [decide_eq_true (kW.2 hv),decide_eq_false (ho v List.mem_cons_self hv)];rfl
   rw [e,nO vars l _ n2 (fun w hw hwv hm=>by
    rcases List.mem_append.1 hm with h | h
    ·exact ho w (List.mem_cons_of_mem _ hw) hwv h
    ·rw [List.mem_singleton] at h
     obtain ⟨j,e1,hj,e2⟩:=lu hwv
     obtain ⟨k,e3,hk,e4⟩:=lu hv
     have:j=k:=by omega
     subst this
     rw [e2] at e4;subst e4;exact n1 hw),List.filter_cons,if_pos (by simpa using hv)]
   simp
  ·have e:d9 vars out v=out:=by
    unfold d9
    rw [decide_eq_false (fun h=>hv (kW.1 h))];rfl
   rw [e,nO vars l _ n2 (fun w hw=>ho w (List.mem_cons_of_mem _ hw)),List.filter_cons,if_neg (by simpa using hv)]
theorem oJ {vs order x:List Int} (hn:order.Nodup):dO (di vs x) (hZ vs order)=(order.filter fun v=>decide (v∈bj vs)).map fun v=>x.getD (ck vs v).toNat 0:=by
 unfold hZ
 rw [nO _ _ _ hn (by simp),List.nil_append]
 unfold dO
 rw [List.map_map]
 refine List.map_congr_left fun v hv=>?_
 rw [List.mem_filter,decide_eq_true_eq] at hv
 obtain ⟨j,e1,hj,e2⟩:=lu hv.2
 show (di vs x).getD (ck (bj vs) v).toNat 0=_
 unfold di
 rw [e1,Int.toNat_natCast,wt hj,e2]
theorem ur {ts:List bc} {order:List Int} {a:bb} {t:List Int}:t∈(gh ts order a).2↔∃ x∈oX ts a,gQ a.2 x=true∧t=dO (di a.2 x) (hZ a.2 order):=by
 unfold gh oX
 dsimp only
 rw [my,List.mem_map]
 constructor
 ·rintro ⟨y,hy,rfl⟩
  rw [my] at hy
  unfold co at hy
  obtain ⟨x,hx,rfl⟩:=List.mem_map.1 hy
  rw [List.mem_filter] at hx
  exact ⟨x,hx.1,hx.2,rfl⟩
 ·rintro ⟨x,h1,h2,rfl⟩
  refine ⟨_,(my _ _ _).2 (List.mem_map.2 ⟨x,List.mem_filter.2 ⟨h1,h2⟩,rfl⟩),rfl⟩
theorem tP {vs order r:List Int} (hn:order.Nodup):∀ m,m≤order.length→fw vs order r m=((order.take m).filter fun v=>decide (v∈vs)).map (lF order r)
 | 0,_=>rfl
 | m+1,h=>by
  rw [jf,tP hn m (by omega),List.take_succ_eq_append_getElem (by omega),List.filter_append,List.map_append,aX (by omega)]
  by_cases hv:order[m]∈vs
  ·rw [decide_eq_true hv,cond_true,List.filter_cons,if_pos (by simpa using hv)]
   simp only [List.filter_nil,List.map_cons,List.map_nil]
   unfold lF
   rw [qw hn,Int.toNat_natCast]
  ·rw [decide_eq_false hv,cond_false,List.filter_cons,if_neg (by simpa using hv)]
   simp
theorem vV {vs x:List Int} (h:gQ vs x=true) {i:Nat} (hi:i<vs.length):x.getD (ck vs vs[i]).toNat 0=x.getD i 0:=by
 unfold gQ mH at h
 rw [List.all_eq_true] at h
 have:=h i (by simp;omega)
 unfold o8 at this
 rw [decide_eq_true_eq,aX hi] at this
 exact this
theorem ws {vs x:List Int} (h:∀ i (hi:i<vs.length),x.getD (ck vs vs[i]).toNat 0=x.getD i 0):gQ vs x=true:=by
 unfold gQ mH
 rw [List.all_eq_true]
 intro i hi
 have hi:i<vs.length:=by simpa using hi
 unfold o8
 rw [decide_eq_true_eq,aX hi]
 exact h i hi
section
variable {ts:List bc} {n:Nat} {atoms:List bb} {order:List Int}
theorem nu (q:QFor ts n atoms order):order.Nodup:=(go q.os).1
theorem pJ (q:QFor ts n atoms order) {a:bb} {r:List Int} (hr:r.length=n):kC a.2 order r=(order.filter fun v=>decide (v∈bj a.2)).map (lF order r):=by
 unfold kC
 have hb:=(go q.os).2
 have h5:=q.n5
 rw [tP (nu q) _ (by rw [q.ol,hr];exact Nat.le_refl _),hr,← q.ol,List.take_length]
 congr 1
 refine List.filter_congr fun v hv=>?_
 rw [decide_eq_decide,iC]
 have:=hb v hv
 exact ⟨fun h=>⟨by omega,h⟩,fun h=>h.2⟩
theorem yK (q:QFor ts n atoms order) {a:bb} (ha:a∈atoms) {x:List Int} (hx:x∈oX ts a):x.length=a.2.length∧bv x=true:=by
 obtain ⟨h1,h2⟩:=q.af a ha
 obtain ⟨_,h4⟩:=qh h1 h2
 obtain ⟨i,hi,rfl⟩:=List.getElem_of_mem hx
 exact h4 i hi
theorem uG (q:QFor ts n atoms order) {a:bb} (ha:a∈atoms) {r:List Int} (hr:r.length=n):kC a.2 order r∈(gh ts order a).2↔a.2.map (lF order r)∈oX ts a:=by
 have hnd:=nu q
 obtain ⟨hl5,hl1,hv⟩:=q.al a ha
 have hF:∀ v∈a.2,v∈order.filter fun v=>decide (v∈bj a.2):=fun v hm=>by
  have h5:=q.n5
  have:=hv v hm
  rw [List.mem_filter,decide_eq_true_eq,iC]
  exact ⟨og q this.1 this.2,by omega,hm⟩
 have hF2:∀ v,v∈(order.filter fun v=>decide (v∈bj a.2))→v∈a.2:=fun v hm=>by
  rw [List.mem_filter,decide_eq_true_eq,iC] at hm
  exact hm.2.2
 rw [ur,pJ q hr]
 constructor
 ·rintro ⟨x,hx,hf,e⟩
  rw [oJ hnd,List.map_inj_left] at e
  have hxl:=(yK q ha hx).1
  have:a.2.map (lF order r)=x:=by
   refine List.ext_getElem (by rw [List.length_map,hxl]) fun i h1 h2=>?_
   have hi:i<a.2.length:=by rw [← hxl];exact h2
   rw [List.getElem_map,e _ (hF _ (List.getElem_mem hi)),vV hf hi,aX h2]
  rw [this];exact hx
 ·intro hx
  have key:∀ v∈a.2,(a.2.map (lF order r)).getD (ck a.2 v).toNat 0=lF order r v:=fun v hm=>by
   obtain ⟨j,e1,hj,e2⟩:=lu hm
   rw [e1,Int.toNat_natCast,wt hj,e2]
  refine ⟨_,hx,ws fun i hi=>?_,?_⟩
  ·rw [key _ (List.getElem_mem hi),wt hi]
  ·rw [oJ hnd]
   exact List.map_congr_left fun v hm=>(key v (hF2 v hm)).symm
theorem qn {f:Nxt}:∀ {m:Nat} {p r:List Int},r∈(bF f m p).1↔∃ s,r=p++s∧s.length=m∧∀ l (h:l<s.length),s[l]∈(f (p++s.take l)).1
 | 0,p,r=>by
  constructor
  ·intro h;exact ⟨[],by rw [List.append_nil];exact List.mem_singleton.1 h,rfl,fun l h=>absurd h (Nat.not_lt_zero _)⟩
  ·rintro ⟨s,rfl,hs,_⟩
   rw [List.length_eq_zero_iff.1 hs,List.append_nil];exact List.mem_singleton.2 rfl
 | m+1,p,r=>by
  constructor
  ·intro h
   obtain ⟨v,hv,h⟩:=List.mem_flatMap.1 h
   obtain ⟨s,rfl,hs,hl⟩:=qn.1 h
   refine ⟨v :: s,by simp,by simp [hs],fun l h=>?_⟩
   cases l with
   | zero=>simpa using hv
   | succ l =>
    have:=hl l (by simpa using h)
    simpa using this
  ·rintro ⟨s,rfl,hs,hl⟩
   cases s with
   | nil=>simp at hs
   | cons v s =>
    have h0:=hl 0 (by simp)
    rw [List.take_zero,List.append_nil] at h0
    refine List.mem_flatMap.2 ⟨v,h0,qn.2 ⟨s,by simp,by simpa using hs,fun l h=>?_⟩⟩
    have:=hl (l+1) (by simpa using h)
    simpa using this
theorem sV (q:QFor ts n atoms order) {p:List Int} (hp:p.length<n) {x:Int}:x∈(bE ts order atoms p).1↔∀ i,i<atoms.length→order.getD p.length 0∈(eW atoms i).2→x∈atV ts order atoms p i:=by
 have ha:=ri q hp
 have k1:=nA (ls:=eg ts order atoms p) (B:=16) fun l hl=>(gl q l hl).1
 have hm:(∀ l∈eg ts order atoms p,x∈l)↔∀ i,i<atoms.length→order.getD p.length 0∈(eW atoms i).2→x∈atV ts order atoms p i:=by
  unfold eg
  constructor
  ·intro h i hi hv
   exact h _ (List.mem_map.2 ⟨i,j0.2 ⟨hi,hv⟩,rfl⟩)
  ·intro h l hl
   obtain ⟨i,hi,rfl⟩:=List.mem_map.1 hl
   exact h i (j0.1 hi).1 (j0.1 hi).2
 rw [← hm]
 exact ⟨fun h=>k1.2.1 x h,fun h=>k1.2.2.2.2 ha x h⟩
theorem sY {vs order r:List Int}:∀ {l m:Nat},l≤m→m≤r.length→fw vs order (r.take m) l=fw vs order r l
 | 0,_,_,_=>rfl
 | l+1,m,h,hm=>by
  rw [jf,jf,sY (by omega) hm,aX (xs:=r.take m) (by rw [List.length_take];omega),aX (xs:=r) (by omega),List.getElem_take]
theorem ue {vs order r:List Int}:∀ {l m:Nat},l≤m→∃ t,fw vs order r m=fw vs order r l++t
 | l,0,h=>by
  obtain rfl:l=0:=by omega
  exact ⟨[],by simp⟩
 | l,m+1,h=>by
  by_cases e:l=m+1
  ·subst e;exact ⟨[],by simp⟩
  ·obtain ⟨t,ht⟩:=ue (vs:=vs) (order:=order) (r:=r) (show l≤m by omega)
   rw [jf,ht]
   cases decide (order.getD m 0∈vs)
   ·exact ⟨t,rfl⟩
   ·exact ⟨t++[r.getD m 0],by simp⟩
theorem s3 {vs order r:List Int}:∀ {m:Nat},fw vs order r m≠[]→∃ l,l<m∧order.getD l 0∈vs∧fw vs order r m=fw vs order r l++[r.getD l 0]
 | 0,h=>absurd rfl h
 | m+1,h=>by
  rw [jf] at h ⊢
  by_cases hv:order.getD m 0∈vs
  ·rw [decide_eq_true hv,cond_true];exact ⟨m,by omega,hv,rfl⟩
  ·rw [decide_eq_false hv,cond_false] at h ⊢
   obtain ⟨l,h1,h2,h3⟩:=s3 h
   exact ⟨l,by omega,h2,h3⟩
theorem tA (q:QFor ts n atoms order) {a:bb} (ha:a∈atoms) {t:List Int} (ht:t∈(gh ts order a).2):(t.length:Int)=(gh ts order a).1:=by
 obtain ⟨_,_,h3,_⟩:=nJ q ha
 obtain ⟨_,_,_,h4⟩:=bU h3
 obtain ⟨i,hi,rfl⟩:=List.getElem_of_mem ht
 exact (h4 i hi).1
theorem xW (q:QFor ts n atoms order) {r:List Int}:r∈(bF (bE ts order atoms) n []).1↔r.length=n∧BQ ts atoms (lF order r):=by
 have hol:=q.ol
 have step:∀ {r:List Int},r.length=n→((∀ l (h:l<r.length),r[l]∈(bE ts order atoms (r.take l)).1)↔∀ a∈atoms,kC a.2 order r∈(gh ts order a).2):=by
  intro r hr
  have own:∀ {l:Nat} (vs:List Int),l≤n→kC vs order (r.take l)=fw vs order r l:=fun {l} vs hl=>by
   unfold kC
   rw [List.length_take,Nat.min_eq_left (by omega),sY (Nat.le_refl _) (by omega)]
  have full:∀ vs:List Int,kC vs order r=fw vs order r n:=fun vs=>by unfold kC;rw [hr]
  constructor
  ·intro h a ha
   obtain ⟨i,hi,rfl⟩:=List.getElem_of_mem ha
   rw [full]
   have hne:fw atoms[i].2 order r n≠[]:=fun e=>by
    have h2:=pJ q (a:=atoms[i]) hr
    rw [full,e] at h2
    obtain ⟨_,h1,hv⟩:=q.al _ ha
    have h3:=hv _ (List.getElem_mem (show 0<atoms[i].2.length by omega))
    have h5:=q.n5
    have h4:atoms[i].2[0]'(by omega)∈order.filter fun v=>decide (v∈bj atoms[i].2):=by
     rw [List.mem_filter,decide_eq_true_eq,iC]
     exact ⟨og q h3.1 h3.2,by omega,List.getElem_mem _⟩
    have:=congrArg List.length h2
    rw [List.length_map] at this
    have h6:=List.length_pos_of_mem h4
    simp at this
    omega
   obtain ⟨l,h1,h2,h3⟩:=s3 hne
   have hk:=(sV q (p:=r.take l) (by rw [List.length_take];omega)).1 (h l (by omega)) i hi (by rw [List.length_take,Nat.min_eq_left (by omega),fv hi];exact h2)
   unfold atV at hk
   rw [fv hi,own _ (by omega)] at hk
   unfold ks at hk
   split at hk
   ·obtain ⟨t,ht,e1,e2⟩:=oC.1 hk
    have htl:=tA q ha ht
    have hown:=pJ q (a:=atoms[i]) hr
    rw [full] at hown
    have hlen:(fw atoms[i].2 order r n).length=t.length:=by
     obtain ⟨x,_,_,e5⟩:=ur.1 ht
     rw [oJ (nu q)] at e5
     rw [hown,e5,List.length_map,List.length_map]
    have:fw atoms[i].2 order r n=t:=by
     rw [h3] at hlen ⊢
     rw [List.length_append] at hlen
     refine List.ext_getElem (by rw [List.length_append];exact hlen) fun j j1 j2=>?_
     by_cases hj:j<(fw atoms[i].2 order r l).length
     ·rw [List.getElem_append_left hj]
      have:=List.getElem_of_eq e1.symm (i:=j) hj
      rw [this,List.getElem_take]
     ·have hj':j=(fw atoms[i].2 order r l).length:=by simp at j1;omega
      subst hj'
      rw [List.getElem_append_right (Nat.le_refl _)]
      simp only [Nat.sub_self,List.getElem_cons_zero]
      rw [aX (by omega)] at e2 ⊢
      exact e2
    rw [this];exact ht
   ·cases hk
  ·intro h l hl
   refine (sV q (by rw [List.length_take];omega)).2 fun i hi hv=>?_
   rw [List.length_take,Nat.min_eq_left (by omega),fv hi] at hv
   have ha:=List.getElem_mem hi
   have ht:=h _ ha
   rw [full] at ht
   have htl:=tA q ha ht
   unfold atV
   rw [fv hi,own _ (by omega)]
   obtain ⟨t,e⟩:=ue (vs:=atoms[i].2) (order:=order) (r:=r) (show l+1≤n by omega)
   rw [jf,decide_eq_true hv,cond_true,List.append_assoc] at e
   have hlt:(fw atoms[i].2 order r l).length<(fw atoms[i].2 order r n).length:=by rw [e];simp
   unfold ks
   rw [if_pos (by omega),oC]
   refine ⟨_,ht,by rw [e];simp,?_⟩
   rw [e,aX (xs:=_++_) (by simp),List.getElem_append_right (Nat.le_refl _)]
   simp only [Nat.sub_self,List.cons_append,List.nil_append,List.getElem_cons_zero]
   rw [aX (by omega)]
 rw [qn]
 constructor
 ·rintro ⟨s,e,hs,hl⟩
  rw [List.nil_append] at e
  subst e
  refine ⟨hs,fun a ha=>(uG q ha hs).1 ((step hs).1 (fun l h=>?_) a ha)⟩
  have:=hl l h
  rwa [List.nil_append] at this
 ·rintro ⟨hr,hb⟩
  refine ⟨r,rfl,hr,fun l h=>?_⟩
  rw [List.nil_append]
  exact (step hr).2 (fun a ha=>(uG q ha hr).2 (hb a ha)) l h
end
section
variable {ts:List bc} {n:Int} {atoms:List bb} {out order:List Int}
theorem zU (h:(eZ ts n atoms out order).2.2=true):∃ m:Nat,n=(m:Int)∧QFor ts m atoms order∧okQ ts n atoms out order=true∧(eZ ts n atoms out order).1=(n,(bF (bE ts order atoms) m []).1)∧(bF (bE ts order atoms) m []).1.length≤4000:=by
 unfold eZ at h ⊢
 cases ho:okQ ts n atoms out order with
 | false=>rw [ho] at h;cases h
 | true =>
  obtain ⟨m,rfl,q,_⟩:=v9 ho
  rw [ho,cond_true] at h
  rw [cond_true]
  refine ⟨m,rfl,q,rfl,?_⟩
  cases he:jL (cp ts order atoms) with
  | true =>
   rw [rT q,wE q he]
   exact ⟨rfl,Nat.zero_le _⟩
  | false =>
   rw [he,cond_false] at h
   rw [cond_false]
   unfold jh at h ⊢
   cases hk:decide (((bF (bE ts order atoms) (m:Int).toNat []).1.length:Int)≤4000) with
   | false=>rw [hk] at h;cases h
   | true =>
    rw [decide_eq_true_eq] at hk
    exact ⟨rfl,by have:((bF (bE ts order atoms) m []).1.length:Int)≤4000:=hk;omega⟩
end
def lx (v:Int):aG:=([v],[0])
def pot (D:List Int) (ns:List aG):Nat:=2*ns.length+2*(D.filter fun v=>decide (lx v∉ns.drop 1)).length
theorem n8 {α:Type} {p q:α→Bool}:∀ {l:List α},(∀ a∈l,p a=true→q a=true)→(l.filter p).length≤(l.filter q).length
 | [],_=>Nat.le_refl _
 | a :: l,h=>by
  have h1:=n8 (l:=l) fun b hb=>h b (List.mem_cons_of_mem _ hb)
  rw [List.filter_cons,List.filter_cons]
  cases hp:p a with
  | false =>
   rw [if_neg (by decide)]
   split
   ·rw [List.length_cons];omega
   ·exact h1
  | true =>
   rw [h a List.mem_cons_self hp,if_pos rfl,if_pos rfl,List.length_cons,List.length_cons];omega
theorem sE {α:Type} {p q:α→Bool} {v:α} (hp:p v=false) (hq:q v=true):∀ {l:List α},(∀ a∈l,p a=true→q a=true)→v∈l→(l.filter p).length+1≤(l.filter q).length
 | [],_,hv=>by cases hv
 | a :: l,h,hv=>by
  have h1:=n8 (p:=p) (q:=q) (l:=l) fun b hb=>h b (List.mem_cons_of_mem _ hb)
  rw [List.filter_cons,List.filter_cons]
  rcases List.mem_cons.1 hv with rfl | hv
  ·rw [hp,hq,if_neg (by decide),if_pos rfl,List.length_cons];omega
  ·have h2:=sE hp hq (l:=l) (fun b hb=>h b (List.mem_cons_of_mem _ hb)) hv
   cases hpa:p a with
   | false =>
    rw [if_neg (by decide)]
    split
    ·rw [List.length_cons];omega
    ·exact h2
   | true =>
    rw [h a List.mem_cons_self hpa,if_pos rfl,if_pos rfl,List.length_cons,List.length_cons];omega
theorem sQ {ns:List aG} {x:aG}:∀ f i,nQ ns x f i=none→∀ j,i≤j→j<i+f→ns.getD j ([],[])≠x
 | 0,i,_,j,h1,h2=>by omega
 | f+1,i,h,j,h1,h2=>by
  unfold nQ at h
  split at h
  ·cases h
  ·rename_i hne
   by_cases e:j=i
   ·rw [e];exact hne
   ·exact sQ f (i+1) h j (by omega) (by omega)
theorem tU {ns:List aG} {x:aG} (h:1≤ns.length):(ns++[x]).drop 1=ns.drop 1++[x]:=by
 cases ns with
 | nil=>simp at h
 | cons a l=>rfl
theorem rZ {D:List Int} {ns:List aG} {x:aG} (h:1≤ns.length):pot D (jD ns x).2≤pot D ns+2∧1≤(jD ns x).2.length:=by
 unfold jD
 split
 ·exact ⟨Nat.le_add_right _ _,h⟩
 ·show pot D (ns++[x])≤_∧1≤(ns++[x]).length
  refine ⟨?_,by simp⟩
  unfold pot
  rw [tU h,List.length_append,List.length_singleton]
  have:=n8 (p:=fun v=>decide (lx v∉ns.drop 1++[x])) (q:=fun v=>decide (lx v∉ns.drop 1)) (l:=D) fun a _ h1=>by
   rw [decide_eq_true_eq] at h1 ⊢
   exact fun h2=>h1 (List.mem_append_left _ h2)
  omega
theorem zF {D:List Int} {ns:List aG} {v:Int} (h:1≤ns.length) (hv:v∈D):pot D (jD ns (lx v)).2≤pot D ns:=by
 unfold jD
 split
 ·exact Nat.le_refl _
 ·rename_i hf
  have hn:=sQ _ _ hf
  show pot D (ns++[lx v])≤_
  unfold pot
  rw [tU h,List.length_append,List.length_singleton]
  have:=sE (v:=v) (p:=fun w=>decide (lx w∉ns.drop 1++[lx v])) (q:=fun w=>decide (lx w∉ns.drop 1)) (l:=D) (decide_eq_false (by simp)) (by
   rw [decide_eq_true_eq]
   intro hm
   obtain ⟨j,hj,e⟩:=List.getElem_of_mem hm
   rw [List.getElem_drop] at e
   rw [List.length_drop] at hj
   refine hn (1+j) (by omega) (by omega) ?_
   rw [List.getD_eq_getElem?_getD,List.getElem?_eq_getElem (by omega),Option.getD_some]
   exact e) (fun a _ h1=>by
   rw [decide_eq_true_eq] at h1 ⊢
   exact fun h2=>h1 (List.mem_append_left _ h2)) hv
  omega
theorem oS {rec:List aG→List (List Int)→Int × List aG} {n d:Nat} (hdn:d<n) {rows:List (List Int)} {pre:List Int} (ha:d8 rows) (hrow:∀ r∈rows,r.length=n∧r.take d=pre) {C:List Int} (hC:∀ r∈rows,r.getD d 0∈C) :
  ∀ f ns vals chs i,fq vals→(∀ v∈vals,v∈C)→(∀ v∈vals,∀ j,i≤j→j<rows.length→v<(rows.getD j []).getD d 0) →
   fq (cw rec rows d f ns vals chs i).2.1∧∀ v∈(cw rec rows d f ns vals chs i).2.1,v∈C
 | 0,ns,vals,chs,i,hv,hc,hb=>by unfold cw;exact ⟨hv,hc⟩
 | f+1,ns,vals,chs,i,hv,hc,hb=>by
  unfold cw
  split
  ·rename_i hlt
   have hgb:=lR (d:=d) hlt
   refine oS hdn ha hrow hC f _ _ _ _ ?_ (fun v hv'=>?_) (fun v hv' j h1 h2=>?_)
   ·refine List.pairwise_append.2 ⟨hv,List.pairwise_singleton _ _,fun a h1 b h2=>?_⟩
    rw [List.mem_singleton] at h2;subst h2
    exact hb a h1 i (Nat.le_refl _) hlt
   ·rcases List.mem_append.1 hv' with h | h
    ·exact hc v h
    ·rw [List.mem_singleton] at h;subst h
     rw [y2 hlt]
     exact hC _ (List.getElem_mem hlt)
   ·rcases List.mem_append.1 hv' with h | h
    ·exact hb v h j (by omega) h2
    ·rw [List.mem_singleton] at h;subst h
     have hs:=sF (rows:=rows) (d:=d) (v:=(rows.getD i []).getD d 0) (rows.length-i) i (by show gz rows d i<_;omega)
     have hs:(rows.getD (gz rows d i) []).getD d 0≠(rows.getD i []).getD d 0:=hs
     have l1:=vN hdn ha hrow (show i≤gz rows d i by omega) (by omega)
     have l2:=vN hdn ha hrow h1 h2
     omega
  ·exact ⟨hv,hc⟩
theorem oQ:∀ {l D:List Int},l.Nodup→(∀ v∈l,v∈D)→l.length≤D.length
 | [],_,_,_=>Nat.zero_le _
 | v :: l,D,hn,hs=>by
  obtain ⟨h1,h2⟩:=List.nodup_cons.1 hn
  have hv:=hs v List.mem_cons_self
  have:=oQ (l:=l) (D:=D.erase v) h2 fun w hw=>by
   have hne:w≠v:=fun e=>h1 (by rw [← e];exact hw)
   exact (List.mem_erase_of_ne hne).2 (hs w (List.mem_cons_of_mem _ hw))
  rw [List.length_erase_of_mem hv] at this
  have hp:0<D.length:=List.length_pos_of_mem hv
  rw [List.length_cons];omega
theorem oN {D:List Int} {rec:List aG→List (List Int)→Int × List aG} {n d t:Nat} (hdn:d<n) {rows:List (List Int)} {pre:List Int}
  (hr:∀ ns rs pre,1≤ns.length→rs≠[]→rs.Sublist rows→(∀ r∈rs,r.length=n∧r.take (d+1)=pre)→pot D (rec ns rs).2≤pot D ns+rs.length+2*t∧1≤(rec ns rs).2.length)
  (hrow:∀ r∈rows,r.length=n∧r.take d=pre):∀ f ns vals chs i,1≤ns.length→i≤rows.length →
  pot D (cw rec rows d f ns vals chs i).1+2*t*vals.length≤pot D ns+(rows.length-i)+2*t*(cw rec rows d f ns vals chs i).2.1.length∧1≤(cw rec rows d f ns vals chs i).1.length
 | 0,ns,vals,chs,i,h1,hi=>by
  unfold cw
  refine ⟨?_,h1⟩
  show pot D ns+2*t*vals.length≤pot D ns+(rows.length-i)+2*t*vals.length
  omega
 | f+1,ns,vals,chs,i,h1,hi=>by
  unfold cw
  split
  ·rename_i hlt
   obtain ⟨g1,g2⟩:=lR (d:=d) hlt
   obtain ⟨q1,q2⟩:=hr ns _ _ h1 (yc (d:=d) hlt) vq (vG hdn hlt hrow)
   rw [rO g2] at q1
   obtain ⟨p1,p2⟩:=oN hdn hr hrow f (rec ns ((rows.take (gz rows d i)).drop i)).2 (vals++[(rows.getD i []).getD d 0]) (chs++[(rec ns ((rows.take (gz rows d i)).drop i)).1]) (gz rows d i) q2 g2
   refine ⟨?_,p2⟩
   rw [List.length_append,List.length_singleton,Nat.mul_add,Nat.mul_one] at p1
   omega
  ·refine ⟨?_,h1⟩
   show pot D ns+2*t*vals.length≤pot D ns+(rows.length-i)+2*t*vals.length
   omega
def tN:Nat→Nat
 | 0=>0
 | 1=>0
 | e+2=>10*tN (e+1)+1
theorem rq {D:List Int} {n:Nat} {C:Nat→List Int} (hC:∀ j,(C j).length≤10) (hD:C (n-1)=D):∀ (e d:Nat),d+(e+1)=n→∀ ns rs pre,1≤ns.length→rs≠[]→d8 rs→(∀ r∈rs,r.length=n∧r.take d=pre)→(∀ r∈rs,∀ j,j<n→r.getD j 0∈C j) →
  pot D (b7 (e+1) ns rs d).2≤pot D ns+rs.length+2*tN (e+1)∧1≤(b7 (e+1) ns rs d).2.length
 | 0,d,hd,ns,rs,pre,h1,hne,ha,hrow,hc=>by
  obtain ⟨p1,p2⟩:=oN (D:=D) (rec:=fun ns rs=>b7 0 ns rs (d+1)) (n:=n) (d:=d) (t:=0) (by omega) (rows:=rs) (pre:=pre) (fun ns rs pre h _ _ _=>⟨by show pot D ns≤_;omega,h⟩) hrow rs.length ns [] [] 0 h1 (by omega)
  have hloop:∀ f vals chs i,(cw (fun ns rs=>b7 0 ns rs (d+1)) rs d f ns vals chs i).1=ns:=by
   intro f
   induction f with
   | zero=>intro vals chs i;rfl
   | succ f ih =>
    intro vals chs i
    unfold cw
    split
    ·exact ih _ _ _
    ·rfl
  unfold b7
  by_cases hl:rs.length=1
  ·obtain ⟨r,rfl⟩:∃ r,rs=[r]:=List.length_eq_one_iff.1 hl
   have e1:cw (fun ns rs=>b7 0 ns rs (d+1)) [r] d [r].length ns [] [] 0=(ns,lx (r.getD d 0)):=by
    show cw (fun ns rs=>b7 0 ns rs (d+1)) [r] d 1 ns [] [] 0=_
    simp [cw,lx,b7]
   rw [e1]
   have hv:r.getD d 0∈D:=by
    have:=hc r List.mem_cons_self d (by omega)
    rw [← hD]
    rw [show n-1=d by omega];exact this
   have h3:=zF h1 hv
   have h4:=(rZ (D:=D) (x:=lx (r.getD d 0)) h1).2
   exact ⟨Nat.le_trans h3 (by omega),h4⟩
  ·have h2:2≤rs.length:=by
    have:rs.length≠0:=fun h=>hne (List.length_eq_zero_iff.1 h)
    omega
   obtain ⟨q1,q2⟩:=rZ (D:=D) (ns:=(cw (fun ns rs=>b7 0 ns rs (d+1)) rs d rs.length ns [] [] 0).1) (x:=(cw (fun ns rs=>b7 0 ns rs (d+1)) rs d rs.length ns [] [] 0).2) p2
   rw [hloop] at q1
   rw [hloop]
   rw [hloop] at q2
   exact ⟨Nat.le_trans q1 (by omega),q2⟩
 | e+1,d,hd,ns,rs,pre,h1,hne,ha,hrow,hc=>by
  obtain ⟨p1,p2⟩:=oN (D:=D) (rec:=fun ns rs=>b7 (e+1) ns rs (d+1)) (n:=n) (d:=d) (t:=tN (e+1)) (by omega) (rows:=rs) (pre:=pre) (fun ns' rs' pre' k1 k2 k3 k4 =>
   rq hC hD e (d+1) (by omega) ns' rs' pre' k1 k2 (List.Pairwise.sublist k3 ha) k4 (fun r hr j hj=>hc r (k3.subset hr) j hj)) hrow rs.length ns [] [] 0 h1 (by omega)
  obtain ⟨a1,a2⟩:=oS (rec:=fun ns rs=>b7 (e+1) ns rs (d+1)) (n:=n) (d:=d) (by omega) ha hrow (C:=C d) (fun r hr=>hc r hr d (by omega)) rs.length ns [] [] 0 List.Pairwise.nil (by simp) (by simp)
  have a3:=oQ (rG a1) a2
  have a4:=hC d
  have a5:=Nat.mul_le_mul_left (2*tN (e+1)) (Nat.le_trans a3 a4)
  show pot D (b7 (e+2) ns rs d).2≤pot D ns+rs.length+2*(10*tN (e+1)+1)∧_
  unfold b7
  obtain ⟨q1,q2⟩:=rZ (D:=D) (ns:=(cw (fun ns rs=>b7 (e+1) ns rs (d+1)) rs d rs.length ns [] [] 0).1) (x:=(cw (fun ns rs=>b7 (e+1) ns rs (d+1)) rs d rs.length ns [] [] 0).2) p2
  refine ⟨?_,q2⟩
  rw [List.length_nil,Nat.mul_zero] at p1
  omega
theorem B3:∀ {n:Nat},n≤5→tN n≤1111
 | 0,_=>by decide
 | 1,_=>by decide
 | 2,_=>by decide
 | 3,_=>by decide
 | 4,_=>by decide
 | 5,_=>by decide
 | n+6,h=>by omega
theorem wc {n:Nat} {rows:List (List Int)} (h1:1≤n) (hn5:n≤5) (hl:rows.length≤4000) (ha:d8 rows) (hrow:∀ r∈rows,r.length=n) {C:Nat→List Int} (hC:∀ j,(C j).length≤10) (hc:∀ r∈rows,∀ j,j<n→r.getD j 0∈C j):(jT n rows).length≤4000:=by
 unfold jT
 by_cases h:rows=[]
 ·rw [if_pos h];show 2≤4000;omega
 ·rw [if_neg h]
  obtain ⟨e,rfl⟩:∃ e,n=e+1:=⟨n-1,by omega⟩
  have hp:=(rq (D:=C (e+1-1)) (n:=e+1) hC rfl e 0 (by omega) zN rows [] (by decide) h ha (fun r hr=>⟨hrow r hr,rfl⟩) hc).1
  have ht:=B3 hn5
  have h0:pot (C (e+1-1)) zN≤22:=by
   unfold pot
   have:=List.length_filter_le (fun v=>decide (lx v∉zN.drop 1)) (C (e+1-1))
   have:=hC (e+1-1)
   have:zN.length=1:=rfl
   omega
  have h3:2*(b7 (e+1) zN rows 0).2.length≤pot (C (e+1-1)) (b7 (e+1) zN rows 0).2:=by unfold pot;omega
  show (b7 (e+1) zN rows 0).2.length≤4000
  omega
theorem yp {ts:List bc} (h:DSm ts) (s:ByteArray):(ci ts s).1.2.length≤10:=by
 unfold ci
 cases ma ts with
 | false=>exact Nat.zero_le _
 | true =>
  rw [cond_true]
  cases hf:ts.find? (fun t=>decide (t.1=s)) with
  | none=>exact Nat.zero_le _
  | some t=>exact (h.2 t (List.mem_of_find?_eq_some hf)).2.1
theorem sW {ts:List bc} {n:Nat} {atoms:List bb} {order:List Int} (hd:DSm ts) (q:QFor ts n atoms order):∃ C:Nat→List Int,(∀ j,(C j).length≤10)∧∀ r∈(bF (bE ts order atoms) n []).1,∀ j,j<n→r.getD j 0∈C j:=by
 have key:∀ j:Nat,∃ L:List Int,L.length≤10∧(j<n→∀ r∈(bF (bE ts order atoms) n []).1,r.getD j 0∈L):=fun j=>by
  by_cases hj:j<n
  ·have hjo:j<order.length:=by rw [q.ol];exact hj
   have hv:=(go q.os).2 _ (List.getElem_mem hjo)
   obtain ⟨a,ha,hm⟩:=q.cov order[j] (by omega) (by omega)
   refine ⟨(oX ts a).map fun x=>x.getD (ck a.2 order[j]).toNat 0,by rw [List.length_map];exact yp hd a.1,fun _ r hr=>?_⟩
   obtain ⟨h1,h2⟩:=(xW q).1 hr
   refine List.mem_map.2 ⟨_,h2 a ha,?_⟩
   obtain ⟨i,e1,hi,e2⟩:=lu hm
   rw [e1,Int.toNat_natCast,wt hi,e2]
   unfold lF
   rw [qw (nu q) hjo,Int.toNat_natCast]
  ·exact ⟨[],Nat.zero_le _,fun h=>absurd h hj⟩
 obtain ⟨C,hC⟩:=Classical.axiomOfChoice key
 exact ⟨C,fun j=>(hC j).1,fun r hr j hj=>(hC j).2 hj r hr⟩
theorem x6 {ts:List bc} {n:Nat} {atoms:List bb} {order:List Int} (hd:DSm ts) (q:QFor ts n atoms order) (hl:(bF (bE ts order atoms) n []).1.length≤4000):(jT n (bF (bE ts order atoms) n []).1).length≤4000:=by
 obtain ⟨C,h1,h2⟩:=sW hd q
 obtain ⟨_,w2,w3⟩:=lw (jZ q) q.n5
 exact wc q.n1 q.n5 hl w3 (fun r hr=>(w2 r hr).1) h1 h2
def zj (k:Int):List Int→List Int→Int
 | v :: os,x :: xs=>Cb k (vW k v x) (zj k os xs)
 | _,_=>B9 k
def BL (k:Int) (os:List Int) (rows:List (List Int)):Int:=rows.foldl (fun s r=>Ca k s (zj k os r)) (BS k)
theorem px {ns:List aG} (hw:WFn ns):∀ (f f':Nat) (nd:Int) (pre:List Int),nd<(f:Int)→nd<(f':Int)→0≤nd→nd<(ns.length:Int)→gC ns f nd pre=gC ns f' nd pre
 | 0,_,_,_,h,_,h0,_=>by omega
 | f+1,0,_,_,_,h,h0,_=>by omega
 | f+1,f'+1,nd,pre,h,h',h0,h1=>by
  obtain ⟨k,rfl⟩:=Int.eq_ofNat_of_zero_le h0
  rw [gC,gC]
  by_cases hz:(k:Int)=0
  ·rw [if_pos hz,if_pos hz]
  ·have hk:k<ns.length:=by omega
   rw [if_neg hz,if_neg hz,Int.toNat_natCast]
   refine lH _ fun j hj=>?_
   have hc:0≤(ns.getD k ([],[])).2.getD j 0∧(ns.getD k ([],[])).2.getD j 0<(k:Int):=by
    by_cases hj:j<(ns.getD k ([],[])).2.length
    ·rw [List.getD_eq_getElem?_getD,List.getElem?_eq_getElem hj,Option.getD_some]
     exact hw.2 k hk _ (List.getElem_mem hj)
    ·rw [List.getD_eq_getElem?_getD,List.getElem?_eq_none (by omega),Option.getD_none]
     omega
   exact px hw f f' _ _ (by omega) (by omega) hc.1 (by omega)
def cD (ns:List aG) (nd:Int):List (List Int):=gC ns ns.length nd []
theorem xh {ns:List aG} (hw:WFn ns) {i:Nat} (h1:1≤i) (hi:i<ns.length) (hl:(ns.getD i ([],[])).1.length=(ns.getD i ([],[])).2.length) :
  cD ns (i:Int)=fb (fun j=>(cD ns ((ns.getD i ([],[])).2.getD j 0)).map ((ns.getD i ([],[])).1.getD j 0 :: ·)) (ns.getD i ([],[])).1.length:=by
 obtain ⟨g,hg⟩:∃ g,ns.length=g+1:=⟨ns.length-1,by omega⟩
 unfold cD
 conv=>lhs;rw [hg,gC,if_neg (by omega),Int.toNat_natCast]
 refine lH _ fun j hj=>?_
 have hj2:j<(ns.getD i ([],[])).2.length:=by omega
 have hc:0≤(ns.getD i ([],[])).2.getD j 0∧(ns.getD i ([],[])).2.getD j 0<(i:Int):=by
  rw [List.getD_eq_getElem?_getD,List.getElem?_eq_getElem hj2,Option.getD_some]
  exact hw.2 i hi _ (List.getElem_mem hj2)
 have h2:=qN ns g ((ns.getD i ([],[])).2.getD j 0) ([]++[(ns.getD i ([],[])).1.getD j 0]) []
 rw [List.append_nil] at h2
 rw [h2,px hw g ns.length _ [] (by omega) (by omega) hc.1 (by omega)];rfl
theorem kl {ns:List aG} (hw:WFn ns):cD ns 0=[[]]:=by
 obtain ⟨g,hg⟩:∃ g,ns.length=g+1:=⟨ns.length-1,by have:=hw.1;omega⟩
 unfold cD
 rw [hg,gC,if_pos rfl]
def BH (k:Int) (order:List Int) (ns:List aG) (nd:Int):Int:=BL k (order.drop (order.length-(dep ns nd).toNat)) (cD ns nd)
structure FOk (n:Nat) (rows:List (List Int)) (ns:List aG):Prop where
 wf:WFn ns
 all:B6 ns
 le:∀ i,i<ns.length→dep ns (i:Int)≤(n:Int)
 root:dep ns ((ns.length:Int)-1)=(n:Int)
 rows:cD ns ((ns.length:Int)-1)=rows
 z:ns.getD 0 ([],[])=([],[])
theorem FOk.agg {k:Int} {order:List Int} {n:Nat} {rows:List (List Int)} {ns:List aG} (h:FOk n rows ns) (ho:order.length=n):BH k order ns ((ns.length:Int)-1)=BL k order rows:=by
 unfold BH
 rw [h.root,h.rows,ho,Int.toNat_natCast,Nat.sub_self,List.drop_zero]
section
variable {olen:Nat} {ns:List aG} {far:List Int}
theorem VF.wf (V:VF olen ns far):WFn ns:=⟨V.pos,fun i hi c hc=>by
 obtain ⟨j,hj,rfl⟩:=List.getElem_of_mem hc
 have:=V.ch hi hj
 rw [List.getD_eq_getElem?_getD,List.getElem?_eq_getElem hj,Option.getD_some] at this
 exact ⟨this.1,this.2⟩⟩
def blk (ns:List aG) (i j:Nat):List (List Int):=(cD ns ((ns.getD i ([],[])).2.getD j 0)).map ((ns.getD i ([],[])).1.getD j 0 :: ·)
theorem VF.rows (V:VF olen ns far) {i:Nat} (h1:1≤i) (hi:i<ns.length):cD ns (i:Int)=fb (blk ns i) (ns.getD i ([],[])).1.length:=xh V.wf h1 hi (V.lens hi)
theorem vO {F:Nat→List (List Int)} {j:Nat}:∀ n,j<n→(F j).length≤(fb F n).length
 | 0,h=>by omega
 | n+1,h=>by
  rw [fb,List.length_append]
  by_cases e:j=n
  ·subst e;omega
  ·have:=vO (F:=F) n (show j<n by omega);omega
def je (F:Nat→List (List Int)):Nat→Nat→List (List Int)
 | _,0=>[]
 | j,n+1=>F j++je F (j+1) n
theorem pE (F:Nat→List (List Int)):∀ n j,je F j (n+1)=je F j n++F (j+n)
 | 0,j=>by simp [je]
 | n+1,j=>by rw [je,pE F n (j+1),je,List.append_assoc,show j+1+n=j+(n+1) by omega]
theorem sT (F:Nat→List (List Int)):∀ n,fb F n=je F 0 n
 | 0=>rfl
 | n+1=>by rw [fb,sT F n,pE,Nat.zero_add]
theorem xL (V:VF olen ns far) {i:Nat} (hi:i<ns.length) (h:(cD ns (i:Int)).length<1000000000):(b8 ns ns.length).getD i 0=((cD ns (i:Int)).length:Int):=by
 have:=AT V ns.length (i:Int) [] ⟨by omega,by omega⟩ (by omega)
 unfold wN at this
 rw [Int.toNat_natCast] at this
 rw [this]
 unfold cD at h ⊢
 unfold imn
 split <;> omega
theorem pf (i j:Nat):(blk ns i j).length=(cD ns ((ns.getD i ([],[])).2.getD j 0)).length:=List.length_map _
theorem VF.child (V:VF olen ns far) {i:Nat} (h1:1≤i) (hi:i<ns.length) (h:(cD ns (i:Int)).length<1000000000) {j:Nat} (hj:j<(ns.getD i ([],[])).1.length) :
  ∃ c:Nat,(ns.getD i ([],[])).2.getD j 0=(c:Int)∧c<i∧(cD ns (c:Int)).length<1000000000∧(b8 ns ns.length).getD c 0=((cD ns (c:Int)).length:Int)∧far.getD c 0+1=far.getD i 0:=by
 have hl:=V.lens hi
 obtain ⟨c0,c1⟩:=V.ch hi (j:=j) (by omega)
 obtain ⟨c,hc⟩:=Int.eq_ofNat_of_zero_le c0
 have h2:=vO (F:=blk ns i) _ hj
 rw [← V.rows h1 hi,pf,hc] at h2
 refine ⟨c,hc,by omega,by omega,xL V (by omega) (by omega),?_⟩
 rcases (V.node h1 hi).2.2 with ⟨e,_⟩ | ⟨_,e⟩
 ·rw [e] at hj;simp at hj
 ·have:=(e j (by omega)).2.2
  rw [hc,Int.toNat_natCast] at this
  exact this
theorem wL {a b:List (List Int)} {k:Nat} (h:k<a.length):(a++b).getD k []=a.getD k []:=by
 rw [List.getD_eq_getElem?_getD,List.getD_eq_getElem?_getD,List.getElem?_append_left h]
theorem uW {a b:List (List Int)} {k:Nat} (h:a.length≤k):(a++b).getD k []=b.getD (k-a.length) []:=by
 rw [List.getD_eq_getElem?_getD,List.getD_eq_getElem?_getD,List.getElem?_append_right h]
theorem uo {c:List Int} {F:Nat→List (List Int)}:∀ (l:List Int) (k:Int) (j:Nat),0≤k→(∀ i,i<l.length→((F (j+i)).length:Int)=c.getD (l.getD i 0).toNat 0)→k<((je F j l.length).length:Int) →
  0≤(dp c l k j).1∧(dp c l k j).1<((F (dp c l k j).2).length:Int)∧j≤(dp c l k j).2∧(dp c l k j).2<j+l.length∧(je F j l.length).getD k.toNat []=(F (dp c l k j).2).getD (dp c l k j).1.toNat []
 | [],k,j,h0,_,h=>by simp [je] at h;omega
 | x :: l,k,j,h0,hl,h=>by
  have hx:=hl 0 (by simp)
  rw [Nat.add_zero,List.getD_cons_zero] at hx
  rw [List.length_cons,je] at h ⊢
  rw [List.length_append] at h
  unfold dp
  by_cases e:c.getD x.toNat 0≤k
  ·rw [if_pos e]
   obtain ⟨g1,g2,g3,g4,g5⟩:=uo (c:=c) (F:=F) l (k-c.getD x.toNat 0) (j+1) (by omega) (fun i hi=>by
    have:=hl (i+1) (by simpa using hi)
    rw [List.getD_cons_succ] at this
    rw [show j+1+i=j+(i+1) by omega];exact this) (by omega)
   refine ⟨g1,g2,by omega,by omega,?_⟩
   rw [uW (by omega),show k.toNat-(F j).length=(k-c.getD x.toNat 0).toNat by omega]
   exact g5
  ·rw [if_neg e]
   refine ⟨h0,by dsimp only;omega,Nat.le_refl _,by dsimp only;omega,?_⟩
   dsimp only
   rw [wL (by omega)]
theorem tb {v:Int} {rows:List (List Int)} {k:Nat} (h:k<rows.length):(rows.map (v :: ·)).getD k []=v :: rows.getD k []:=by
 rw [List.getD_eq_getElem?_getD,List.getElem?_eq_getElem (by simpa using h),Option.getD_some,List.getElem_map,List.getD_eq_getElem?_getD,List.getElem?_eq_getElem h,Option.getD_some]
theorem tY (V:VF olen ns far):∀ (f i:Nat) (k:Int) (row:List Int),i<f→i<ns.length→(cD ns (i:Int)).length<1000000000→0≤k→k<((cD ns (i:Int)).length:Int) →
  kB ns (b8 ns ns.length) f k row i=row++(cD ns (i:Int)).getD k.toNat []
 | 0,i,_,_,h,_,_,_,_=>by omega
 | f+1,i,k,row,h,hi,hb,k0,k1=>by
  unfold kB
  by_cases hz:0<i
  ·rw [if_pos hz]
   have hl:=V.lens hi
   have hr:=V.rows hz hi
   rw [sT,hl] at hr
   rw [hr] at k1
   obtain ⟨g1,g2,_,g4,g5⟩:=uo (c:=b8 ns ns.length) (F:=blk ns i) (ns.getD i ([],[])).2 k 0 k0 (fun j hj=>by
    obtain ⟨c,e1,_,_,e4,_⟩:=V.child hz hi hb (j:=j) (by omega)
    rw [Nat.zero_add,pf,e1,Int.toNat_natCast,e4]) k1
   generalize dp (b8 ns ns.length) (ns.getD i ([],[])).2 k 0=t at g1 g2 g4 g5 ⊢
   obtain ⟨c,e1,e2,e3,e4,_⟩:=V.child hz hi hb (j:=t.2) (by omega)
   rw [pf,e1] at g2
   rw [e1,Int.toNat_natCast,tY V f c t.1 _ (by omega) (by omega) e3 g1 g2,hr,g5]
   unfold blk
   rw [e1,tb (by omega),List.append_assoc];rfl
  ·rw [if_neg hz]
   obtain rfl:i=0:=by omega
   rw [show ((0:Nat):Int)=0 from rfl,kl V.wf] at k1 ⊢
   have:k=0:=by simp at k1;omega
   subst this
   exact (List.append_nil row).symm

def iK (vs:List Int) (rows:List (List Int)):Nat:=(rows.filter fun r=>decide (bl r vs<0)).length
theorem yT (vs:List Int) (a b:List (List Int)):iK vs (a++b)=iK vs a+iK vs b:=by unfold iK;rw [List.filter_append,List.length_append]
theorem y7 (rows:List (List Int)):iK [] rows=0:=by
 unfold iK
 rw [List.length_eq_zero_iff,List.filter_eq_nil_iff]
 intro r _
 rw [decide_eq_true_eq,pP]
 split <;> omega
theorem tM (a v:Int) (vs:List Int):∀ rows:List (List Int),iK (v :: vs) (rows.map (a :: ·))=if a<v then rows.length else if a=v then iK vs rows else 0
 | []=>by split <;> (try split) <;> rfl
 | r :: rows=>by
  have ih:=tM a v vs rows
  unfold iK at ih ⊢
  rw [List.map_cons,List.filter_cons]
  by_cases h1:a<v
  ·have e:bl (a :: r) (v :: vs)=-1:=by rw [bl,if_pos h1]
   rw [if_pos h1] at ih ⊢
   rw [e,show decide ((-1:Int)<0)=true from rfl,if_pos rfl,List.length_cons,ih,List.length_cons]
  ·rw [if_neg h1] at ih ⊢
   by_cases h2:a=v
   ·have e:bl (a :: r) (v :: vs)=bl r vs:=by rw [bl,if_neg h1,if_neg (show ¬ v<a by omega)]
    rw [if_pos h2] at ih ⊢
    rw [e,List.filter_cons]
    cases h3:decide (bl r vs<0) with
    | true=>rw [if_pos rfl,if_pos rfl,List.length_cons,List.length_cons,ih]
    | false=>rw [if_neg (by decide),if_neg (by decide),ih]
   ·have e:bl (a :: r) (v :: vs)=1:=by rw [bl,if_neg h1,if_pos (show v<a by omega)]
    rw [if_neg h2] at ih ⊢
    rw [e,show decide ((1:Int)<0)=false from rfl,if_neg (by decide),ih]
theorem ua {a v:Int} {vs:List Int} {rows:List (List Int)}:v :: vs∈rows.map (a :: ·)↔a=v∧vs∈rows:=by
 rw [List.mem_map]
 constructor
 ·rintro ⟨r,hr,e⟩
  obtain ⟨e1,e2⟩:=List.cons.inj e
  exact ⟨e1,e2 ▸ hr⟩
 ·rintro ⟨e,h⟩
  exact ⟨vs,h,by rw [e]⟩
theorem xj (c:List Int) (x:aG) (v:Int) (n:Nat) (t:Int × Int):dm c x v 0 (n+1) t=dD c x v (dm c x v 0 n t) n:=by
 unfold dm
 rw [List.range'_concat,List.foldl_append,List.foldl_cons,List.foldl_nil,show 0+1*n=n by omega]
theorem t9 (V:VF olen ns far) {i:Nat} (h1:1≤i) (hi:i<ns.length) (hb:(cD ns (i:Int)).length<1000000000) {v:Int} {vs:List Int}:∀ n,n≤(ns.getD i ([],[])).1.length →
  ((dm (b8 ns ns.length) (ns.getD i ([],[])) v 0 n (0,-1)).2=-1∧(∀ j,j<n→(ns.getD i ([],[])).1.getD j 0≠v)∧(iK (v :: vs) (fb (blk ns i) n):Int)=(dm (b8 ns ns.length) (ns.getD i ([],[])) v 0 n (0,-1)).1∧v :: vs∉fb (blk ns i) n) ∨
  (∃ j,j<n∧(ns.getD i ([],[])).1.getD j 0=v∧(dm (b8 ns ns.length) (ns.getD i ([],[])) v 0 n (0,-1)).2=(ns.getD i ([],[])).2.getD j 0 ∧
   (iK (v :: vs) (fb (blk ns i) n):Int)=(dm (b8 ns ns.length) (ns.getD i ([],[])) v 0 n (0,-1)).1+iK vs (cD ns ((ns.getD i ([],[])).2.getD j 0))∧(v :: vs∈fb (blk ns i) n↔vs∈cD ns ((ns.getD i ([],[])).2.getD j 0)))
 | 0,_=>.inl ⟨rfl,fun j h=>by omega,rfl,by simp [fb]⟩
 | n+1,hn=>by
  obtain ⟨c,e1,e2,e3,e4,_⟩:=V.child h1 hi hb (j:=n) (by omega)
  have ha:=qW _ (V.asc hi)
  rw [xj,fb,yT,List.mem_append]
  have hcm:=tM ((ns.getD i ([],[])).1.getD n 0) v vs (cD ns ((ns.getD i ([],[])).2.getD n 0))
  have hmm:=ua (a:=(ns.getD i ([],[])).1.getD n 0) (v:=v) (vs:=vs) (rows:=cD ns ((ns.getD i ([],[])).2.getD n 0))
  have hbe:blk ns i n=(cD ns ((ns.getD i ([],[])).2.getD n 0)).map ((ns.getD i ([],[])).1.getD n 0 :: ·):=rfl
  rw [← hbe] at hcm hmm
  rcases t9 V h1 hi hb (v:=v) (vs:=vs) n (by omega) with ⟨q1,q2,q3,q4⟩ | ⟨j,hj,q1,q2,q3,q4⟩
  ·generalize dm (b8 ns ns.length) (ns.getD i ([],[])) v 0 n (0,-1)=t at q1 q3 ⊢
   unfold dD
   dsimp only
   by_cases a1:(ns.getD i ([],[])).1.getD n 0<v
   ·left
    rw [if_pos a1] at hcm
    rw [if_pos a1,if_neg (by omega),e1,Int.toNat_natCast,e4]
    rw [e1] at hcm
    refine ⟨q1,fun j hj=>?_,by omega,fun h=>?_⟩
    ·by_cases e:j=n
     ·rw [e];omega
     ·exact q2 j (by omega)
    ·rcases h with h | h
     ·exact q4 h
     ·have:=(hmm.1 h).1;omega
   ·rw [if_neg a1] at hcm
    rw [if_neg a1]
    by_cases a2:(ns.getD i ([],[])).1.getD n 0=v
    ·right
     rw [if_pos a2] at hcm
     rw [if_pos a2]
     refine ⟨n,by omega,a2,rfl,by omega,?_⟩
     constructor
     ·rintro (h | h)
      ·exact absurd h q4
      ·exact (hmm.1 h).2
     ·intro h;exact .inr (hmm.2 ⟨a2,h⟩)
    ·left
     rw [if_neg a2] at hcm
     rw [if_neg a2]
     refine ⟨q1,fun j hj=>?_,by omega,fun h=>?_⟩
     ·by_cases e:j=n
      ·rw [e];exact a2
      ·exact q2 j (by omega)
     ·rcases h with h | h
      ·exact q4 h
      ·exact a2 (hmm.1 h).1
  ·right
   have a0:=ha j n hj (by omega)
   have a1:¬ (ns.getD i ([],[])).1.getD n 0<v:=by omega
   have a2:¬ (ns.getD i ([],[])).1.getD n 0=v:=by omega
   rw [if_neg a1,if_neg a2] at hcm
   generalize dm (b8 ns ns.length) (ns.getD i ([],[])) v 0 n (0,-1)=t at q2 q3 ⊢
   unfold dD
   dsimp only
   rw [if_neg a1,if_neg a2]
   refine ⟨j,by omega,q1,q2,by omega,?_⟩
   constructor
   ·rintro (h | h)
    ·exact q4.1 h
    ·exact absurd (hmm.1 h).1 a2
   ·intro h;exact .inl (q4.2 h)
theorem VF.far_nn (V:VF olen ns far):∀ (m i:Nat),i<m→i<ns.length→0≤far.getD i 0
 | 0,i,h,_=>by omega
 | m+1,i,h,hi=>by
  by_cases hz:i=0
  ·rw [hz,V.f0];exact Int.le_refl _
  ·rcases (V.node (i:=i) (by omega) hi).2.2 with ⟨_,_,e⟩ | ⟨e0,e⟩
   ·omega
   ·have hl:=V.lens hi
    have hp:=List.length_pos_iff.2 e0
    obtain ⟨c0,c1,c2⟩:=e 0 (by omega)
    have:=VF.far_nn V m ((ns.getD i ([],[])).2.getD 0 0).toNat (by omega) (by omega)
    omega
theorem zm (V:VF olen ns far):∀ (vs:List Int) (i:Nat),i<ns.length→(i=0∨(ns.getD i ([],[])).1≠[])→far.getD i 0=(vs.length:Int)→(cD ns (i:Int)).length<1000000000 →
  rk ns (b8 ns ns.length) vs (i:Int)=((iK vs (cD ns (i:Int)):Int),decide (vs∈cD ns (i:Int)))
 | [],i,hi,hne,hf,hb=>by
  have hz:i=0:=by
   by_cases hz:i=0
   ·exact hz
   ·rcases hne with h | h
    ·exact h
    ·have hp:=List.length_pos_iff.2 h
     obtain ⟨c,_,_,_,_,e⟩:=V.child (by omega) hi hb hp
     have:=V.far_nn (c+1) c (by omega) (by omega)
     rw [List.length_nil] at hf
     omega
  subst hz
  rw [rk,y7,show ((0:Nat):Int)=0 from rfl,kl V.wf];rfl
 | v :: vs,i,hi,hne,hf,hb=>by
  have hz:1≤i:=by
   by_cases hz:i=0
   ·rw [hz,V.f0,List.length_cons] at hf;omega
   ·omega
  unfold rk
  dsimp only
  rw [Int.toNat_natCast,V.rows hz hi]
  rcases t9 V hz hi hb (v:=v) (vs:=vs) _ (Nat.le_refl _) with ⟨q1,_,q3,q4⟩ | ⟨j,hj,_,q2,q3,q4⟩
  ·rw [q1,if_pos (by decide),q3,decide_eq_false q4]
  ·obtain ⟨c,e1,e2,e3,e4,e5⟩:=V.child hz hi hb hj
   rw [e1] at q2 q3 q4
   have hcn:c=0∨(ns.getD c ([],[])).1≠[]:=by
    have:=(yf V (nd:=(i:Int)) (ch:=(c:Int)) ⟨by omega,by omega⟩ (by omega) (by omega)).2
    rw [Int.toNat_natCast] at this
    rcases this with h | h
    ·exact .inl (by omega)
    ·exact .inr h
   rw [List.length_cons] at hf
   rw [q2,if_neg (by omega),zm V vs c (by omega) hcn (by omega) e3,q3]
   dsimp only
   rw [decide_eq_decide.2 q4]
theorem VF.row_len (V:VF olen ns far):∀ (m i:Nat),i<m→i<ns.length→∀ r∈cD ns (i:Int),(r.length:Int)=far.getD i 0
 | 0,i,h,_,_,_=>by omega
 | m+1,i,h,hi,r,hr=>by
  by_cases hz:i=0
  ·subst hz
   rw [show ((0:Nat):Int)=0 from rfl,kl V.wf,List.mem_singleton] at hr
   rw [hr,V.f0];rfl
  ·rw [V.rows (by omega) hi] at hr
   obtain ⟨j,hj,hm⟩:=pH _ hr
   obtain ⟨s,hs,rfl⟩:=List.mem_map.1 hm
   rcases (V.node (i:=i) (by omega) hi).2.2 with ⟨e0,_⟩ | ⟨_,e⟩
   ·rw [e0] at hj;simp at hj
   ·have hl:=V.lens hi
    obtain ⟨c0,c1,c2⟩:=e j (by omega)
    obtain ⟨c,hc⟩:=Int.eq_ofNat_of_zero_le c0
    rw [hc] at hs c2
    rw [Int.toNat_natCast] at c2
    have:=VF.row_len V m c (by omega) (by omega) s hs
    rw [List.length_cons];omega
theorem VF.rows_asc (V:VF olen ns far):∀ (m i:Nat),i<m→i<ns.length→d8 (cD ns (i:Int))
 | 0,i,h,_=>by omega
 | m+1,i,h,hi=>by
  by_cases hz:i=0
  ·subst hz
   rw [show ((0:Nat):Int)=0 from rfl,kl V.wf]
   exact List.pairwise_singleton _ _
  ·rw [V.rows (by omega) hi]
   have hl:=V.lens hi
   have ha:=qW _ (V.asc hi)
   have key:∀ n,n≤(ns.getD i ([],[])).1.length→d8 (fb (blk ns i) n):=by
    intro n
    induction n with
    | zero=>intro _;exact List.Pairwise.nil
    | succ n ih =>
     intro hn
     rw [fb]
     obtain ⟨c0,c1⟩:=V.ch hi (j:=n) (by omega)
     obtain ⟨c,hc⟩:=Int.eq_ofNat_of_zero_le c0
     refine List.pairwise_append.2 ⟨ih (by omega),?_,fun a h1 b h2=>?_⟩
     ·unfold blk
      rw [List.pairwise_map,hc]
      refine List.Pairwise.imp (fun {a b} h=>?_) (VF.rows_asc V m c (by omega) (by omega))
      show bl (_ :: a) (_ :: b)<0
      rw [bl,if_neg (by omega),if_neg (by omega)];exact h
     ·obtain ⟨j,hj,hm⟩:=pH _ h1
      obtain ⟨s,_,rfl⟩:=List.mem_map.1 hm
      obtain ⟨t,_,rfl⟩:=List.mem_map.1 h2
      rw [bl,if_pos (ha j n hj (by omega))];decide
   exact key _ (Nat.le_refl _)
end

theorem yg {a b:List Int} (h:bl a b<0):¬ bl b a<0:=by rw [j4];omega
theorem vx:∀ {R:List (List Int)} {k:Nat},d8 R→∀ h:k<R.length,iK R[k] R=k
 | [],k,_,h=>by simp at h
 | a :: R,0,hp,h=>by
  obtain ⟨h1,h2⟩:=List.pairwise_cons.1 hp
  show iK a (a :: R)=0
  unfold iK
  rw [List.length_eq_zero_iff,List.filter_eq_nil_iff]
  intro r hr
  rw [decide_eq_true_eq]
  rcases List.mem_cons.1 hr with rfl | hr
  ·exact nv r
  ·exact yg (h1 r hr)
 | a :: R,k+1,hp,h=>by
  obtain ⟨h1,h2⟩:=List.pairwise_cons.1 hp
  have hk:k<R.length:=by simpa using h
  have ih:=vx h2 hk
  show iK R[k] (a :: R)=k+1
  unfold iK at ih ⊢
  rw [List.filter_cons,decide_eq_true (h1 _ (List.getElem_mem hk)),if_pos rfl,List.length_cons,ih]
theorem A6 {R:List (List Int)} (hp:d8 R) {i j:Nat} (h:i<j) (hj:j<R.length):bl (R[i]'(by omega)) R[j]<0:=List.pairwise_iff_getElem.1 hp i j (by omega) hj h
def N10 (ns:List aG):Prop:=∀ x∈ns,x.1.length≤10∧x.2.length≤10
theorem N10.put {ns:List aG} {x:aG} (h:N10 ns) (h1:x.1.length≤10) (h2:x.2.length≤10):N10 (jD ns x).2:=by
 unfold jD
 split
 ·exact h
 ·intro y hy
  rcases List.mem_append.1 hy with hy | hy
  ·exact h y hy
  ·rw [List.mem_singleton] at hy;subst hy;exact ⟨h1,h2⟩
theorem rf {rec:List aG→List (List Int)→Int × List aG} {rows:List (List Int)} {d:Nat}:∀ f ns vals chs i,vals.length=chs.length→(cw rec rows d f ns vals chs i).2.1.length=(cw rec rows d f ns vals chs i).2.2.length
 | 0,ns,vals,chs,i,h=>by unfold cw;exact h
 | f+1,ns,vals,chs,i,h=>by
  unfold cw
  split
  ·exact rf f _ _ _ _ (by simp [h])
  ·exact h
theorem tF {rec:List aG→List (List Int)→Int × List aG} {n d:Nat} (hdn:d<n) {rows:List (List Int)} {pre:List Int}
  (hr:∀ ns rs pre,N10 ns→rs.Sublist rows→rs≠[]→(∀ r∈rs,r.length=n∧r.take (d+1)=pre)→N10 (rec ns rs).2) (hrow:∀ r∈rows,r.length=n∧r.take d=pre):∀ f ns vals chs i,N10 ns→N10 (cw rec rows d f ns vals chs i).1
 | 0,ns,vals,chs,i,h=>by unfold cw;exact h
 | f+1,ns,vals,chs,i,h=>by
  unfold cw
  split
  ·rename_i hlt
   exact tF hdn hr hrow f _ _ _ _ (hr ns _ _ h vq (yc (d:=d) hlt) (vG hdn hlt hrow))
  ·exact h
theorem sw {n:Nat} {C:Nat→List Int} (hC:∀ j,(C j).length≤10):∀ (e d:Nat),d+e=n→∀ ns rs pre,N10 ns→d8 rs→(∀ r∈rs,r.length=n∧r.take d=pre)→(∀ r∈rs,∀ j,j<n→r.getD j 0∈C j)→N10 (b7 e ns rs d).2
 | 0,d,hd,ns,rs,pre,h,_,_,_=>h
 | e+1,d,hd,ns,rs,pre,h,ha,hrow,hc=>by
  have h1:=tF (rec:=fun ns rs=>b7 e ns rs (d+1)) (n:=n) (d:=d) (by omega) (rows:=rs) (pre:=pre) (fun ns' rs' pre' k1 k2 _ k4 =>
   sw hC e (d+1) (by omega) ns' rs' pre' k1 (List.Pairwise.sublist k2 ha) k4 (fun r hr j hj=>hc r (k2.subset hr) j hj)) hrow rs.length ns [] [] 0 h
  obtain ⟨a1,a2⟩:=oS (rec:=fun ns rs=>b7 e ns rs (d+1)) (n:=n) (d:=d) (by omega) ha hrow (C:=C d) (fun r hr=>hc r hr d (by omega)) rs.length ns [] [] 0 List.Pairwise.nil (by simp) (by simp)
  have a3:=oQ (rG a1) a2
  have a4:=hC d
  have a5:=rf (rec:=fun ns rs=>b7 e ns rs (d+1)) (rows:=rs) (d:=d) rs.length ns [] [] 0 rfl
  unfold b7
  exact h1.put (by omega) (by omega)
theorem um {n:Nat} {rows:List (List Int)} (ha:d8 rows) (hrow:∀ r∈rows,r.length=n) {C:Nat→List Int} (hC:∀ j,(C j).length≤10) (hc:∀ r∈rows,∀ j,j<n→r.getD j 0∈C j):N10 (jT n rows):=by
 unfold jT
 by_cases h:rows=[]
 ·rw [if_pos h]
  intro x hx
  have e:x=([],[]):=by simpa using hx
  subst e;exact ⟨by simp,by simp⟩
 ·rw [if_neg h]
  exact sw hC n 0 (by omega) _ rows [] (fun x hx=>by
   have e:x=([],[]):=by simpa using hx
   subst e;exact ⟨by simp,by simp⟩) ha (fun r hr=>⟨hrow r hr,rfl⟩) hc
def FSm (o:List Int) (ns:List aG):Prop:=o.length≤7∧ns.length≤4001∧∀ x∈ns,x.1.length≤11∧x.2.length≤11
def FGd (o:List Int) (ns:List aG):Prop:=o.length≤6∧ns.length≤4000∧N10 ns
theorem FSm.o {o:List Int} {ns:List aG} (h:FSm o ns):okI o:=⟨by have:=h.1;omega,fun _ _=>trivial⟩
theorem FSm.n {o:List Int} {ns:List aG} (h:FSm o ns):okN ns:=⟨by have:=h.2.1;omega,fun x hx=>⟨⟨by have:=(h.2.2 x hx).1;omega,fun _ _=>trivial⟩,⟨by have:=(h.2.2 x hx).2;omega,fun _ _=>trivial⟩⟩⟩
theorem FGd.n {o:List Int} {ns:List aG} (h:FGd o ns):okN ns:=⟨by have:=h.2.1;omega,fun x hx=>⟨⟨by have:=(h.2.2 x hx).1;omega,fun _ _=>trivial⟩,⟨by have:=(h.2.2 x hx).2;omega,fun _ _=>trivial⟩⟩⟩
theorem z0:FGd [] []:=⟨by simp,by simp,fun x hx=>by simp at hx⟩
theorem qS {n:Int} {rows:List (List Int)} (hl:rows.length≤10):FGd (nf n rows).1.1 (nf n rows).1.2:=by
 unfold nf
 cases hv:bw n rows with
 | false=>exact z0
 | true =>
  obtain ⟨h0,h1,ha⟩:=vM hv
  have a1:=kS hv
  obtain ⟨_,_,_,q1⟩:=bU hv
  have r1:∀ r∈rows,r.length=n.toNat:=fun r hr=>by
   obtain ⟨i,hi,rfl⟩:=List.getElem_of_mem hr
   have:=(q1 i hi).1;omega
  have l1:=xY (n:=n.toNat) (by omega) ha
  have l2:rows.length*n.toNat≤10*5:=Nat.mul_le_mul hl (by omega)
  exact ⟨by show (jV n.toNat).length≤6;rw [nD];omega,by show (jT n.toNat rows).length≤4000;omega,um a1 r1 (C:=fun j=>rows.map fun r=>r.getD j 0) (fun j=>by rw [List.length_map];exact hl) fun r hr j _=>List.mem_map.2 ⟨r,hr,rfl⟩⟩
section
variable {N:Nat}
theorem ph (hN:1073741824≤N) {n:Int} {ats:List bb} {out:List Int} (ha:eC ats) (ho:okI out) (hn:n≤6):∃ o,ge N n ats out=some o∧o.length≤6:=by
 have key:∀ (m:Nat) (i:Nat) (k:Nat) (acc:List Int),acc.length≤i→m<k→(n≤i+m)→(i:Int)≤6→∃ o j,ea N k n ats out acc (i:Int)=some (o,j)∧o.length≤6:=by
  intro m
  induction m with
  | zero =>
   intro i k acc h1 h2 h3 h4
   obtain ⟨k,rfl⟩:∃ g,k=g+1:=⟨k-1,by omega⟩
   rw [ea,decide_eq_false (show ¬ (i:Int)<n by omega),cond_false]
   exact ⟨_,_,rfl,by omega⟩
  | succ m ih =>
   intro i k acc h1 h2 h3 h4
   obtain ⟨k,rfl⟩:∃ g,k=g+1:=⟨k-1,by omega⟩
   rw [ea]
   by_cases hi:(i:Int)<n
   ·rw [decide_eq_true hi,cond_true,ff hN ha ho,bs]
    cases eX n ats out with
    | false=>rw [cond_false];exact ⟨_,_,rfl,by omega⟩
    | true =>
     rw [cond_true,bo (by decide) (by simp;omega),bs,ad1 (by omega),bs]
     exact ih (i+1) k _ (by simp;omega) (by omega) (by omega) (by omega)
   ·rw [decide_eq_false hi,cond_false]
    exact ⟨_,_,rfl,by omega⟩
 obtain ⟨o,j,e,h⟩:=key 6 0 N [] (by simp) (by omega) (by omega) (by omega)
 unfold ge
 rw [show (0:Int)=((0:Nat):Int) from rfl,e,bs,lpB]
 exact ⟨o,rfl,h⟩
theorem uy (hM:1073742848≤N) {a:List Int} (ha:dy a) {p h:Int} (hc:bO a p):∃ o ns q g,jm N a p h=some ((o,ns),q,g)∧bO a q∧FGd o ns:=by
 have hN:1073741824≤N:=by omega
 unfold jm
 obtain ⟨b,q,g,e,hc1⟩:=gm (N:=N) ha (h:=h) (n:=2) hc
 rw [e,bs]
 cases b with
 | true =>
  obtain ⟨x,q2,g2,e2,b0,b1,_,hc2⟩:=bC (N:=N) ha (h:=g) (n:=4) hc1
  have b1:=b1 (by decide)
  obtain ⟨rows,q3,g3,e3,hc3,hl,hr⟩:=ko hM ha (h:=g2) (n:=x) (m:=4) (y:=9) hc2 (by decide) (by omega) (by decide)
  dsimp only
  rw [cond_true,e2,bs]
  dsimp only
  rw [e3,bs]
  dsimp only
  have hok:f7 rows:=⟨by omega,fun r hr'=>⟨by have:=(hr r hr').1;omega,fun _ _=>trivial⟩⟩
  rw [iZ hM hok,bs]
  exact ⟨_,_,_,_,rfl,hc3,qS (by omega)⟩
 | false =>
  obtain ⟨ts,r,o,q2,g2,e2,hc2,hj⟩:=ud hM ha (h:=g) hc1
  dsimp only
  rw [cond_false,e2,bs]
  dsimp only
  have d1:=hj.1.ok;have d2:=hj.2.1.atoms;have d3:=hj.2.1.out
  obtain ⟨o2,e3,ho2⟩:=ph hN (n:=r.1) d2 d3 hj.2.1.1.2
  rw [e3,bs]
  have d4:okI o2:=⟨by omega,fun _ _=>trivial⟩
  rw [pk hM d1 d2 d3 d4,bs]
  unfold wR
  cases ht:(eZ ts r.1 r.2.1 r.2.2 o2).2.2 with
  | true =>
   obtain ⟨m,em,qf,_,ej,hl⟩:=zU ht
   rw [cond_true,ej,em]
   dsimp only
   rw [cond_true,Int.toNat_natCast]
   obtain ⟨w1,w2,w3⟩:=lw (jZ qf) qf.n5
   obtain ⟨C,c1,c2⟩:=sW hj.1 qf
   exact ⟨_,_,_,_,rfl,hc2,by omega,x6 hj.1 qf hl,um w3 (fun r hr=>(w2 r hr).1) c1 c2⟩
  | false =>
   rw [cond_false]
   dsimp only
   rw [cond_false]
   obtain ⟨rows,q3,g3,e4,hc3,hl,hr⟩:=ko hM ha (h:=g2) (n:=2) (m:=3) (y:=6) hc2 (by decide) (by decide) (by decide)
   rw [e4,bs]
   dsimp only
   have hok:f7 rows:=⟨by omega,fun r hr'=>⟨by have:=(hr r hr').1;omega,fun _ _=>trivial⟩⟩
   rw [iZ hM hok,bs]
   exact ⟨_,_,_,_,rfl,hc3,qS (by omega)⟩
theorem wF (hN:1073741824≤N) {o:List Int} {ns:List aG} (ho:okI o) (hn:okN ns):jn N o ns=some (o,ns):=by
 have hl:=hn.1
 have hol:=ho.1
 have key:∀ (m i k:Nat) {z1 z2:List Int} {z3:List aG} {x4:List Int},i+m=ns.length→m<k→fY N k o ns z1 z3 x4 (ns.take i) (i:Int)=some (ns,(ns.length:Int)):=by
  intro m
  induction m with
  | zero =>
   intro i k z1 z2 z3 x4 hi hk
   obtain ⟨k,rfl⟩:∃ g,k=g+1:=⟨k-1,by omega⟩
   obtain rfl:i=ns.length:=by omega
   rw [fY,dge (by omega),cond_false,List.take_length]
  | succ m ih =>
   intro i k z1 z2 z3 x4 hi hk
   obtain ⟨k,rfl⟩:∃ g,k=g+1:=⟨k-1,by omega⟩
   have h:i<ns.length:=by omega
   obtain ⟨k1,k2⟩:=gY hn h
   have k1:=k1.1;have k2:=k2.1
   rw [fY,dlt h,cond_true,aM h,bs,bs,bo (by decide) (by simp;omega),bs,bo (by decide) (by simp;omega),bs,bo (by decide) (by simp;omega),bs,ad1 (by omega),bs,List.nil_append,List.nil_append]
   have:=ih (i+1) k (z1:=z1) (z2:=z2) (z3:=z3) (x4:=x4) (by omega) (by omega)
   rw [List.take_succ_eq_append_getElem h] at this
   exact this
 unfold jn
 rw [bo (by decide) (by simp;omega),bs,List.nil_append]
 have:=key ns.length 0 N (z1:=[]) (z2:=[]) (z3:=[]) (x4:=o) (by omega) (by omega)
 rw [show (0:Int)=((0:Nat):Int) from rfl]
 rw [List.take_zero] at this
 rw [this,bs,lpB]
theorem xq {o:List Int} {ns:List aG} (h:FGd o ns) {i:Nat} {x:aG} (h1:x.1.length≤11) (h2:x.2.length≤11):FSm o (ns.set i x):=⟨by have:=h.1;omega,by rw [List.length_set];have:=h.2.1;omega,fun y hy=>by
 rcases List.mem_or_eq_of_mem_set hy with hy | rfl
 ·have:=h.2.2 y hy;omega
 ·exact ⟨h1,h2⟩⟩
theorem FGd.sm {o:List Int} {ns:List aG} (h:FGd o ns):FSm o ns:=⟨by have:=h.1;omega,by have:=h.2.1;omega,fun y hy=>by have:=h.2.2 y hy;omega⟩
theorem pD (hM:1073742848≤N) {a:List Int} (ha:dy a) {p h:Int} (hc:bO a p):∃ o ns q g,iW N a p h=some ((o,ns),q,g)∧bO a q∧FSm o ns:=by
 have hN:1073741824≤N:=by omega
 obtain ⟨o,ns,q,g,e,hc1,hg⟩:=uy hM ha (h:=h) hc
 have hno:=hg.n
 have hoo:okI o:=⟨by have:=hg.1;omega,fun _ _=>trivial⟩
 unfold iW
 rw [e,bs]
 dsimp only
 rw [wF hN hoo hno,bs]
 dsimp only
 have hg1:=hg.1;have hg2:=hg.2.1
 cases hz:((ns.length:Int) == 0) with
 | true=>rw [cond_true];exact ⟨_,_,_,_,rfl,hc1,hg.sm⟩
 | false =>
  have hz:¬ (ns.length:Int)=0:=by simpa using hz
  rw [cond_false]
  obtain ⟨x,q2,g2,e2,b0,b1,_,hc2⟩:=bC (N:=N) ha (h:=g) (n:=(ns.length:Int)) hc1
  have b1:=b1 (by omega)
  rw [e2,bs]
  dsimp only
  obtain ⟨y,q3,g3,e3,_,_,_,hc3⟩:=bC (N:=N) ha (h:=g2) (n:=14) hc2
  rw [e3,bs]
  dsimp only
  obtain ⟨k,rfl⟩:=Int.eq_ofNat_of_zero_le b0
  have hk:k<ns.length:=by omega
  have hm:=hg.2.2 _ (List.getElem_mem hk)
  cases y == 0 with
  | true =>
   rw [cond_true,aM hk,bs]
   obtain ⟨z,q4,g4,e4,_,_,_,hc4⟩:=bC (N:=N) ha (h:=g3) (n:=5) hc3
   rw [e4,bs]
   dsimp only
   rw [bo (by decide) (by simp;omega),bs,gt hk,bs]
   exact ⟨_,_,_,_,rfl,hc4,xq hg (by simp;omega) (by show ns[k].2.length≤11;omega)⟩
  | false =>
  rw [cond_false]
  cases y == 1 with
  | true =>
   rw [cond_true,aM hk,bs]
   by_cases hch:(0:Int)<(ns[k].2.length:Int)
   ·rw [decide_eq_true hch,cond_true,bs,ad1 (by omega),bs]
    obtain ⟨z,q4,g4,e4,c0,c1,_,hc4⟩:=bC (N:=N) ha (h:=g3) (n:=((ns.length+1:Nat):Int)) hc3
    have c1:=c1 (by omega)
    rw [e4,bs]
    dsimp only
    rw [cZ (by omega) (by omega),bs,show (0:Int)=((0:Nat):Int) from rfl,aM (by omega),bs,gt (by omega),bs,gt hk,bs]
    exact ⟨_,_,_,_,rfl,hc4,xq hg (by show ns[k].1.length≤11;omega) (by show (ns[k].2.set 0 _).length≤11;rw [List.length_set];omega)⟩
   ·rw [decide_eq_false hch,cond_false];exact ⟨_,_,_,_,rfl,hc3,hg.sm⟩
  | false =>
  rw [cond_false]
  cases y == 2 with
  | true =>
   rw [cond_true,bo (by decide) (by simp;omega),bs]
   exact ⟨_,_,_,_,rfl,hc3,by simp;omega,by omega,hg.sm.2.2⟩
  | false =>
  rw [cond_false]
  cases y == 3 with
  | true =>
   rw [cond_true,wJ (by omega),bs]
   exact ⟨_,_,_,_,rfl,hc3,by omega,by rw [List.length_take];omega,fun z hz=>hg.sm.2.2 z (List.mem_of_mem_take hz)⟩
  | false =>
  rw [cond_false]
  cases y == 4 with
  | true =>
   rw [cond_true,aM hk,bs,bo (by decide) (by simp;omega),bs]
   refine ⟨_,_,_,_,rfl,hc3,by omega,by simp;omega,fun z hz=>?_⟩
   rcases List.mem_append.1 hz with hz | hz
   ·exact hg.sm.2.2 z hz
   ·rw [List.mem_singleton] at hz;subst hz
    exact hg.sm.2.2 _ (List.getElem_mem hk)
  | false=>rw [cond_false];exact ⟨_,_,_,_,rfl,hc3,hg.sm⟩
theorem vb (hM:1073742848≤N) {a:List Int} (ha:dy a) {p h:Int} (hc:bO a p) {o:List Int} {ns:List aG} (hf:FSm o ns):∃ row q g,jO N a p h o ns=some (row,q,g)∧bO a q∧okI row:=by
 have hN:1073741824≤N:=by omega
 have h1:=hf.o;have h2:=hf.n
 unfold jO
 have hb:=@ld o ns
 rw [eM hN h1 h2,bs,e9 (by omega) (by omega),bs]
 obtain ⟨x,q2,g2,e2,b0,b1,_,hc2⟩:=bC (N:=N) ha (h:=h) (n:=cu o ns+1) hc
 rw [e2,bs]
 dsimp only
 rw [jw hN h1 h2,bs]
 have hlen:=nx (order:=o) h2 x
 obtain ⟨row4,q6,g6,e6,hc6,hl6,_⟩:∃ row q g,fS N a q2 g2 (imn 6 (o.length:Int)) 5=some (row,q,g)∧bO a q∧row.length=(imn 6 (o.length:Int)).toNat∧∀ v∈row,0≤v∧v<5:=lG hN ha (h:=g2) hc2 (by decide) (by unfold imn;split <;> omega)
 have key:∀ q g,bO a q→∃ row q' g',fS N a q g (imn 6 (o.length:Int)) 5=some (row,q',g')∧bO a q'∧okI row:=fun q g hq=>by
  obtain ⟨row,q',g',e,hc',hl,_⟩:=lG hN ha (h:=g) (n:=imn 6 (o.length:Int)) (m:=5) hq (by decide) (by unfold imn;split <;> omega)
  exact ⟨row,q',g',e,hc',by rw [hl];unfold imn;split <;> omega,fun _ _=>trivial⟩
 cases hr:(e7 o ns x).2 with
 | true =>
  rw [cond_true]
  obtain ⟨b,q3,g3,e3,hc3⟩:=gm (N:=N) ha (h:=g2) (n:=2) hc2
  rw [e3,bs]
  cases b with
  | true=>exact ⟨_,_,_,rfl,hc3,hlen⟩
  | false =>
   dsimp only
   rw [cond_false]
   obtain ⟨b,q4,g4,e4,hc4⟩:=gm (N:=N) ha (h:=g3) (n:=10) hc3
   rw [e4,bs]
   cases b with
   | true =>
    dsimp only
    have hl:=hlen.1
    have hz:(e7 o ns x).1.length≤4001:=by
     unfold e7
     cases inR x 0 (cu o ns-1) with
     | false=>exact Nat.zero_le _
     | true =>
      have:=mm ns (b8 ns ns.length) ns.length x [] (ns.length-1)
      have h4:=hf.2.1
      simp only [cond_true,List.length_nil] at this ⊢;omega
    rw [cond_true,bo (by decide) (by simp;omega),bs]
    exact ⟨_,_,_,rfl,hc4,by simp;omega,fun _ _=>trivial⟩
   | false =>
    dsimp only
    rw [cond_false]
    obtain ⟨row,q5,g5,e5,hc5,hk⟩:=key q4 g4 hc4
    rw [e5,bs]
    exact ⟨_,_,_,rfl,hc5,hk⟩
 | false =>
  rw [cond_false]
  obtain ⟨b,q4,g4,e4,hc4⟩:=gm (N:=N) ha (h:=g2) (n:=10) hc2
  rw [e4,bs]
  cases b with
  | true =>
   dsimp only
   have hz:(e7 o ns x).1.length≤4001:=by
    unfold e7
    cases inR x 0 (cu o ns-1) with
    | false=>exact Nat.zero_le _
    | true =>
     have:=mm ns (b8 ns ns.length) ns.length x [] (ns.length-1)
     have h4:=hf.2.1
     simp only [cond_true,List.length_nil] at this ⊢;omega
   rw [cond_true,bo (by decide) (by simp;omega),bs]
   exact ⟨_,_,_,rfl,hc4,by simp;omega,fun _ _=>trivial⟩
  | false =>
   dsimp only
   rw [cond_false]
   obtain ⟨row,q5,g5,e5,hc5,hk⟩:=key q4 g4 hc4
   rw [e5,bs]
   exact ⟨_,_,_,rfl,hc5,hk⟩
end
theorem uq {olen:Nat} {ns:List aG} {far:List Int} (V:VF olen ns far) (hv:∀ x∈ns,x.1.length≤11):∀ (m i:Nat),i<m→i<ns.length→(i=0∨(ns.getD i ([],[])).1≠[]∨True)→(cD ns (i:Int)).length≤11 ^ (far.getD i 0).toNat
 | 0,i,h,_,_=>by omega
 | m+1,i,h,hi,_=>by
  by_cases hz:i=0
  ·subst hz
   rw [show ((0:Nat):Int)=0 from rfl,kl V.wf,V.f0];decide
  ·have hr:=V.rows (show 1≤i by omega) hi
   have hl:=V.lens hi
   have hx:(ns.getD i ([],[])).1.length≤11:=by
    rw [List.getD_eq_getElem?_getD,List.getElem?_eq_getElem hi,Option.getD_some]
    exact hv _ (List.getElem_mem hi)
   rcases (V.node (i:=i) (by omega) hi).2.2 with ⟨e0,_⟩ | ⟨_,e⟩
   ·rw [hr,e0];exact Nat.zero_le _
   ·have key:∀ n,n≤(ns.getD i ([],[])).1.length→(fb (blk ns i) n).length≤n*11 ^ ((far.getD i 0).toNat-1):=by
     intro n
     induction n with
     | zero=>intro _;exact Nat.zero_le _
     | succ n ih =>
      intro hn
      obtain ⟨c0,c1,c2⟩:=e n (by omega)
      obtain ⟨c,hc⟩:=Int.eq_ofNat_of_zero_le c0
      rw [hc] at c1 c2
      rw [Int.toNat_natCast] at c2
      have:=uq V hv m c (by omega) (by omega) (.inr (.inr trivial))
      have hnn:=V.far_nn (c+1) c (by omega) (by omega)
      rw [fb,List.length_append,pf,hc,Nat.succ_mul]
      have ih:=ih (by omega)
      rw [show (far.getD c 0).toNat=(far.getD i 0).toNat-1 by omega] at this
      omega
    have hp:1≤(far.getD i 0).toNat∨(ns.getD i ([],[])).1.length=0:=by
     by_cases h0:(ns.getD i ([],[])).1.length=0
     ·exact .inr h0
     ·obtain ⟨c0,c1,c2⟩:=e 0 (by omega)
      have hnn:=V.far_nn i ((ns.getD i ([],[])).2.getD 0 0).toNat (by omega) (by omega)
      exact .inl (by omega)
    have:=key _ (Nat.le_refl _)
    rw [hr]
    rcases hp with hp | hp
    ·obtain ⟨t,ht⟩:∃ t,(far.getD i 0).toNat=t+1:=⟨(far.getD i 0).toNat-1,by omega⟩
     rw [ht] at this ⊢
     rw [Nat.pow_succ,Nat.mul_comm]
     exact Nat.le_trans this (Nat.mul_le_mul_right _ hx)
    ·rw [hp] at this ⊢
     simp only [Nat.zero_mul] at this
     exact Nat.le_trans this (Nat.zero_le _)
theorem FSm.rows {o:List Int} {ns:List aG} (hf:FSm o ns) (hv:dB o ns=true):∃ far,VF o.length ns far∧(cD ns ((ns.length-1:Nat):Int)).length<1000000000∧cu o ns=((cD ns ((ns.length-1:Nat):Int)).length:Int):=by
 obtain ⟨far,V⟩:=mq hv
 have hp:=V.pos
 have ho:o.length≤5:=by
  unfold dB fu at hv
  simp only [Bool.and_eq_true,decide_eq_true_eq] at hv
  have:=hv.1.1.1.1.1
  omega
 have h1:=uq V (fun x hx=>(hf.2.2 x hx).1) ns.length (ns.length-1) (by omega) (by omega) (.inr (.inr trivial))
 rw [V.last,Int.toNat_natCast] at h1
 have h2:11 ^ o.length≤11 ^ 5:=Nat.pow_le_pow_right (by decide) ho
 have h3:(cD ns ((ns.length-1:Nat):Int)).length<1000000000:=by
  have:(11:Nat) ^ 5=161051:=by decide
  omega
 refine ⟨far,V,h3,?_⟩
 unfold cu
 rw [hv,cond_true,xL V (by omega) h3]
def iE (ns:List aG):List (List Int):=cD ns ((ns.length-1:Nat):Int)
section
variable {o:List Int} {ns:List aG}
theorem u9 (h:dB o ns=false) (k:Int):e7 o ns k=([],false):=by
 unfold e7 cu
 rw [h,cond_false]
 cases hr:inR k 0 (0-1) with
 | false=>rfl
 | true=>have:=cW.1 hr;omega
theorem qP (hf:FSm o ns) (hv:dB o ns=true) {k:Nat} (hk:k<(iE ns).length):e7 o ns (k:Int)=((iE ns)[k],true):=by
 obtain ⟨far,V,hb,hc⟩:=hf.rows hv
 have hp:=V.pos
 unfold e7
 have hr:inR (k:Int) 0 (cu o ns-1)=true:=cW.2 (by rw [hc];have:k<(cD ns ((ns.length-1:Nat):Int)).length:=hk;omega)
 rw [hr,cond_true,tY V ns.length (ns.length-1) (k:Int) [] (by omega) (by omega) hb (by omega) (by have:k<(cD ns ((ns.length-1:Nat):Int)).length:=hk;omega),Int.toNat_natCast,List.nil_append]
 have hk':k<(cD ns ((ns.length-1:Nat):Int)).length:=hk
 rw [List.getD_eq_getElem?_getD,List.getElem?_eq_getElem hk',Option.getD_some];rfl
theorem sU (hf:FSm o ns) (hv:dB o ns=true) {k:Nat} (hk:(iE ns).length≤k):e7 o ns (k:Int)=([],false):=by
 obtain ⟨far,V,hb,hc⟩:=hf.rows hv
 unfold e7
 have hr:inR (k:Int) 0 (cu o ns-1)=false:=by
  cases hr:inR (k:Int) 0 (cu o ns-1) with
  | false=>rfl
  | true =>
   have:=cW.1 hr
   rw [hc] at this
   have:(cD ns ((ns.length-1:Nat):Int)).length≤k:=hk
   omega
 rw [hr];rfl
theorem sL (hf:FSm o ns) (hv:dB o ns=true):d8 (iE ns)∧∀ r∈iE ns,r.length=o.length:=by
 obtain ⟨far,V,hb,hc⟩:=hf.rows hv
 have hp:=V.pos
 refine ⟨V.rows_asc ns.length (ns.length-1) (by omega) (by omega),fun r hr=>?_⟩
 have:=V.row_len ns.length (ns.length-1) (by omega) (by omega) r hr
 rw [V.last] at this;omega
theorem zX (hf:FSm o ns) (hv:dB o ns=true) {vs:List Int} (hl:vs.length=o.length):mz o ns vs=((iK vs (iE ns):Int),decide (vs∈iE ns)):=by
 obtain ⟨far,V,hb,hc⟩:=hf.rows hv
 have hp:=V.pos
 unfold mz
 rw [hv,cond_true,if_pos hl]
 by_cases h:1<ns.length∧(ns.getD (ns.length-1) ([],[])).1=[]
 ·rw [if_pos h]
  have:iE ns=[]:=by
   unfold iE
   rw [V.rows (by omega) (by omega),h.2];rfl
  rw [this];rfl
 ·rw [if_neg h]
  refine zm V vs (ns.length-1) (by omega) ?_ (by rw [V.last,hl]) hb
  by_cases h1:1<ns.length
  ·exact .inr fun e=>h ⟨h1,e⟩
  ·exact .inl (by omega)
theorem zD (hf:FSm o ns) (hv:dB o ns=true) {k:Nat} (hk:k<(iE ns).length):mz o ns (iE ns)[k]=((k:Int),true):=by
 obtain ⟨h1,h2⟩:=sL hf hv
 rw [zX hf hv (h2 _ (List.getElem_mem hk)),vx h1 hk,decide_eq_true (List.getElem_mem hk)]
theorem u7 (hf:FSm o ns) (k:Int):(e7 o ns k=([],false))∨∃ (j:Nat) (hj:j<(iE ns).length),k=(j:Int)∧dB o ns=true∧e7 o ns k=((iE ns)[j],true):=by
 cases hv:dB o ns with
 | false=>exact .inl (u9 hv k)
 | true =>
  by_cases h0:0≤k
  ·obtain ⟨j,rfl⟩:=Int.eq_ofNat_of_zero_le h0
   by_cases hj:j<(iE ns).length
   ·exact .inr ⟨j,hj,rfl,rfl,qP hf hv hj⟩
   ·exact .inl (sU hf hv (by omega))
  ·left
   unfold e7
   cases hr:inR k 0 (cu o ns-1) with
   | false=>rfl
   | true=>have:=cW.1 hr;omega
end
theorem lW {N:Nat} (hM:1073742848≤N) {a:List Int} (ha:dy a):∃ o ns k,dQ N a=some ((o,ns),k)∧FSm o ns∧-1≤k∧k≤2000000000:=by
 have hN:1073741824≤N:=by omega
 obtain ⟨h,e⟩:=qX (N:=N) hN ha
 obtain ⟨o,ns,q,g,e1,hc1,hf⟩:=pD hM ha (h:=h) Bh
 have hb:=@ld o ns
 obtain ⟨x,q2,g2,e2,b0,b1,_,_⟩:=bC (N:=N) ha (h:=g) (n:=cu o ns+3) hc1
 have b1:=b1 (by omega)
 unfold dQ
 rw [e,bs]
 dsimp only
 rw [e1,bs]
 dsimp only
 rw [eM hN hf.o hf.n,bs,e9 (by omega) (by omega),bs,e2,bs]
 dsimp only
 rw [cZ (by omega) (by omega),bs]
 exact ⟨_,_,_,rfl,hf,by omega,by omega⟩
theorem mh {N:Nat} (hM:1073742848≤N) {a:List Int} (ha:dy a):∃ o ns vs,ep N a=some ((o,ns),vs)∧FSm o ns∧okI vs:=by
 have hN:1073741824≤N:=by omega
 obtain ⟨h,e⟩:=qX (N:=N) hN ha
 obtain ⟨o,ns,q,g,e1,hc1,hf⟩:=pD hM ha (h:=h) Bh
 obtain ⟨vs,q2,g2,e2,_,hk⟩:=vb hM ha (h:=g) hc1 hf
 unfold ep
 rw [e,bs]
 dsimp only
 rw [e1,bs]
 dsimp only
 rw [e2,bs]
 exact ⟨_,_,_,rfl,hf,hk⟩
theorem tf {N:Nat} (hM:1073742848≤N) {x0:List Int} (_:(kt (fun _=>True) 9223372036854775807) x0) (g0:∀ v∈x0,0≤v∧v≤255):js N x0=some true:=by
 have hN:1073741824≤N:=by omega
 unfold js nL
 rw [bs]
 by_cases hb:(1048576:Int)<(x0.length:Int)
 ·rw [decide_eq_true hb];rfl
 ·rw [decide_eq_false hb,cond_false]
  have hc:dy x0:=⟨by omega,fun v hv=>g0 v hv⟩
  obtain ⟨o,ns,k,e1,hf,k0,k1⟩:=lW hM hc
  obtain ⟨o2,ns2,vs,e2,hf2,hvs⟩:=mh hM hc
  have a1:=hf.o;have a2:=hf.n;have a3:=hf2.o;have a4:=hf2.n
  have hrl:=nx (order:=o) a2 k
  rw [e1,bs]
  dsimp only
  rw [jy hN a1 a2,bs,jw hN a1 a2,bs,bne_self_eq_false,cond_false,tR hN hrl.1,bs,decide_eq_true rfl,cond_true,iS hN a1 a2,bs,eM hN a1 a2,bs,bne_self_eq_false,cond_false,e2,bs]
  dsimp only
  rw [g7 hN a3 a4 hvs,bs,mN hN a3 a4 hvs,bs,bne_self_eq_false,cond_false,bne_self_eq_false,cond_false,kG hN a3 a4 hvs,bs,bne_self_eq_false,cond_false]
  rcases u7 hf k with h | ⟨j,hj,rfl,hv,h⟩
  ·rw [h];rfl
  ·rw [h] at hrl ⊢
   dsimp only at hrl ⊢
   rw [cond_true,g7 hN a1 a2 hrl,bs,zD hf hv hj,ad1 (by omega),bs,jy hN a1 a2,bs]
   dsimp only
   rw [cond_true,beq_self_eq_true,cond_true]
   by_cases hj2:j+1<(iE ns).length
   ·have hrl2:=nx (order:=o) a2 ((j+1:Nat):Int)
    have hlt:=A6 (sL hf hv).1 (Nat.lt_succ_self j) hj2
    rw [qP hf hv hj2] at hrl2 ⊢
    dsimp only at hrl2 ⊢
    rw [cond_true,n7 hN hrl.1 (by have:=hrl2.1;omega),bs,decide_eq_true hlt]
   ·rw [sU hf hv (by omega)];rfl
section
variable {P:Program} {n:Nat} {Q Q':Exit→Env→World→Prop} {K:Env→World→Prop} {KQ:Env→Prop} {e:Env} {w w0:World} {c y:Code} {x:Exit} {ops:Array Oper} {rest:List Oper}
variable {d:Nat} {op:Op} {ty:TypeId} {pos:String} {af:Array Edge} {o z1 z2 z3:Operand} {v:Value} {q1:Oper}
theorem qY {α:Type} {R:Rep α} {w:World}:∀ {xs:List α} {ccs:List Value} {f:List Nat},dK R w ccs xs f→∀ (k:Nat) (hk:k<xs.length),
  ∃ c1 ec c3 f1 f2 f3,ccs=c1++(ec++c3)∧f=f1++(f2++f3)∧c1.length=k*R.sz∧R.own w ec xs[k] f2∧(∀ b∈f1++f3,b<w.heap.size) ∧
   ∀ w' y f' ec',(∀ b∈f1++f3,w'.heap[b]? = w.heap[b]?)→R.own w' ec' y f'→dK R w' (c1++(ec'++c3)) (xs.set k y) (f1++(f'++f3))
 | [],_,_,_,k,hk=>absurd hk (by simp)
 | x :: xs,_,_,h,k,hk=>by
  obtain ⟨ec,rest,f1,f2,rfl,rfl,h1,h2⟩:=h
  cases k with
  | zero =>
   exact ⟨[],ec,rest,[],f1,f2,rfl,rfl,by simp,h1,fun b hb=>gM h2 b (by simpa using hb),fun w' y f' ec' he ho=>⟨ec',rest,f',f2,rfl,rfl,ho,gB h2 (by simpa using he)⟩⟩
  | succ k =>
   have hl:=R.rd_len (R.own_rd h1)
   obtain ⟨c1,e2,c3,g1,g2,g3,rfl,rfl,k3,k4,k5,k6⟩:=qY h2 k (by simpa using hk)
   refine ⟨ec++c1,e2,c3,f1++g1,g2,g3,by simp,by simp,by rw [List.length_append,k3,Nat.succ_mul];omega,k4,fun b hb=>?_,fun w' y f' ec' he ho=>?_⟩
   ·rw [List.append_assoc] at hb
    rcases List.mem_append.1 hb with hb | hb
    ·exact R.own_lt h1 b hb
    ·exact k5 b hb
   ·rw [List.append_assoc,List.append_assoc]
    exact ⟨ec,_,f1,_,rfl,rfl,R.own_ext h1 (fun b hb=>he b (by simp [hb])),k6 w' y f' ec' (fun b hb=>he b (by rw [List.append_assoc];exact List.mem_append_right _ hb)) ho⟩
def lK {α:Type} (R:Rep α) (E:TypeId) (v:Value) (xs:List α) (i:Nat) (ec:List Value) (g m:Nat):Asn where
 holds w fp:=∃ cap cur c1 c3 f1 f3,v=.slice (some ⟨g,0,none⟩) xs.length cap∧w.heap[g]? = some (.cells cur E (0,0))∧xs.length≤cap∧cap≤maxLen∧cur.size=cap*R.sz∧cur.toList.take (xs.length*R.sz)=c1++(ec++c3)∧c1.length=i*R.sz∧ec.length=R.sz∧m=R.sz∧i<xs.length ∧
  (∀ b∈f1++f3,b<w.heap.size)∧(∀ w' y f' ec',(∀ b∈f1++f3,w'.heap[b]? = w.heap[b]?)→R.own w' ec' y f'→dK R w' (c1++(ec'++c3)) (xs.set i y) (f1++(f'++f3)))∧fp=g :: (f1++f3)
 ext h he:=by
  obtain ⟨cap,cur,c1,c3,f1,f3,h1,h2,h3,h4,h5,h6,h7,h8,h9,h10,h11,h12,rfl⟩:=h
  refine ⟨cap,cur,c1,c3,f1,f3,h1,by rw [he _ List.mem_cons_self];exact h2,h3,h4,h5,h6,h7,h8,h9,h10,fun b hb=>?_,fun w'' y f' ec' he' ho=>h12 w'' y f' ec' (fun b hb=>(he' b hb).trans (he b (List.mem_cons_of_mem _ hb))) ho,rfl⟩
  have k1:=h11 b hb
  have k2:=he b (List.mem_cons_of_mem _ hb)
  rw [Array.getElem?_eq_getElem k1] at k2
  exact (Array.getElem?_eq_some_iff.1 k2).1
 lt h:=by
  obtain ⟨cap,cur,c1,c3,f1,f3,h1,h2,h3,h4,h5,h6,h7,h8,h9,h10,h11,h12,rfl⟩:=h
  intro b hb
  rcases List.mem_cons.1 hb with rfl | hb
  ·exact (Array.getElem?_eq_some_iff.1 h2).1
  ·exact h11 b hb
section
variable {α:Type} {R:Rep α} {Γ:List Asn} {E:TypeId} {v:Value}
theorem Sat.holeDCells (a:Nat) {xs:List α} {i g m:Nat} {ec:List Value} (hS:Sat w0 w Γ) (hi:Γ[a]? = some (lK R E v xs i ec g m)):∀ j c,ec[j]? = some c→w.cell? ⟨g,i*m+j,none⟩=some c:=by
 obtain ⟨fp,ho,_⟩:=(hS.top a hi).head
 obtain ⟨cap,cur,c1,c3,f1,f3,h1,h2,h3,h4,h5,h6,h7,h8,h9,h10,_⟩:=ho
 intro j c hj
 subst h9
 rw [cell_of_row w g _ cur E (0,0) h2,← Array.getElem?_toList]
 have hjl:=(List.getElem?_eq_some_iff.1 hj).1
 have e:(cur.toList.take (xs.length*R.sz))[i*R.sz+j]? = some c:=by
  rw [h6,List.getElem?_append_right (by omega),show i*R.sz+j-c1.length=j by omega,List.getElem?_append_left hjl,hj]
 rw [List.getElem?_take] at e
 split at e
 ·exact e
 ·cases e
theorem Sat.takeOutD {xs:List α} {m:Nat} {i:Int} {u:α} (hS:Sat w0 w (Own (aB R E) [v] xs :: Γ)) (h:ix xs i=some u) (hn:R.sz=m) :
  ∃ g cap ec,v=.slice (some ⟨g,0,none⟩) xs.length cap∧R.rd w ec u∧Sat w0 w (Own R ec u :: lK R E v xs i.toNat ec g m :: Γ):=by
 obtain ⟨g,cap,ec,hv,hr,hS'⟩:=hS.takeOutC h hn
 refine ⟨g,cap,ec,hv,hr,?_⟩
 obtain ⟨k,rfl,hk,rfl⟩:=gv h
 subst hn
 have hrl:=R.rd_len hr
 have hcl:=hS'.holeCells 1 rfl
 subst hv
 refine hS.splitp fun f hf=>?_
 rcases hf with ⟨_,h2,_⟩ | ⟨g',cap',cur,ccs,fe,hv,hg,h1,h2,h3,h4,h5,rfl⟩
 ·subst h2;simp at hk
 obtain ⟨rfl,rfl⟩:g=g'∧cap=cap':=by simpa using hv
 obtain ⟨c1,ec',c3,f1,f2,f3,k1,rfl,k3,k4,k5,k6⟩:=qY h5 k hk
 have hrl2:=R.rd_len (R.own_rd k4)
 have hec:ec=ec':=by
  refine List.ext_getElem (by rw [hrl,hrl2]) fun j hj1 hj2=>?_
  have e1:=hcl j ec[j] (List.getElem?_eq_getElem hj1)
  simp only [Int.toNat_natCast] at e1
  rw [cell_of_row w g _ cur E (0,0) hg,← Array.getElem?_toList] at e1
  have e2:(cur.toList.take (xs.length*R.sz))[k*R.sz+j]? = some ec'[j]:=by
   rw [h4,k1,List.getElem?_append_right (by omega),show k*R.sz+j-c1.length=j by omega,List.getElem?_append_left hj2,List.getElem?_eq_getElem hj2]
  rw [List.getElem?_take] at e2
  split at e2
  ·rw [e1] at e2;exact Option.some.inj e2
  ·cases e2
 subst hec
 refine ⟨f2,g :: (f1++f3),?_,k4,cap,cur,c1,c3,f1,f3,by simp,hg,by simpa using h1,h2,h3,by rw [h4,k1],by simpa using k3,hrl,rfl,by simpa using hk,k5,by simpa using k6,rfl⟩
 refine List.perm_middle.trans (.cons _ ?_)
 rw [← List.append_assoc,← List.append_assoc]
 exact List.Perm.append_right _ List.perm_append_comm
theorem Sat.putBackD {xs ys:List α} {i:Int} {y:α} {ec:List Value} {g m:Nat} (hS:Sat w0 w (Own R ec y :: lK R E v xs i.toNat ec g m :: Γ)) (h:sto xs i y=some ys):Sat w0 w (Own (aB R E) [v] ys :: Γ):=by
 have e:ys=xs.set i.toNat y:=by
  unfold sto at h;split at h
  ·exact (Option.some.inj h).symm
  ·cases h
 subst e
 refine hS.joinp fun f fh h1 h2=>?_
 obtain ⟨cap,cur,c1,c3,f1,f3,rfl,k2,k3,k4,k5,k6,k7,k8,k9,k10,k11,k12,rfl⟩:=h2
 refine ⟨g :: (f1++(f++f3)),?_,.inr ⟨g,cap,cur,_,_,by simp,k2,by simpa using k3,k4,k5,by rw [List.length_set];exact k6,k12 w y f ec (fun _ _=>rfl) h1,rfl⟩⟩
 refine .trans (.cons _ ?_) List.perm_middle.symm
 rw [← List.append_assoc,← List.append_assoc]
 exact List.Perm.append_right _ List.perm_append_comm
theorem xK {e:Env} {K:Env→World→Prop} {x y:Operand} {t:TypeId} {z:List Value} {bytes:Nat} [hz:ElemT P t z 1 bytes] {xs:List α} {g o i j m:Nat} {ec ec':List Value} {c:Value}
  (hS:Sat w0 w (lK R E v xs i ec g m :: Γ)) (ho:o=i*m+j) (hj:j<m) (hx:ev e x=.pointer (some ⟨g,o,none⟩)) (hy:(ev e y).cells=[c].toArray) (h1:c.oneCell'=true) (hec:ec.set j c=ec')
  (hK:∀ w',Sat w0 w' (lK R E v xs i ec' g m :: Γ)→EL P n ops K rest e w'):EL P n ops K (⟨none,.store t x y,ty,pos,af,none⟩ :: rest) e w:=by
 intro a ha
 refine wpList_plain rfl fun K' hK'=>?_
 subst ho hec
 have hz:=hz.h
 cases hi:P.info? t with
 | none=>simp [hi] at hz
 | some inf =>
  simp [hi] at hz
  obtain ⟨fp,⟨cap,cur,c1,c3,f1,f3,k1,k2,k3,k4,k5,k6,k7,k8,k9,k10,k11,k12,k13⟩,hnd,_⟩:=hS.head
  subst k9
  have hl6:=congrArg List.length k6
  simp only [List.length_take,List.length_append,Array.length_toList] at hl6
  have hin:i*R.sz+j+1≤cur.size:=by omega
  have hh':w.heap[g]? = some (.cells cur.toList.toArray E (0,0)):=by simpa using k2
  obtain ⟨w',hr,hnew,hc⟩:=eT (P:=P) [c] (i*R.sz+j) 0 cur.toList w hh' (by simp;omega) (by simpa using h1)
  have hsz:¬ ([c].toArray.size≠inf.size):=by simp;omega
  unfold Oper.wp execOp
  simp only [ha.eval,hx,Instr.storeAt,Instr.sureAddr,storeVar,sizeOf,typeInfo,hi,hy,Sem.run_bind,Sem.run_pure,run_program,Result.andThen_ok,hsz,if_false,Sem.run_ite,List.toList_toArray,hr,Oper.upon_skip]
  refine hK' _ _ (hK w' ?_ _ ha)
  refine hS.upd ?_
  intro fp2 hv2 hnd2
  obtain ⟨cap,cur',c1,c3,f1,f3,k1,k2',k3,k4,k5,k6,k7,k8,_,k10,k11,k12,rfl⟩:=hv2
  obtain ⟨rfl⟩:cur'=cur:=by rw [k2] at k2';simpa using k2'.symm
  have hoth:∀ x,x≠g→x<w.heap.size→w'.heap[x]? = w.heap[x]?:=fun x hx hlt=>hc.block x hlt (by simpa using hx)
  have hgn:g∉f1++f3:=(List.nodup_cons.1 hnd2).1
  have hf:∀ b∈f1++f3,w'.heap[b]? = w.heap[b]?:=fun b hb=>hoth b (fun e=>hgn (e ▸ hb)) (k11 b hb)
  refine ⟨g :: (f1++f3),⟨cap,_,c1,c3,f1,f3,k1,hnew,k3,k4,?_,?_,k7,by rw [List.length_set];exact k8,rfl,k10,fun b hb=>?_,fun w'' y' f' ec' he hq=>k12 w'' y' f' ec' (fun b hb=>(he b hb).trans (hf b hb)) hq,rfl⟩,hnd2,hc.mono (by simp),fun b hb=>.inl hb⟩
  ·simp only [List.size_toArray,List.length_append,List.length_take,List.length_drop,Array.length_toList,List.length_singleton,Nat.add_zero]
   omega
  ·have hmul:=Nat.mul_le_mul_right R.sz k10
   rw [Nat.succ_mul] at hmul
   have:=lb cur.toList [c] (i*R.sz+j) 1 (xs.length*R.sz) (by omega) (by simp;have:=Nat.mul_le_mul_right R.sz k3;omega) rfl
   simp only [Nat.add_zero,List.length_singleton] at this ⊢
   rw [this,k6,List.take_append,List.drop_append,List.take_of_length_le (by omega),List.drop_of_length_le (by omega),show i*R.sz+j-c1.length=j by omega,show i*R.sz+j+1-c1.length=j+1 by omega,
    List.take_append_of_le_length (by omega),List.drop_append_of_le_length (by omega),List.set_eq_take_append_cons_drop,if_pos (by omega)]
   simp
  ·have k1:=k11 b hb
   have k2:=hf b hb
   rw [Array.getElem?_eq_getElem k1] at k2
   exact (Array.getElem?_eq_some_iff.1 k2).1
end
theorem zY {α:Type} {x:Operand} {t E':TypeId} [ht:SliceT P t E'] {v:Value} {xs:List α} {g:Nat} {cap:Nat} (hx:ev e x=v) (hv:v=.slice (some ⟨g,0,none⟩) xs.length cap) :
  PV P ⟨d,.call ⟨.builtin .len,#[x],#[t]⟩,ty,pos,af,none⟩ e w (.int .i64 xs.length):=fun w' _=>by
 subst hv
 unfold execOp;simp [resolve,invoke,builtin,hx,Builtin.len_,run_underlying ht.h,goInt]
theorem dt {p:Prop} [Decidable p] (h:decide p=true:=by rfl):p:=of_decide_eq_true h
theorem oB {α β:Type} {C:Prop} {o:Option α} {f:α→Option β} {r:β} (h:o.bind f=some r) (k:∀ x,o=some x→f x=some r→C):C:=by
 obtain ⟨x,h1,h2⟩:=ob h
 exact k x h1 h2
theorem oF {α:Type} {C:Prop} {c:Bool} {x y:Option α} {r:α} (h:(bif c then x else y)=some r) (k1:c=true→x=some r→C) (k2:c=false→y=some r→C):C:=by
 rcases oif h with ⟨h1,h2⟩ | ⟨h1,h2⟩
 ·exact k1 h1 h2
 ·exact k2 h1 h2
theorem oI {α:Type} {a b:α} (h:some a=some b):a=b:=Option.some.inj h
theorem nn {α:Type} {x:α} (h:none=some x):False:=nomatch h
theorem cR {α:Type} {a b:α} (h:a=b) (f:α→Value):Ending.returned (f a)=Ending.returned (f b):=by rw [h]
theorem sP {α:Type} {a b:α} (h:a=b) (f:α→List Asn) (S:Sat w0 w (f a)):Sat w0 w (f b):=by rw [← h];exact S
abbrev pt (b o:Nat):Value:=.pointer (some ⟨b,o,none⟩)
theorem sg (h:∀ Q':Exit→Env→World→Prop,(∀ x e w,thn (fun e w=>CW P n y Q e w) Q x e w→Q' x e w)→CW P n c Q' e w):CW P n (.seq c y) Q e w:=xV (qZ h)
theorem sR {id:Nat} {l:List Oper} (h:∀ Q':Exit→Env→World→Prop,(∀ x e w,thn (fun e w=>CW P n y Q e w) Q x e w→Q' x e w)→EL P n l.toArray (fun e w=>Q' .normal e w) l e w):CW P n (.seq (.region id l.toArray false) y) Q e w:=xV (qZ fun Q' q=>ah (h Q' q))
theorem gn (h:∀ Q':Exit→Env→World→Prop,(∀ x e w,Q x e w→Q' x e w)→CW P n c Q' e w):CW P n c Q e w:=qZ h
theorem bg {i:Nat} (h:∀ Q':Exit→Env→World→Prop,(∀ x e w,inb i Q x e w→Q' x e w)→CW P n c Q' e w):CW P n (.block i c) Q e w:=ze (qZ h)
theorem hq {f:Exit→Env→World→Prop} (h:∀ x e w,f x e w→Q' x e w) (k:f x e w):Q' x e w:=h _ _ _ k
theorem tn (h:∀ x e w,thn K Q x e w→Q' x e w) (k:K e w):Q' .normal e w:=h _ _ _ k
theorem tr (h:∀ x e w,thn K Q x e w→Q' x e w) (k:Q .ret e w):Q' .ret e w:=h _ _ _ k
theorem tx {i:Nat} (h:∀ x e w,thn K Q x e w→Q' x e w) (k:Q (.exit i) e w):Q' (.exit i) e w:=h _ _ _ k
theorem bn {i:Nat} (h:∀ x e w,inb i Q x e w→Q' x e w) (k:Q .normal e w):Q' .normal e w:=h _ _ _ k
theorem br {i:Nat} (h:∀ x e w,inb i Q x e w→Q' x e w) (k:Q .ret e w):Q' .ret e w:=h _ _ _ k
theorem bS {i:Nat} (h:∀ x e w,inb i Q x e w→Q' x e w) (k:Q .normal e w):Q' (.exit i) e w:=h _ _ _ (BZ k)
theorem en (h:∀ x e w,thn K Q x e w→Q' x e w) (k:K e w):EL P n ops (fun e w=>Q' .normal e w) [] e w:=ag (h _ _ _ k)
theorem sn (h:∀ x e w,thn K Q x e w→Q' x e w) (k:K e w):CW P n .skip Q' e w:=aY (h _ _ _ k)
theorem pa (v:Value) (hK:EL P n ops K rest (upd e d v) w) (hx:ev e o=v:=by exact rfl) (hd:d<n:=by decide):EL P n ops K (⟨some d,.assign o,ty,pos,af,none⟩ :: rest) e w:=ms (bW hx) hd hK
theorem pm (v:Value) (hK:EL P n ops K rest (upd e d v) w) (hx:ev e o=v:=by exact rfl) (hd:d<n:=by decide):EL P n ops K (⟨some d,.move o,ty,pos,af,none⟩ :: rest) e w:=ms (aL hx) hd hK
theorem pM (v:Value) (hx:ev e o=v) (hK:EL P n ops K rest (upd e d v) w) (hd:d<n:=by decide):EL P n ops K (⟨some d,.move o,ty,pos,af,none⟩ :: rest) e w:=ms (aL hx) hd hK
theorem pe (v:Value) (hp:PV P ⟨some d,op,ty,pos,af,none⟩ e w v) (hK:EL P n ops K rest (upd e d v) w) (hd:d<n:=by decide):EL P n ops K (⟨some d,op,ty,pos,af,none⟩ :: rest) e w:=ms hp hd hK
theorem qe (v:Value) (hp:PV P ⟨some d,op,ty,pos,af,none⟩ e w v) (hK:QL P n ops w KQ rest (upd e d v)) (hd:d<n:=by decide):QL P n ops w KQ (⟨some d,op,ty,pos,af,none⟩ :: rest) e:=o0 hp hd hK
theorem qm (v:Value) (hK:QL P n ops w KQ rest (upd e d v)) (hx:ev e o=v:=by exact rfl) (hd:d<n:=by decide):QL P n ops w KQ (⟨some d,.move o,ty,pos,af,none⟩ :: rest) e:=o0 (aL hx) hd hK
theorem qM (v:Value) (hx:ev e o=v) (hK:QL P n ops w KQ rest (upd e d v)) (hd:d<n:=by decide):QL P n ops w KQ (⟨some d,.move o,ty,pos,af,none⟩ :: rest) e:=o0 (aL hx) hd hK
theorem eo {j:Nat} {b b' c:Bool} (hc:c=b) (hK:EL P n ops K rest (upd e d undef) w) (h:yld ops e j=some c:=by exact rfl) (hb:(b == b')=false:=by exact rfl) (hd:d<n:=by decide):EL P n ops K (⟨some d,op,ty,pos,af,some (j,b')⟩ :: rest) e w:=BN h hc hb hd hK
theorem qo {j:Nat} {b b' c:Bool} (hc:c=b) (hK:QL P n ops w KQ rest (upd e d undef)) (h:yld ops e j=some c:=by exact rfl) (hb:(b == b')=false:=by exact rfl) (hd:d<n:=by decide):QL P n ops w KQ (⟨some d,op,ty,pos,af,some (j,b')⟩ :: rest) e:=BI h hc hb hd hK
theorem ei {j:Nat} {b c:Bool} {dst:Option Nat} (hc:c=b) (hK:EL P n ops K (⟨dst,op,ty,pos,af,none⟩ :: rest) e w) (h:yld ops e j=some c:=by exact rfl):EL P n ops K (⟨dst,op,ty,pos,af,some (j,b)⟩ :: rest) e w:=BW h hc hK
theorem qi {j:Nat} {b c:Bool} {dst:Option Nat} (hc:c=b) (hK:QL P n ops w KQ (⟨dst,op,ty,pos,af,none⟩ :: rest) e) (h:yld ops e j=some c:=by exact rfl):QL P n ops w KQ (⟨dst,op,ty,pos,af,some (j,b)⟩ :: rest) e:=B1 h hc hK
theorem ct {b:Bool} (hb:b=true) (h:CW P n c Q e w) (hc:ev e o=.bool b:=by exact rfl):CW P n (.cond o c y) Q e w:=xu hc hb h
theorem cf {b:Bool} (hb:b=false) (h:CW P n y Q e w) (hc:ev e o=.bool b:=by exact rfl):CW P n (.cond o c y) Q e w:=x5 hc hb h
theorem rB {a b:Bool} {Γ:List Asn} (h:some a=some b) (hS:Sat w0 w Γ):Ending.returned (.bool a)=.returned (.bool b)∧Ext w0 w:=⟨by rw [Option.some.inj h],hS.below⟩
theorem rI {a b:Int} {Γ:List Asn} (h:some a=some b) (hS:Sat w0 w Γ):Ending.returned (.int .i64 a)=.returned (.int .i64 b)∧Ext w0 w:=⟨by rw [Option.some.inj h],hS.below⟩
abbrev i_ (x:Int):Value:=.int .i64 x
abbrev n_:Value:=.slice none 0 0
theorem ec0 {f:FuncId} {args:Array Operand} {tys:Array TypeId} {vals:Array Value} {Γ:List Asn} (hg:Goes P f) (hc:Calls P f vals w fun x w'=>x=.returned v∧Ext w w') (hv:(args.toList.map (ev e)).toArray=vals) (S:Sat w0 w Γ)
  (hK:∀ w',Ext w w'→Sat w0 w' Γ→EL P n ops K rest (upd e d v) w') (hd:d<n:=by decide):EL P n ops K (⟨some d,.call ⟨.value (.func f),args,tys⟩,ty,pos,af,none⟩ :: rest) e w :=
 aJ hg hc hv hd (by rintro _ w' ⟨rfl,hx⟩;exact ⟨_,rfl,hK w' hx (S.ext hx)⟩)
theorem ec1 {f:FuncId} {args:Array Operand} {tys:Array TypeId} {vals:Array Value} {Γ:List Asn} {G:Value→Value} {A:Value→Asn} (hg:Goes P f) (hc:Calls P f vals w fun x w'=>∃ v,x=.returned (G v)∧Sat w w' [A v]) (hv:(args.toList.map (ev e)).toArray=vals) (S:Sat w0 w Γ)
  (hK:∀ w' v,Ext w w'→Sat w0 w' (A v :: Γ)→EL P n ops K rest (upd e d (G v)) w') (hd:d<n:=by decide):EL P n ops K (⟨some d,.call ⟨.value (.func f),args,tys⟩,ty,pos,af,none⟩ :: rest) e w :=
 aJ hg hc hv hd (by rintro _ w' ⟨v,rfl,S'⟩;exact ⟨_,rfl,hK w' v S'.below (S.call1 S')⟩)
theorem aO {X:List Nat} {C:World→Prop} (i:Nat) {f:Nat} {L:Array Bool} (ho:ops[i]? = some q1)
  (h:EL P n ops (fun e' w'=>(X.contains i=true→C w')∧AL P n ops X C K f (L.setIfInBounds i true) e' w') [q1] e w) (hr:Region.ready .any ops L=[i]:=by kernel_rfl):AL P n ops X C K (f+1) L e w:=A7 i hr ho h
theorem aP {X:List Nat} {C:World→Prop} (v:Value) (i:Nat) {f:Nat} {L:Array Bool} (hi:ops[i]? = some q1) (hdst:q1.dst=some d) (hC:C w)
  (hy:SV P n ops C q1 e v) (hK:AL P n ops X C K f (L.setIfInBounds i true) (upd e d v) w) (hsel:kZ ops=true:=by kernel_rfl) (hdn:d<n:=by decide) (hf:mJ ops X L i q1=true:=by kernel_rfl) (hr:(Region.ready .any ops L).contains i=true:=by kernel_rfl):AL P n ops X C K (f+1) L e w:=wH hsel i hi hdst hdn hC hf hr hy hK
theorem ca {α β:Type} {f:α→β} {l:List α} {m:List β} (h:l.map f=m):(l.map f).toArray=m.toArray:=congrArg List.toArray h
theorem Sat.t1 {a0 a1:Asn} {Γ:List Asn} (h:Sat w0 w (a0 :: a1 :: Γ)):Sat w0 w (a1 :: a0 :: Γ):=h.top 1 rfl
theorem Sat.t2 {a0 a1 a2:Asn} {Γ:List Asn} (h:Sat w0 w (a0 :: a1 :: a2 :: Γ)):Sat w0 w (a2 :: a0 :: a1 :: Γ):=h.top 2 rfl
theorem Sat.t3 {a0 a1 a2 a3:Asn} {Γ:List Asn} (h:Sat w0 w (a0 :: a1 :: a2 :: a3 :: Γ)):Sat w0 w (a3 :: a0 :: a1 :: a2 :: Γ):=h.top 3 rfl
theorem Sat.t4 {a0 a1 a2 a3 a4:Asn} {Γ:List Asn} (h:Sat w0 w (a0 :: a1 :: a2 :: a3 :: a4 :: Γ)):Sat w0 w (a4 :: a0 :: a1 :: a2 :: a3 :: Γ):=h.top 4 rfl
theorem Sat.t5 {a0 a1 a2 a3 a4 a5:Asn} {Γ:List Asn} (h:Sat w0 w (a0 :: a1 :: a2 :: a3 :: a4 :: a5 :: Γ)):Sat w0 w (a5 :: a0 :: a1 :: a2 :: a3 :: a4 :: Γ):=h.top 5 rfl
theorem Sat.t6 {a0 a1 a2 a3 a4 a5 a6:Asn} {Γ:List Asn} (h:Sat w0 w (a0 :: a1 :: a2 :: a3 :: a4 :: a5 :: a6 :: Γ)):Sat w0 w (a6 :: a0 :: a1 :: a2 :: a3 :: a4 :: a5 :: Γ):=h.top 6 rfl
theorem Sat.t7 {a0 a1 a2 a3 a4 a5 a6 a7:Asn} {Γ:List Asn} (h:Sat w0 w (a0 :: a1 :: a2 :: a3 :: a4 :: a5 :: a6 :: a7 :: Γ)):Sat w0 w (a7 :: a0 :: a1 :: a2 :: a3 :: a4 :: a5 :: a6 :: Γ):=h.top 7 rfl
theorem Sat.t8 {a0 a1 a2 a3 a4 a5 a6 a7 a8:Asn} {Γ:List Asn} (h:Sat w0 w (a0 :: a1 :: a2 :: a3 :: a4 :: a5 :: a6 :: a7 :: a8 :: Γ)):Sat w0 w (a8 :: a0 :: a1 :: a2 :: a3 :: a4 :: a5 :: a6 :: a7 :: Γ):=h.top 8 rfl
theorem Sat.t10 {a0 a1 a2 a3 a4 a5 a6 a7 a8 a9 a10:Asn} {Γ:List Asn} (h:Sat w0 w (a0 :: a1 :: a2 :: a3 :: a4 :: a5 :: a6 :: a7 :: a8 :: a9 :: a10 :: Γ)):Sat w0 w (a10 :: a0 :: a1 :: a2 :: a3 :: a4 :: a5 :: a6 :: a7 :: a8 :: a9 :: Γ):=h.top 10 rfl
theorem Sat.r0 {a0:Asn} {Γ:List Asn} (h:Sat w0 w (a0 :: Γ)):Sat w0 w (Γ):=h.rem 0 rfl
theorem Sat.r1 {a0 a1:Asn} {Γ:List Asn} (h:Sat w0 w (a0 :: a1 :: Γ)):Sat w0 w (a0 :: Γ):=h.rem 1 rfl
theorem Sat.r2 {a0 a1 a2:Asn} {Γ:List Asn} (h:Sat w0 w (a0 :: a1 :: a2 :: Γ)):Sat w0 w (a0 :: a1 :: Γ):=h.rem 2 rfl
theorem Sat.r3 {a0 a1 a2 a3:Asn} {Γ:List Asn} (h:Sat w0 w (a0 :: a1 :: a2 :: a3 :: Γ)):Sat w0 w (a0 :: a1 :: a2 :: Γ):=h.rem 3 rfl
theorem Sat.r4 {a0 a1 a2 a3 a4:Asn} {Γ:List Asn} (h:Sat w0 w (a0 :: a1 :: a2 :: a3 :: a4 :: Γ)):Sat w0 w (a0 :: a1 :: a2 :: a3 :: Γ):=h.rem 4 rfl
theorem Sat.r5 {a0 a1 a2 a3 a4 a5:Asn} {Γ:List Asn} (h:Sat w0 w (a0 :: a1 :: a2 :: a3 :: a4 :: a5 :: Γ)):Sat w0 w (a0 :: a1 :: a2 :: a3 :: a4 :: Γ):=h.rem 5 rfl
theorem Sat.r6 {a0 a1 a2 a3 a4 a5 a6:Asn} {Γ:List Asn} (h:Sat w0 w (a0 :: a1 :: a2 :: a3 :: a4 :: a5 :: a6 :: Γ)):Sat w0 w (a0 :: a1 :: a2 :: a3 :: a4 :: a5 :: Γ):=h.rem 6 rfl
theorem Sat.r7 {a0 a1 a2 a3 a4 a5 a6 a7:Asn} {Γ:List Asn} (h:Sat w0 w (a0 :: a1 :: a2 :: a3 :: a4 :: a5 :: a6 :: a7 :: Γ)):Sat w0 w (a0 :: a1 :: a2 :: a3 :: a4 :: a5 :: a6 :: Γ):=h.rem 7 rfl
theorem Sat.r8 {a0 a1 a2 a3 a4 a5 a6 a7 a8:Asn} {Γ:List Asn} (h:Sat w0 w (a0 :: a1 :: a2 :: a3 :: a4 :: a5 :: a6 :: a7 :: a8 :: Γ)):Sat w0 w (a0 :: a1 :: a2 :: a3 :: a4 :: a5 :: a6 :: a7 :: Γ):=h.rem 8 rfl
theorem Sat.r9 {a0 a1 a2 a3 a4 a5 a6 a7 a8 a9:Asn} {Γ:List Asn} (h:Sat w0 w (a0 :: a1 :: a2 :: a3 :: a4 :: a5 :: a6 :: a7 :: a8 :: a9 :: Γ)):Sat w0 w (a0 :: a1 :: a2 :: a3 :: a4 :: a5 :: a6 :: a7 :: a8 :: Γ):=h.rem 9 rfl
theorem Sat.r10 {a0 a1 a2 a3 a4 a5 a6 a7 a8 a9 a10:Asn} {Γ:List Asn} (h:Sat w0 w (a0 :: a1 :: a2 :: a3 :: a4 :: a5 :: a6 :: a7 :: a8 :: a9 :: a10 :: Γ)):Sat w0 w (a0 :: a1 :: a2 :: a3 :: a4 :: a5 :: a6 :: a7 :: a8 :: a9 :: Γ):=h.rem 10 rfl
end
abbrev R0_:=aB bI 3
abbrev R1_:=aB iY 9
abbrev R3_:=aB R0_ 30
abbrev R4_:=mj iY R0_
abbrev R6_:=mj R0_ R0_
abbrev R7_:=mj bI R3_
abbrev R8_:=aB R4_ 112
abbrev R9_:=aB R6_ 74
abbrev lX:=mj iY R7_
abbrev jo:=aB R7_ 167
abbrev bH:=aB lX 164
abbrev T0_:=List Int
abbrev T2_:=List Int × List Int
abbrev T3_:=ByteArray × List Int
abbrev T4_:=Int × List T0_
abbrev T5_:=List T2_
abbrev T6_:=ByteArray × T4_
abbrev T7_:=List Int × List T2_
abbrev T8_:=List T6_
abbrev T9_:=Int × List T3_ × List Int
section
set_option maxRecDepth 100000
set_option maxHeartbeats 4000000
theorem uR {w0:World} {u0:Value} {a0:List Int} (ha0:(aB u8R 5).rd w0 [u0] a0) {N:Nat} {r:Bool} (F:nL N a0=some r): Calls Try.prog 6 #[u0] w0 fun e w'=>e=.returned (.bool r)∧Ext w0 w' := by
 unfold nL at F;refine aK Try.func6 rfl rfl dt ?_;have S:=Sat.start w0;refine sR fun _ J=>pa (.bool false) (en J (sR fun _ U=>pm u0 (pe (i_ (a0.length:Int)) (au rfl ha0) (pe (.bool (decide (1048576 < (a0.length:Int)))) (bV rfl rfl) (pa (.bool (decide (1048576 < (a0.length:Int)))) (en U (ak (aN rfl rfl ?_))))))));exact rB F S
theorem nY {w0:World} {u0:Value} {a0:List Int} (ha0:(aB u8R 5).rd w0 [u0] a0) {N:Nat} {r:Int × Int} (F:ju N a0=some r): Calls Try.prog 34 #[u0] w0 fun e w'=>∃ (q0:Nat),e=.returned (pt q0 0)∧Sat w0 w' [Box q0 101 [u0,i_ r.1,i_ r.2]] := by
 unfold ju at F;refine aK Try.func34 rfl rfl dt ?_;have S:=Sat.start w0;refine sR fun _ CA=>pa (.pointer none) (en CA (sR fun _ CB=>pm u0 (pe (i_ (a0.length:Int)) (au rfl ha0) (oB F fun Cj Cs F=>pe (i_ Cj) (aE rfl rfl Cs) (pa (i_ Cj) (en CB (sg fun _ Co=>sR fun _ CC=>pa (i_ 0) (en CC (bg fun _ Cp=>?_)))))))));obtain ⟨CD,hL,Cn⟩:=ob F;refine aI (fun k e w=>∃ (J:Int),∃ (U:Int),e 0=u0∧e 3=i_ J∧e 4=i_ U∧Sat w0 w []∧f8 N k a0 J U=some CD) N ?_ ?_ ?_
 ·exact ⟨Cj,0,rfl,rfl,rfl,S,hL⟩
 ·rintro e w ⟨_,_,_,_,_,_,hz⟩; exact nn hz
 rintro k CN CO ⟨J,U,Z,Ce,Cd,S,F⟩;refine gn fun _ Ck=>sg fun _ Cl=>sR fun _ Cq=>pM (i_ U) Cd (pM u0 Z (pe (i_ (a0.length:Int)) (au rfl ha0) (pe (.bool (decide (U < (a0.length:Int)))) (aW rfl rfl) (pm (.bool (decide (U < (a0.length:Int)))) (oF F (fun Y F=>?_) fun Y F=>?_)))))
 ·refine ei Y (pM (i_ U) Cd (ei Y (pe (.bool (decide (U < 4000))) (aW rfl rfl) (pe (.bool (decide (U < 4000))) (az rfl Y rfl) (en Cq (oF F (fun Cf F=>?_) fun Cf F=>?_))))))
  ·refine ct Cf (sn Cl (sg fun _ CE=>bg fun _ CF=>ah (pM (i_ J) Ce (oB F fun CG Ct F=>pe (i_ CG) (qE rfl rfl Ct) (pM u0 Z (pM (i_ U) Cd (oB F fun Cr Cu F=>?_)))))));refine aD (wA:=w0) rfl ha0 rfl dt rfl Cu dt ?_;intro CP CK CQ Cv Cw;obtain rfl:=Cv;refine pe (.int .u8 Cr) (ae rfl ((aj S.below Cw) 0 _ rfl)) (pe (i_ (IntKind.i64.wrap Cr)) (ub Try.underlying5 Try.underlying3 rfl) (oB F fun CH Cx F=>pe (i_ CH) (aE rfl rfl Cx) (oB F fun Cg Cy F=>pe (i_ Cg) (aE rfl rfl Cy) (pe (i_ (fD Cg 1073741823)) (uA rfl rfl) (pa (i_ (fD Cg 1073741823)) (ag (bn CF (tn CE (ah (pM (i_ U) Cd (oB F fun Cm Cz F=>pe (i_ Cm) (aE rfl rfl Cz) (pa (i_ Cm) (en Ck ?_)))))))))))));replace S:=S.keep 0;exact ⟨(fD Cg 1073741823),Cm,Z,rfl,rfl,S,F⟩
  refine cf Cf (aH (tx Cl (tx Ck ?_)));replace F:=exB F Cn;refine bS Cp (tn Co (sR fun _ CI=>pM u0 Z (pM (i_ J) Ce (pe (.agg #[u0,i_ 0,i_ J]) (bp [(0,[u0]),(2,[i_ J])] [u0,i_ 0,i_ J] (cQ (aV rfl (oc ha0)) (cQ rfl rfl)) rfl) ?_))));refine bB [u0,i_ 0,i_ J] rfl S dt ?_;intro CR Ch S CL;refine pa (pt Ch 0) (en CI (ak (aN rfl rfl ?_)));have hr:=oI F;exact ⟨Ch,cR hr fun r=>.pointer (some ⟨Ch,0,none⟩),sP hr (fun r=>[Box Ch 101 [u0,i_ r.1,i_ r.2]]) (S.keep 1)⟩
 refine eo Y (eo Y (pe (.bool false) (aC rfl Y rfl) (en Cq (cf rfl (aH (tx Cl (tx Ck ?_)))))));replace F:=exB F Cn;refine bS Cp (tn Co (sR fun _ CJ=>pM u0 Z (pM (i_ J) Ce (pe (.agg #[u0,i_ 0,i_ J]) (bp [(0,[u0]),(2,[i_ J])] [u0,i_ 0,i_ J] (cQ (aV rfl (oc ha0)) (cQ rfl rfl)) rfl) ?_))));refine bB [u0,i_ 0,i_ J] rfl S dt ?_;intro CS Ci S CM;refine pa (pt Ci 0) (en CJ (ak (aN rfl rfl ?_)));have hr:=oI F;exact ⟨Ci,cR hr fun r=>.pointer (some ⟨Ci,0,none⟩),sP hr (fun r=>[Box Ci 101 [u0,i_ r.1,i_ r.2]]) (S.keep 1)⟩
theorem iv {w0:World} {Z:World} {G0:List Asn} {b0:Nat} {u0:Value} {a0:List Int} {a1:Int} {a2:Int} (ha0:(aB u8R 5).rd Z [u0] a0) (S:Sat Z w0 (Box b0 101 [u0,i_ a1,i_ a2] :: G0)) {N:Nat} {r:Int × Int × Int} (F:fT N a0 a1 a2=some r): Calls Try.prog 108 #[.pointer (some ⟨b0,0,none⟩)] w0 fun e w'=>e=.returned (i_ r.1)∧Sat Z w' (Box b0 101 [u0,i_ r.2.1,i_ r.2.2] :: G0) := by
 unfold fT at F;refine aK Try.func108 rfl rfl dt ?_;refine sR fun _ Co=>pa (i_ 0) (en Co (sR fun _ Cp=>pm (pt b0 0) (pm (pt b0 0) (pe (pt b0 0) (cX rfl) (pe (pt b0 (0 + 2)) (ac rfl) (pe (i_ a2) (ae rfl ((S.boxAt 0 rfl) 2 _ rfl)) (pe (i_ (IntKind.i64.wrap (a2 * 6364136223846793005))) (AE rfl rfl) (pe (i_ (IntKind.i64.wrap ((IntKind.i64.wrap (a2 * 6364136223846793005)) + 1442695040888963407))) (ss rfl rfl) (pe (pt b0 0) (cX rfl) (pe (pt b0 (0 + 2)) (ac rfl) ?_))))))))));refine am (S.top 0 rfl) rfl [i_ (IntKind.i64.wrap ((IntKind.i64.wrap (a2 * 6364136223846793005)) + 1442695040888963407))] rfl rfl dt (all_cons rfl rfl) ?_;intro Cq S;replace S:Sat Z Cq (Box b0 101 [u0,i_ a1,i_ (IntKind.i64.wrap ((IntKind.i64.wrap (a2 * 6364136223846793005)) + 1442695040888963407))] :: G0):=S;refine en Cp (sg fun _ Cr=>?_);refine bz (by kernel_rfl) (by kernel_rfl) ?_;refine qm (pt b0 0) (qe (pt b0 0) (cX rfl) (qe (pt b0 (0 + 2)) (ac rfl) (qe (i_ (IntKind.i64.wrap ((IntKind.i64.wrap (a2 * 6364136223846793005)) + 1442695040888963407))) (ae rfl ((S.boxAt 0 rfl) 2 _ rfl)) (oB F fun J Cg F=>qe (i_ J) (yd rfl rfl Cg) (qm (pt b0 0) (qe (pt b0 0) (cX rfl) (qe (pt b0 (0 + 2)) (ac rfl) (qe (i_ (IntKind.i64.wrap ((IntKind.i64.wrap (a2 * 6364136223846793005)) + 1442695040888963407))) (ae rfl ((S.boxAt 0 rfl) 2 _ rfl)) (oB F fun U Ch F=>qe (i_ U) (yd rfl rfl Ch) (qe (i_ (i9 J U)) (Bv rfl rfl) (qe (i_ (fD (i9 J U) 255)) (uA rfl rfl) (qe (i_ (fD (i9 J U) 255)) (bW rfl) (aZ ?_)))))))))))));intro Cy Ci;replace S:=S.ext Ci;refine tn Cr (sg fun _ Ce=>sg fun _ Cs=>?_);refine bz (by kernel_rfl) (by kernel_rfl) ?_;refine qm (pt b0 0) (qe (pt b0 0) (cX rfl) (qe (pt b0 (0 + 1)) (ac rfl) (qe (i_ a1) (ae rfl ((S.boxAt 0 rfl) 1 _ rfl)) (qm (pt b0 0) (qe (pt b0 0) (cX rfl) (qe (pt b0 (0 + 0)) (ac rfl) (qe u0 (ae rfl ((S.boxAt 0 rfl) 0 _ rfl)) (qe (i_ (a0.length:Int)) (au rfl ha0) (qe (.bool (decide (a1 < (a0.length:Int)))) (aW rfl rfl) (aZ ?_))))))))));intro Ct Cj;replace S:=S.ext Cj;refine tn Cs (oF F (fun Cd F=>?_) fun Cd F=>?_)
 ·refine ct Cd (sg fun _ Cu=>?_);refine bz (by kernel_rfl) (by kernel_rfl) ?_;refine qm (i_ (fD (i9 J U) 255)) (qm (pt b0 0) (qe (pt b0 0) (cX rfl) (qe (pt b0 (0 + 0)) (ac rfl) (qe u0 (ae rfl ((S.boxAt 0 rfl) 0 _ rfl)) (qm (pt b0 0) (qe (pt b0 0) (cX rfl) (qe (pt b0 (0 + 1)) (ac rfl) (qe (i_ a1) (ae rfl ((S.boxAt 0 rfl) 1 _ rfl)) (oB F fun Y Ck F=>?_)))))))));refine aT (wA:=Z) rfl ha0 rfl dt rfl Ck dt ?_;intro Cz Cx CA Cl Cm;obtain rfl:=Cl;refine qe (.int .u8 Y) (ae rfl ((aj S.below Cm) 0 _ rfl)) (qe (i_ (IntKind.i64.wrap Y)) (ub Try.underlying5 Try.underlying3 rfl) (qe (i_ (IntKind.i64.wrap ((fD (i9 J U) 255) + (IntKind.i64.wrap Y)))) (ss rfl rfl) (qe (i_ (fD (IntKind.i64.wrap ((fD (i9 J U) 255) + (IntKind.i64.wrap Y))) 255)) (uA rfl rfl) (qe (i_ (fD (IntKind.i64.wrap ((fD (i9 J U) 255) + (IntKind.i64.wrap Y))) 255)) (bW rfl) (aZ ?_)))));intro CB Cn;replace S:=S.ext Cn;refine tn Cu (ah (pm (pt b0 0) (pm (pt b0 0) (pe (pt b0 0) (cX rfl) (pe (pt b0 (0 + 1)) (ac rfl) (pe (i_ a1) (ae rfl ((S.boxAt 0 rfl) 1 _ rfl)) (pe (i_ (IntKind.i64.wrap (a1 + 1))) (ss rfl rfl) (pe (pt b0 0) (cX rfl) (pe (pt b0 (0 + 1)) (ac rfl) ?_)))))))));refine am (S.top 0 rfl) rfl [i_ (IntKind.i64.wrap (a1 + 1))] rfl rfl dt (all_cons rfl rfl) ?_;intro Cf S;replace S:Sat Z Cf (Box b0 101 [u0,i_ (IntKind.i64.wrap (a1 + 1)),i_ (IntKind.i64.wrap ((IntKind.i64.wrap (a2 * 6364136223846793005)) + 1442695040888963407))] :: G0):=S;refine en Ce (sR fun _ Cv=>pm (i_ (fD (IntKind.i64.wrap ((fD (i9 J U) 255) + (IntKind.i64.wrap Y))) 255)) (pa (i_ (fD (IntKind.i64.wrap ((fD (i9 J U) 255) + (IntKind.i64.wrap Y))) 255)) (en Cv (ak (aN rfl rfl ?_)))));have hr:=oI F;exact ⟨(cR hr fun r=>i_ r.1 :),Eq.mp (congrArg (fun (r:Int × Int × Int)=>Sat Z Cf (Box b0 101 [u0,i_ r.2.1,i_ r.2.2] :: G0)) hr :) S⟩
 refine cf Cd (sn Ce (sR fun _ Cw=>pm (i_ (fD (i9 J U) 255)) (pa (i_ (fD (i9 J U) 255)) (en Cw (ak (aN rfl rfl ?_))))));have hr:=oI F;exact ⟨(cR hr fun r=>i_ r.1 :),Eq.mp (congrArg (fun (r:Int × Int × Int)=>Sat Z Ct (Box b0 101 [u0,i_ r.2.1,i_ r.2.2] :: G0)) hr :) S⟩
theorem bf {w0:World} {J:World} {G0:List Asn} {b0:Nat} {u0:Value} {a0:List Int} {a1:Int} {a2:Int} {a3:Int} (ha0:(aB u8R 5).rd J [u0] a0) (S:Sat J w0 (Box b0 101 [u0,i_ a1,i_ a2] :: G0)) {N:Nat} {r:Int × Int × Int} (F:bm N a0 a1 a2 a3=some r): Calls Try.prog 67 #[.pointer (some ⟨b0,0,none⟩),i_ a3] w0 fun e w'=>e=.returned (i_ r.1)∧Sat J w' (Box b0 101 [u0,i_ r.2.1,i_ r.2.2] :: G0) := by
 unfold bm at F;refine aK Try.func67 rfl rfl dt ?_;refine sR fun _ CA=>pa (i_ 0) (en CA (sg fun _ Cg=>sR fun _ CB=>pm (i_ a3) (pe (.bool (decide (a3 ≤ 0))) (lh rfl rfl) (en CB (oF F (fun U F=>?_) fun U F=>?_)))))
 ·refine ct U (sR fun _ CC=>pa (i_ 0) (en CC (ak (tr Cg (aN rfl rfl ?_)))));have hr:=oI F;exact ⟨(cR hr fun r=>i_ r.1 :),Eq.mp (congrArg (fun (r:Int × Int × Int)=>Sat J w0 (Box b0 101 [u0,i_ r.2.1,i_ r.2.2] :: G0)) hr :) S⟩
 refine cf U (sn Cg (sg fun _ Ch=>sR fun _ CD=>pm (i_ a3) (pe (.bool (decide (a3 ≤ 256))) (lh rfl rfl) (en CD (oF F (fun Y F=>?_) fun Y F=>?_)))))
 ·refine ct Y (sR fun _ CE=>pm (pt b0 0) (oB F fun Ci Cn F=>?_));refine aJ mT (iv ha0 S Cn) (ca (ai rfl rfl)) dt ?_;rintro _ Cj ⟨rfl,S⟩;refine ⟨_,rfl,?_⟩;replace S:Sat J Cj (Box b0 101 [u0,i_ Ci.2.1,i_ Ci.2.2] :: G0):=S;refine pm (i_ a3) (oB F fun Ck Co F=>pe (i_ Ck) (oL rfl rfl Co) (pa (i_ Ck) (en CE (ak (tr Ch (aN rfl rfl ?_))))));have hr:=oI F;exact ⟨(cR hr fun r=>i_ r.1 :),Eq.mp (congrArg (fun (r:Int × Int × Int)=>Sat J Cj (Box b0 101 [u0,i_ r.2.1,i_ r.2.2] :: G0)) hr :) S⟩
 refine cf Y (sn Ch (sR fun _ CF=>pm (pt b0 0) (oB F fun Z Cp F=>?_)));refine aJ mT (iv ha0 S Cp) (ca (ai rfl rfl)) dt ?_;rintro _ CG ⟨rfl,S⟩;refine ⟨_,rfl,?_⟩;replace S:Sat J CG (Box b0 101 [u0,i_ Z.2.1,i_ Z.2.2] :: G0):=S;refine pa (i_ Z.1) (en CF (sR fun _ CH=>pm (pt b0 0) (oB F fun Cd Cq F=>?_)));refine aJ mT (iv ha0 S Cq) (ca (ai rfl rfl)) dt ?_;rintro _ CI ⟨rfl,S⟩;refine ⟨_,rfl,?_⟩;replace S:Sat J CI (Box b0 101 [u0,i_ Cd.2.1,i_ Cd.2.2] :: G0):=S;refine pa (i_ Cd.1) (en CH (sR fun _ CJ=>pm (pt b0 0) (oB F fun Ce Cr F=>?_)));refine aJ mT (iv ha0 S Cr) (ca (ai rfl rfl)) dt ?_;rintro _ CK ⟨rfl,S⟩;refine ⟨_,rfl,?_⟩;replace S:Sat J CK (Box b0 101 [u0,i_ Ce.2.1,i_ Ce.2.2] :: G0):=S;refine pa (i_ Ce.1) (en CJ (sR fun _ CL=>pm (pt b0 0) (oB F fun Cf Cs F=>?_)));refine aJ mT (iv ha0 S Cs) (ca (ai rfl rfl)) dt ?_;rintro _ Cl ⟨rfl,S⟩;refine ⟨_,rfl,?_⟩;replace S:Sat J Cl (Box b0 101 [u0,i_ Cf.2.1,i_ Cf.2.2] :: G0):=S;refine pa (i_ Cf.1) (en CL (sR fun _ CM=>pm (i_ Z.1) (oB F fun CN Ct F=>pe (i_ CN) (qE rfl rfl Ct) (pm (i_ Cd.1) (oB F fun CO Cu F=>pe (i_ CO) (qE rfl rfl Cu) (oB F fun CP Cv F=>pe (i_ CP) (aE rfl rfl Cv) (pm (i_ Ce.1) (oB F fun CQ Cw F=>pe (i_ CQ) (qE rfl rfl Cw) (oB F fun CR Cx F=>pe (i_ CR) (aE rfl rfl Cx) (pm (i_ Cf.1) (oB F fun CS Cy F=>pe (i_ CS) (aE rfl rfl Cy) (pm (i_ a3) (oB F fun Cm Cz F=>pe (i_ Cm) (oL rfl rfl Cz) (pa (i_ Cm) (en CM (ak (aN rfl rfl ?_)))))))))))))))));have hr:=oI F;exact ⟨(cR hr fun r=>i_ r.1 :),Eq.mp (congrArg (fun (r:Int × Int × Int)=>Sat J Cl (Box b0 101 [u0,i_ r.2.1,i_ r.2.2] :: G0)) hr :) S⟩
theorem eu {w0:World} {U:World} {G0:List Asn} {b0:Nat} {u0:Value} {a0:List Int} {a1:Int} {a2:Int} {u3:Value} {a3:List Int} (ha0:(aB u8R 5).rd U [u0] a0) (S:Sat U w0 (Box b0 101 [u0,i_ a1,i_ a2] :: Own R0_ [u3] a3 :: G0)) {N:Nat} {r:Int × Int × Int} (F:dn N a0 a1 a2 a3=some r): Calls Try.prog 56 #[.pointer (some ⟨b0,0,none⟩),u3] w0 fun e w'=>e=.returned (i_ r.1)∧Sat U w' (Box b0 101 [u0,i_ r.2.1,i_ r.2.2] :: G0) := by
 unfold dn at F;refine aK Try.func56 rfl rfl dt ?_;refine sR fun _ Cg=>pa (i_ 0) (en Cg (sR fun _ Ch=>pm u3 (pm (pt b0 0) (pm u3 (pe (i_ (a3.length:Int)) (au rfl (S.rdAt (R:=R0_) 1 rfl)) (oB F fun Y Cf F=>?_))))));refine aJ du (bf ha0 S Cf) (ca (ai rfl (ai rfl rfl))) dt ?_;rintro _ Cd ⟨rfl,S⟩;refine ⟨_,rfl,?_⟩;replace S:Sat U Cd (Box b0 101 [u0,i_ Y.2.1,i_ Y.2.2] :: Own R0_ [u3] a3 :: G0):=S;refine oB F fun Ce J F=>?_;obtain ⟨Ci,Cj,Z⟩:=bk 1 S rfl J;refine pe (pt Ci (Y.1.toNat * 1)) (be (v:=u3) rfl Z rfl J) (pe (i_ Ce) (ae rfl (S.ownCell 1 rfl Z J)) (pa (i_ Ce) (en Ch (ak (aN rfl rfl ?_)))));have hr:=oI F;replace S:=S.r1;exact ⟨(cR hr fun r=>i_ r.1 :),Eq.mp (congrArg (fun (r:Int × Int × Int)=>Sat U Cd (Box b0 101 [u0,i_ r.2.1,i_ r.2.2] :: G0)) hr :) S⟩
theorem jR {w0:World} {Z:World} {G0:List Asn} {b0:Nat} {u0:Value} {a0:List Int} {a1:Int} {a2:Int} {a3:Int} {a4:Int} (ha0:(aB u8R 5).rd Z [u0] a0) (S:Sat Z w0 (Box b0 101 [u0,i_ a1,i_ a2] :: G0)) {N:Nat} {r:T0_ × Int × Int} (F:fS N a0 a1 a2 a3 a4=some r): Calls Try.prog 75 #[.pointer (some ⟨b0,0,none⟩),i_ a3,i_ a4] w0 fun e w'=>∃ (q0:Value),e=.returned (q0)∧Sat Z w' (Own R0_ [q0] r.1 :: Box b0 101 [u0,i_ r.2.1,i_ r.2.2] :: G0) := by
 unfold fS at F;refine aK Try.func75 rfl rfl dt ?_;refine sR fun _ Cs=>pa n_ (en Cs (sR fun _ Ct=>?_));refine aQ bI S dt ?_;intro CF Cl S CD;refine pa Cl (en Ct (sg fun _ Cu=>bg fun _ Cv=>?_));obtain ⟨Cw,hL,Cp⟩:=ob F;refine aI (fun k e w=>∃ (Cf:Int),∃ (Cg:Int),∃ (J:Value),∃ (U:List Int),e 0=pt b0 0∧e 1=i_ a3∧e 2=i_ a4∧e 7=J∧Sat Z w (Own R0_ [J] U :: Box b0 101 [u0,i_ Cf,i_ Cg] :: G0)∧gL N k a0 Cf Cg a3 a4 U=some Cw) N ?_ ?_ ?_
 ·exact ⟨a1,a2,Cl,[],rfl,rfl,rfl,rfl,S,hL⟩
 ·rintro e w ⟨_,_,_,_,_,_,_,_,_,hz⟩; exact nn hz
 rintro k CG Cx ⟨Cf,Cg,J,U,Ch,Ci,Cj,Cd,S,F⟩;refine gn fun _ Cm=>sg fun _ Cn=>sR fun _ Cy=>pM J Cd (pe (i_ (U.length:Int)) (au rfl (S.rdAt (R:=R0_) 0 rfl)) (pM (i_ a3) Ci (pe (.bool (decide ((U.length:Int) < a3))) (aW rfl rfl) (en Cy (oF F (fun Ce F=>?_) fun Ce F=>?_)))))
 ·refine ct Ce (sn Cn (bg fun _ Cz=>ah (pM J Cd (pM (pt b0 0) Ch (pM (i_ a4) Cj ?_)))));replace S:=S.t1;refine oB F fun Y Cq F=>?_;refine aJ du (bf ha0 S Cq) (ca (ai rfl (ai rfl rfl))) dt ?_;rintro _ CA ⟨rfl,S⟩;refine ⟨_,rfl,?_⟩;replace S:Sat Z CA (Box b0 101 [u0,i_ Y.2.1,i_ Y.2.2] :: Own R0_ [J] U :: G0):=S;refine aw [i_ Y.1] rfl (by rfl) dt rfl dt S dt ?_;intro CH CI S CE;refine oB F fun CB Cr F=>?_;have Ck:=S.boxRow 0 rfl;replace S:=S.t2;replace S:=S.int Y.1;replace S:=S.one;refine aA rfl dt rfl dt S rfl rfl rfl (by simp) Ck Cr dt ?_;intro CJ Co S;refine pa Co (ag (bn Cz (tn Cm ?_)));replace S:=S.t2.t1;replace S:=S.r2;exact ⟨Y.2.1,Y.2.2,Co,CB,Ch,Ci,Cj,rfl,S,F⟩
 refine cf Ce (aH (tx Cn (tx Cm ?_)));replace F:=exB F Cp;refine bS Cv (tn Cu (sR fun _ CC=>pM J Cd (pa J (en CC (ak (aN rfl rfl ?_))))));have hr:=oI F;exact ⟨J,(cR hr fun r=>J :),Eq.mp (congrArg (fun (r:T0_ × Int × Int)=>Sat Z Cx (Own R0_ [J] r.1 :: Box b0 101 [u0,i_ r.2.1,i_ r.2.2] :: G0)) hr :) S⟩
theorem dl {w0:World} {a0:Int} {a1:Int} {a2:Int}  {N:Nat} {r:Bool} (F:dr N a0 a1 a2=some r): Calls Try.prog 52 #[i_ a0,i_ a1,i_ a2] w0 fun e w'=>e=.returned (.bool r)∧Ext w0 w' := by
 unfold dr at F;refine aK Try.func52 rfl rfl dt ?_;have S:=Sat.start w0;refine sR fun _ Y=>pa (.bool false) (en Y (sR fun _ U=>pm (i_ a0) (pm (i_ a1) (pe (.bool (decide (a1 ≤ a0))) (iU rfl rfl) (pm (.bool (decide (a1 ≤ a0))) (oF F (fun J F=>?_) fun J F=>?_))))))
 ·refine ei J (pm (i_ a0) (ei J (pm (i_ a2) (ei J (pe (.bool (decide (a0 ≤ a2))) (lh rfl rfl) (pe (.bool (decide (a0 ≤ a2))) (az rfl J rfl) (pa (.bool (decide (a0 ≤ a2))) (en U (ak (aN rfl rfl ?_))))))))));exact rB F S
 refine eo J (eo J (eo J (pe (.bool false) (aC rfl J rfl) (pa (.bool false) (en U (ak (aN rfl rfl ?_)))))));exact rB F S
theorem hQ {w0:World} {u0:Value} {a0:List Int} (ha0:R0_.rd w0 [u0] a0) {N:Nat} {r:Bool} (F:dI N a0=some r): Calls Try.prog 77 #[u0] w0 fun e w'=>e=.returned (.bool r)∧Ext w0 w' := by
 unfold dI at F;refine aK Try.func77 rfl rfl dt ?_;have S:=Sat.start w0;refine sR fun _ Cr=>pa (.bool false) (en Cr (sg fun _ Ch=>sR fun _ Cs=>pa (i_ 0) (en Cs (bg fun _ Ci=>?_))));obtain ⟨Ct,hL,Cg⟩:=ob F;refine aI (fun k e w=>∃ (J:Int),e 0=u0∧e 3=i_ J∧Sat w0 w []∧cL N k a0 J=some Ct) N ?_ ?_ ?_
 ·exact ⟨0,rfl,rfl,S,hL⟩
 ·rintro e w ⟨_,_,_,_,hz⟩; exact nn hz
 rintro k CC CD ⟨J,U,Y,S,F⟩;refine gn fun _ Ce=>sg fun _ Cj=>sR fun _ Cu=>pM (i_ J) Y (pM u0 U (pe (i_ (a0.length:Int)) (au rfl ha0) (pe (.bool (decide (J < (a0.length:Int)))) (aW rfl rfl) (en Cu (oF F (fun Z F=>?_) fun Z F=>?_)))))
 ·refine ct Z (sn Cj (sg fun _ Ck=>bg fun _ Cl=>sR fun _ Cv=>pM u0 U (pM (i_ J) Y (oB F fun Cw Cm F=>?_))));refine aD (wA:=w0) rfl ha0 rfl dt rfl Cm dt ?_;intro CE CA CF Cn Co;obtain rfl:=Cn;refine pe (i_ Cw) (ae rfl ((aj S.below Co) 0 _ rfl)) (oB F fun Cx Cp F=>?_);refine ec0 io (dl Cp) (ca (ai rfl (ai rfl (ai rfl rfl)))) S fun CG CB S=>?_;refine pe (.bool (!Cx)) (bq rfl) (en Cv (oF F (fun Cd F=>?_) fun Cd F=>?_))
  ·refine cf (an Cd) (aY (bn Cl (tn Ck (ah (pM (i_ J) Y (oB F fun Cf Cq F=>pe (i_ Cf) (aE rfl rfl Cq) (pa (i_ Cf) (en Ce ?_))))))));replace S:=S.keep 0;exact ⟨Cf,U,rfl,S,F⟩
  refine ct (ap Cd) (sR fun _ Cy=>pa (.bool false) (en Cy (ak (br Cl (tr Ck (tr Ce (br Ci (tr Ch ?_))))))));replace F:=exL F Cg;refine aN rfl rfl ?_;exact rB F S
 refine cf Z (aH (tx Cj (tx Ce ?_)));replace F:=exA F Cg;refine bS Ci (tn Ch (sR fun _ Cz=>pa (.bool true) (en Cz (ak (aN rfl rfl ?_)))));exact rB F S
theorem bi {w0:World} {u0:Value} {a0:List Int} {u1:Value} {a1:List Int} (ha0:R0_.rd w0 [u0] a0) (ha1:R0_.rd w0 [u1] a1) {N:Nat} {r:Int} (F:bh N a0 a1=some r): Calls Try.prog 78 #[u0,u1] w0 fun e w'=>e=.returned (i_ r)∧Ext w0 w' := by
 unfold bh at F;refine aK Try.func78 rfl rfl dt ?_;have S:=Sat.start w0;refine sR fun _ CS=>pa (i_ 0) (en CS (sg fun _ Cg=>sR fun _ CT=>pa (i_ 0) (en CT (bg fun _ Ch=>?_))));obtain ⟨CU,hL,Ce⟩:=ob F;refine aI (fun k e w=>∃ (J:Int),e 0=u0∧e 1=u1∧e 5=i_ J∧Sat w0 w []∧fx N k a0 a1 J=some CU) N ?_ ?_ ?_
 ·exact ⟨0,rfl,rfl,rfl,S,hL⟩
 ·rintro e w ⟨_,_,_,_,_,hz⟩; exact nn hz
 rintro k De Df ⟨J,Y,Z,Cd,S,F⟩;refine gn fun _ Cf=>sg fun _ Cp=>sR fun _ Ct=>pM (i_ J) Cd (pM u0 Y (pe (i_ (a0.length:Int)) (au rfl ha0) (pe (.bool (decide (J < (a0.length:Int)))) (aW rfl rfl) (pm (.bool (decide (J < (a0.length:Int)))) (oF F (fun U F=>?_) fun U F=>?_)))))
 ·refine ei U (pM (i_ J) Cd (ei U (pM u1 Z (ei U (pe (i_ (a1.length:Int)) (au rfl ha1) (ei U (pe (.bool (decide (J < (a1.length:Int)))) (aW rfl rfl) (pe (.bool (decide (J < (a1.length:Int)))) (az rfl U rfl) (en Ct (oF F (fun Ci F=>?_) fun Ci F=>?_))))))))))
  ·refine ct Ci (sn Cp (sg fun _ Cq=>bg fun _ Cr=>sg fun _ Cu=>sg fun _ CV=>?_));refine bz (by kernel_rfl) (by kernel_rfl) ?_;refine qM u0 Y (qM (i_ J) Cd (oB F fun Cv CD F=>?_));refine aT (wA:=w0) rfl ha0 rfl dt rfl CD dt ?_;intro Dg Da Dh CE CF;obtain rfl:=CE;refine qe (i_ Cv) (ae rfl ((aj S.below CF) 0 _ rfl)) (qM u1 Z (qM (i_ J) Cd (oB F fun Cw CG F=>?_)));refine aT (wA:=w0) rfl ha1 rfl dt rfl CG dt ?_;intro Di Db Dj CH CI;obtain rfl:=CH;refine qe (i_ Cw) (ae rfl ((aj S.below CI) 0 _ rfl)) (qe (.bool (decide (Cv < Cw))) (aW rfl rfl) (aZ ?_));intro Dk CJ;replace S:=S.ext CJ;refine tn CV (oF F (fun Cj F=>?_) fun Cj F=>?_)
   ·refine ct Cj (sR fun _ CX=>pa (i_ (-1)) (en CX (ak (tr Cu (br Cr (tr Cq (tr Cf (br Ch (tr Cg ?_)))))))));replace F:=exL F Ce;refine aN rfl rfl ?_;exact rI F S
   refine cf Cj (sn Cu (sg fun _ CY=>?_));refine bz (by kernel_rfl) (by kernel_rfl) ?_;refine qM u0 Y (qM (i_ J) Cd (oB F fun Cx CK F=>?_));refine aT (wA:=w0) rfl ha0 rfl dt rfl CK dt ?_;intro Dl Dc Dm CL CM;obtain rfl:=CL;refine qe (i_ Cx) (ae rfl ((aj S.below CM) 0 _ rfl)) (qM u1 Z (qM (i_ J) Cd (oB F fun Cy CN F=>?_)));refine aT (wA:=w0) rfl ha1 rfl dt rfl CN dt ?_;intro Dn Dd Do CO CP;obtain rfl:=CO;refine qe (i_ Cy) (ae rfl ((aj S.below CP) 0 _ rfl)) (qe (.bool (decide (Cy < Cx))) (bV rfl rfl) (aZ ?_));intro Dp CQ;replace S:=S.ext CQ;refine tn CY (oF F (fun Ck F=>?_) fun Ck F=>?_)
   ·refine ct Ck (sR fun _ CZ=>pa (i_ 1) (en CZ (ak (br Cr (tr Cq (tr Cf (br Ch (tr Cg ?_))))))));replace F:=exL F Ce;refine aN rfl rfl ?_;exact rI F S
   refine cf Ck (aY (bn Cr (tn Cq (ah (pM (i_ J) Cd (oB F fun Cs CR F=>pe (i_ Cs) (aE rfl rfl CR) (pa (i_ Cs) (en Cf ?_))))))));replace S:=S.keep 0;exact ⟨Cs,Y,Z,rfl,S,F⟩
  refine cf Ci (aH (tx Cp (tx Cf ?_)));replace F:=exA F Ce;refine bS Ch (tn Cg (sg fun _ Cz=>sR fun _ C0=>pM u0 Y (pe (i_ (a0.length:Int)) (au rfl ha0) (pM u1 Z (pe (i_ (a1.length:Int)) (au rfl ha1) (pe (.bool (decide ((a0.length:Int) < (a1.length:Int)))) (aW rfl rfl) (en C0 (oF F (fun Cl F=>?_) fun Cl F=>?_))))))))
  ·refine ct Cl (sR fun _ C1=>pa (i_ (-1)) (en C1 (ak (tr Cz (aN rfl rfl ?_)))));exact rI F S
  refine cf Cl (sn Cz (sg fun _ CA=>sR fun _ C2=>pM u0 Y (pe (i_ (a0.length:Int)) (au rfl ha0) (pM u1 Z (pe (i_ (a1.length:Int)) (au rfl ha1) (pe (.bool (decide ((a1.length:Int) < (a0.length:Int)))) (bV rfl rfl) (en C2 (oF F (fun Cm F=>?_) fun Cm F=>?_))))))))
  ·refine ct Cm (sR fun _ C3=>pa (i_ 1) (en C3 (ak (tr CA (aN rfl rfl ?_)))));exact rI F S
  refine cf Cm (sn CA (sR fun _ C4=>pa (i_ 0) (en C4 (ak (aN rfl rfl ?_)))));exact rI F S
 refine eo U (eo U (eo U (eo U (pe (.bool false) (aC rfl U rfl) (en Ct (cf rfl (aH (tx Cp (tx Cf ?_)))))))));replace F:=exA F Ce;refine bS Ch (tn Cg (sg fun _ CB=>sR fun _ C5=>pM u0 Y (pe (i_ (a0.length:Int)) (au rfl ha0) (pM u1 Z (pe (i_ (a1.length:Int)) (au rfl ha1) (pe (.bool (decide ((a0.length:Int) < (a1.length:Int)))) (aW rfl rfl) (en C5 (oF F (fun Cn F=>?_) fun Cn F=>?_))))))))
 ·refine ct Cn (sR fun _ C6=>pa (i_ (-1)) (en C6 (ak (tr CB (aN rfl rfl ?_)))));exact rI F S
 refine cf Cn (sn CB (sg fun _ CC=>sR fun _ C7=>pM u0 Y (pe (i_ (a0.length:Int)) (au rfl ha0) (pM u1 Z (pe (i_ (a1.length:Int)) (au rfl ha1) (pe (.bool (decide ((a1.length:Int) < (a0.length:Int)))) (bV rfl rfl) (en C7 (oF F (fun Co F=>?_) fun Co F=>?_))))))))
 ·refine ct Co (sR fun _ C8=>pa (i_ 1) (en C8 (ak (tr CC (aN rfl rfl ?_)))));exact rI F S
 refine cf Co (sn CC (sR fun _ C9=>pa (i_ 0) (en C9 (ak (aN rfl rfl ?_)))));exact rI F S
theorem dv {w0:World} {a0:Int} {u1:Value} {a1:List T0_} (ha1:R3_.rd w0 [u1] a1) {N:Nat} {r:Bool} (F:cg N a0 a1=some r): Calls Try.prog 42 #[.agg #[i_ a0,u1]] w0 fun e w'=>e=.returned (.bool r)∧Ext w0 w' := by
 unfold cg at F;refine aK Try.func42 rfl rfl dt ?_;have S:=Sat.start w0;refine sR fun _ CX=>?_;refine bB [i_ a0,u1] rfl S dt ?_;intro Di Cg S Dc;refine pa (.bool false) (en CX (sg fun _ Ct=>sR fun _ CB=>pe (pt Cg (0 + 0)) (ac rfl) (pe (i_ a0) (ae rfl ((S.boxAt 0 rfl) 0 _ rfl)) (oB F fun CC CE F=>?_))));refine ec0 io (dl CE) (ca (ai rfl (ai rfl (ai rfl rfl)))) S fun Dj Dd S=>?_;refine pe (.bool (!CC)) (bq rfl) (pm (.bool (!CC)) (oF F (fun Z F=>?_) fun Z F=>?_))
 ·refine ei (an Z) (pe (pt Cg (0 + 1)) (ac rfl) (ei (an Z) (pe u1 (ae rfl ((S.boxAt 0 rfl) 1 _ rfl)) (ei (an Z) (pe (i_ (a1.length:Int)) (au rfl ha1) (ei (an Z) (pe (.bool (decide (4000 < (a1.length:Int)))) (bV rfl rfl) (pe (.bool (decide (4000 < (a1.length:Int)))) (aC rfl (an Z) rfl) (en CB (oF F (fun Cl F=>?_) fun Cl F=>?_))))))))))
  ·refine ct Cl (sg fun _ CY=>?_);replace S:=S.r0;refine ah (pa (.bool false) (en CY (ak (tr Ct (aN rfl rfl ?_)))));exact rB F S
  refine cf Cl (sn Ct (sg fun _ Cm=>sR fun _ CZ=>pa (i_ 0) (en CZ (bg fun _ Cn=>?_))));obtain ⟨C0,hL,Ci⟩:=ob F;refine aI (fun k e w=>∃ (Cd:Int),e 1=pt Cg 0∧e 3=i_ Cd∧Sat w0 w [Box Cg 26 [i_ a0,u1]]∧cl N k a0 a1 Cd=some C0) N ?_ ?_ ?_
  ·exact ⟨0,rfl,rfl,S,hL⟩
  ·rintro e w ⟨_,_,_,_,hz⟩; exact nn hz
  rintro k Dk Dl ⟨Cd,Ce,Cf,S,F⟩;refine gn fun _ Ch=>sg fun _ CD=>sR fun _ C1=>pM (i_ Cd) Cf (pe (pt Cg (0 + 1)) (ac Ce) (pe u1 (ae rfl ((S.boxAt 0 rfl) 1 _ rfl)) (pe (i_ (a1.length:Int)) (au rfl ha1) (pe (.bool (decide (Cd < (a1.length:Int)))) (aW rfl rfl) (en C1 (oF F (fun Co F=>?_) fun Co F=>?_))))))
  ·refine ct Co (sn CD (sg fun _ Cj=>bg fun _ Ck=>sg fun _ Cp=>?_));refine bz (by kernel_rfl) (by kernel_rfl) ?_;refine qe (pt Cg (0 + 1)) (ac Ce) (qe u1 (ae rfl ((S.boxAt 0 rfl) 1 _ rfl)) (qM (i_ Cd) Cf (oB F fun Cu CF F=>?_)));refine aT (wA:=w0) rfl ha1 rfl dt rfl CF dt ?_;intro Dm De Dn Cx CG;obtain ⟨C2,rfl⟩:=aq Cx;refine qe C2 (ae rfl ((aj S.below CG) 0 _ rfl)) (qe (i_ (Cu.length:Int)) (au rfl Cx) (qe (pt Cg (0 + 0)) (ac Ce) (qe (i_ a0) (ae rfl ((S.boxAt 0 rfl) 0 _ rfl)) (qe (.bool ((Cu.length:Int) != a0)) (cN rfl rfl) (qm (.bool ((Cu.length:Int) != a0)) (oF F (fun U F=>?_) fun U F=>?_))))))
   ·refine qo U (qo U (qo U (qo U (qo U (qo U (qo U (qe (.bool true) (az rfl U rfl) (qm (.bool true) (qo rfl (qo rfl (qo rfl ?_)))))))))));refine bY rfl dt ?_;refine bY rfl dt ?_;refine bY rfl dt ?_;refine bY rfl dt ?_;refine bY rfl dt ?_;refine bY rfl dt ?_;refine bY rfl dt ?_;refine bY rfl dt ?_;refine bY rfl dt ?_;refine bY rfl dt ?_;refine bY rfl dt ?_;refine bY rfl dt ?_;refine bY rfl dt ?_;refine qo rfl (qe (.bool true) (az rfl rfl rfl) (aZ ?_));intro Do CH;replace S:=S.ext CH;refine tn Cp (ct rfl (sg fun _ C3=>?_));replace S:=S.r0;refine ah (pa (.bool false) (en C3 (ak (br Ck (tr Cj (tr Ch (br Cn (tr Cm ?_))))))));replace F:=exL F Ci;refine aN rfl rfl ?_;exact rB F S
   refine qi U (qe (pt Cg (0 + 1)) (ac Ce) (qi U (qe u1 (ae rfl ((S.boxAt 0 rfl) 1 _ rfl)) (qi U (qM (i_ Cd) Cf (qi U (oB F fun Dp CI F=>?_)))))));refine aT (wA:=w0) rfl ha1 rfl dt rfl CI dt ?_;intro Dq Df Dr Cy CJ;obtain ⟨C4,rfl⟩:=aq Cy;refine qi U (qe C4 (ae rfl ((aj S.below CJ) 0 _ rfl)) (qi U (oB F fun Cq CK F=>?_)));refine cn (.bool Cq) uv (fun w' hw'=>hQ (bN (S.up Cy) hw') CK) (ca (ai rfl rfl)) dt ?_;refine qi U (qe (.bool (!Cq)) (bq rfl) (qe (.bool (!Cq)) (aC rfl U rfl) (qm (.bool (!Cq)) (oF F (fun Y F=>?_) fun Y F=>?_))))
   ·refine qi (an Y) (qM (i_ Cd) Cf (qi (an Y) (qe (.bool (decide (0 < Cd))) (bV rfl rfl) (qi (an Y) (qm (.bool (decide (0 < Cd))) (oF F (fun J F=>?_) fun J F=>?_))))))
    ·refine qi J (qe (pt Cg (0 + 1)) (ac Ce) (qi J (qe u1 (ae rfl ((S.boxAt 0 rfl) 1 _ rfl)) (qi J (qM (i_ Cd) Cf (qi J (oB F fun C5 CL F=>qe (i_ C5) (bK rfl rfl CL) (qi J (oB F fun Ds CM F=>?_)))))))));refine aT (wA:=w0) rfl ha1 rfl dt rfl CM dt ?_;intro Dt Dg Du Cz CN;obtain ⟨C6,rfl⟩:=aq Cz;refine qi J (qe C6 (ae rfl ((aj S.below CN) 0 _ rfl)) (qi J (qe (pt Cg (0 + 1)) (ac Ce) (qi J (qe u1 (ae rfl ((S.boxAt 0 rfl) 1 _ rfl)) (qi J (qM (i_ Cd) Cf (qi J (oB F fun Dv CO F=>?_)))))))));refine aT (wA:=w0) rfl ha1 rfl dt rfl CO dt ?_;intro Dw Dh Dx CA CP;obtain ⟨C7,rfl⟩:=aq CA;refine qi J (qe C7 (ae rfl ((aj S.below CP) 0 _ rfl)) (qi J (oB F fun Cr CQ F=>?_)));refine cn (i_ Cr) eS (fun w' hw'=>bi (bN (S.up Cz) hw') (bN (S.up CA) hw') CQ) (ca (ai rfl (ai rfl rfl))) dt ?_;refine qi J (qe (.bool (decide (0 ≤ Cr))) (iU rfl rfl) (qi (an Y) (qe (.bool (decide (0 ≤ Cr))) (az rfl J rfl) (qe (.bool (decide (0 ≤ Cr))) (aC rfl (an Y) rfl) (aZ ?_)))));intro Dy CR;replace S:=S.ext CR;refine tn Cp (oF F (fun Cs F=>?_) fun Cs F=>?_)
     ·refine ct Cs (sg fun _ C8=>?_);replace S:=S.r0;refine ah (pa (.bool false) (en C8 (ak (br Ck (tr Cj (tr Ch (br Cn (tr Cm ?_))))))));replace F:=exL F Ci;refine aN rfl rfl ?_;exact rB F S
     refine cf Cs (aY (bn Ck (tn Cj (ah (pM (i_ Cd) Cf (oB F fun Cv CS F=>pe (i_ Cv) (aE rfl rfl CS) (pa (i_ Cv) (en Ch ?_))))))));replace S:=S.keep 1;exact ⟨Cv,Ce,rfl,S,F⟩
    refine qo J (qo J (qo J (qo J (qo J (qo J (qo J (qo J (qo J (qo J (qo J (qo J (qo J (qi (an Y) (qe (.bool false) (aC rfl J rfl) (qe (.bool false) (aC rfl (an Y) rfl) (aZ ?_))))))))))))))));intro Dz CT;replace S:=S.ext CT;refine tn Cp (cf rfl (aY (bn Ck (tn Cj (ah (pM (i_ Cd) Cf (oB F fun Cw CU F=>pe (i_ Cw) (aE rfl rfl CU) (pa (i_ Cw) (en Ch ?_)))))))));replace S:=S.keep 1;exact ⟨Cw,Ce,rfl,S,F⟩
   refine qo (ap Y) (qo (ap Y) (qo (ap Y) ?_));refine bY rfl dt ?_;refine bY rfl dt ?_;refine bY rfl dt ?_;refine bY rfl dt ?_;refine bY rfl dt ?_;refine bY rfl dt ?_;refine bY rfl dt ?_;refine bY rfl dt ?_;refine bY rfl dt ?_;refine bY rfl dt ?_;refine bY rfl dt ?_;refine bY rfl dt ?_;refine bY rfl dt ?_;refine qo (ap Y) (qe (.bool true) (az rfl (ap Y) rfl) (aZ ?_));intro DA CV;replace S:=S.ext CV;refine tn Cp (ct rfl (sg fun _ C9=>?_));replace S:=S.r0;refine ah (pa (.bool false) (en C9 (ak (br Ck (tr Cj (tr Ch (br Cn (tr Cm ?_))))))));replace F:=exL F Ci;refine aN rfl rfl ?_;exact rB F S
  refine cf Co (aH (tx CD (tx Ch ?_)));replace F:=exA F Ci;refine bS Cn (tn Cm (sg fun _ Da=>?_));replace S:=S.r0;refine ah (pa (.bool true) (en Da (ak (aN rfl rfl ?_))));exact rB F S
 refine eo (ap Z) (eo (ap Z) (eo (ap Z) (eo (ap Z) (pe (.bool true) (az rfl (ap Z) rfl) (en CB (ct rfl (sg fun _ Db=>?_)))))));replace S:=S.r0;refine ah (pa (.bool false) (en Db (ak (tr Ct (aN rfl rfl ?_)))));exact rB F S
theorem nl {w0:World} {a0:Int} {u1:Value} {a1:List T0_} (ha1:R3_.rd w0 [u1] a1) {N:Nat} {r:Int × List T0_} (F:iV N a0 a1=some r): Calls Try.prog 128 #[.agg #[i_ a0,u1]] w0 fun e w'=>∃ (q0:Value),e=.returned (.agg #[i_ r.1,q0])∧Sat w0 w' [Own R3_ [q0] r.2] := by
 unfold iV at F;refine aK Try.func128 rfl rfl dt ?_;have S:=Sat.start w0;refine sR fun _ CC=>?_;refine bB [i_ a0,u1] rfl S dt ?_;intro C0 U S CS;refine aU S dt ?_;intro C1 Ce S CT;refine en CC (sR fun _ CD=>pe (pt U (0 + 0)) (ac rfl) (pe (i_ a0) (ae rfl ((S.boxAt 1 rfl) 0 _ rfl)) (pe (.agg #[i_ a0,n_]) (bp [(0,[i_ a0])] [i_ a0,n_] (cQ rfl rfl) rfl) ?_)));refine aU S dt ?_;intro C2 Y S CU;refine am (S.top 0 rfl) rfl [i_ a0,n_] rfl rfl dt (all_cons rfl (all_cons rfl rfl)) ?_;intro CE S;replace S:Sat w0 CE [Box Y 26 [i_ a0,n_],Box Ce 26 [i_ 0,n_],Box U 26 [i_ a0,u1]]:=S;refine en CD (sg fun _ CF=>sR fun _ CG=>pa (i_ 0) (en CG (bg fun _ CH=>?_)));replace S:=S.nil R0_ 30;obtain ⟨CI,hL,Ct⟩:=ob F;refine aI (fun k e w=>∃ (J:Value),∃ (Cf:List T0_),∃ (Z:Int),e 1=pt U 0∧e 2=pt Ce 0∧e 3=pt Y 0∧e 4=i_ Z∧Sat w0 w [Own R3_ [J] Cf,Box Y 26 [i_ a0,J],Box Ce 26 [i_ 0,n_],Box U 26 [i_ a0,u1]]∧dZ N k a0 a1 0 [] a0 Cf Z=some CI) N ?_ ?_ ?_
 ·exact ⟨n_,[],0,rfl,rfl,rfl,rfl,S,hL⟩
 ·rintro e w ⟨_,_,_,_,_,_,_,_,hz⟩; exact nn hz
 rintro k C3 C4 ⟨J,Cf,Z,Cg,Ch,Cd,Ci,S,F⟩;refine gn fun _ Cp=>sg fun _ Cq=>sR fun _ CJ=>pM (i_ Z) Ci (pe (pt U (0 + 1)) (ac Cg) (pe u1 (ae rfl ((S.boxAt 3 rfl) 1 _ rfl)) (pe (i_ (a1.length:Int)) (au rfl ha1) (pe (.bool (decide (Z < (a1.length:Int)))) (aW rfl rfl) (en CJ (oF F (fun Cj F=>?_) fun Cj F=>?_))))))
 ·refine ct Cj (sn Cq (sg fun _ CK=>bg fun _ CL=>?_));obtain ⟨C,hCd⟩:∃ C:World → Prop,∀ w,C w ↔ ∃ G,Sat w0 w ([Box Y 26 [i_ a0,J],Box U 26 [i_ a0,u1]] ++ G):=⟨_,fun _=>Iff.rfl⟩;refine bD [0,1,2,3,4,5,6,7,8,9,10,11] C (by kernel_rfl) ?_;intro C5 Cu;replace S:=S.ext Cu;replace S:=S.t3.t2;have hC:=(hCd _).2 ⟨_,S⟩;refine aP (pt Y (0 + 1)) 0 rfl rfl hC (av rfl (fun w' hw'=>by obtain ⟨_,S⟩:=(hCd _).1 hw'; exact (ac Cd))) ?_;refine aP J 1 rfl rfl hC (av rfl (fun w' hw'=>by obtain ⟨_,S⟩:=(hCd _).1 hw'; exact (ae rfl ((S.boxAt 0 rfl) 1 _ rfl)))) ?_;refine aP (pt U (0 + 1)) 3 rfl rfl hC (av rfl (fun w' hw'=>by obtain ⟨_,S⟩:=(hCd _).1 hw'; exact (ac Cg))) ?_;refine aP u1 4 rfl rfl hC (av rfl (fun w' hw'=>by obtain ⟨_,S⟩:=(hCd _).1 hw'; exact (ae rfl ((S.boxAt 1 rfl) 1 _ rfl)))) ?_;refine aP (i_ Z) 5 rfl rfl hC (av rfl (fun w' hw'=>by obtain ⟨_,S⟩:=(hCd _).1 hw'; exact (aL Ci))) ?_;refine oB F fun CM Cv F=>?_;refine fG (wA:=w0) (by kernel_rfl) 6 rfl hC (by kernel_rfl) (by kernel_rfl) rfl ha1 rfl dt rfl Cv dt ?_;intro C6 CV C7 Cm Cw;obtain ⟨CN,rfl⟩:=aq Cm;refine aP CN 7 rfl rfl hC (av rfl (fun w' hw'=>by obtain ⟨_,S⟩:=(hCd _).1 hw'; exact (ae rfl ((aj S.below Cw) 0 _ rfl)))) ?_;refine aO 2 rfl ?_;refine aQ bI S dt ?_;intro C8 C9 S CX;refine ag ?_;replace S:=S.t2.t2;have hC:=(hCd _).2 ⟨_,S⟩;refine ⟨fun _=>hC,?_⟩;refine aO 8 rfl ?_;refine oB F fun Da Cx F=>?_;obtain ⟨CY,Db,Cy,Cz,Cn⟩:=cv (S.up Cm);replace S:=S.t2;replace S:=S.ints (xs:=CM);refine aA rfl dt rfl dt S rfl (rfl.trans Cy) rfl Cz Cn Cx dt ?_;intro Dc Cr S;refine ag ?_;replace S:=S.t2.t2;have hC:=(hCd _).2 ⟨_,S⟩;refine ⟨fun _=>hC,?_⟩;refine aO 9 rfl ?_;refine aw [Cr] (aV rfl (oc (S.rdAt (R:=R0_) 2 rfl))) (by rfl) dt rfl dt S dt ?_;intro Dd CO S CZ;refine ag ?_;replace S:=S.t2.t2;have hC:=(hCd _).2 ⟨_,S⟩;refine ⟨fun _=>hC,?_⟩;refine aO 10 rfl ?_;refine oB F fun Cs CA F=>?_;have Co:=S.boxRow 2 rfl;replace S:=S.t4;replace S:=S.t4;replace S:=S.one;refine aA rfl dt rfl dt S rfl rfl rfl (by simp) Co CA dt ?_;intro De Ck S;refine ag ?_;replace S:=S.t2.t2;have hC:=(hCd _).2 ⟨_,S⟩;refine ⟨fun _=>hC,?_⟩;refine aO 11 rfl ?_;refine pe (pt Y (0 + 1)) (ac Cd) (ag ?_);refine ⟨fun _=>hC,?_⟩;refine aO 12 rfl ?_;refine am (S.top 0 rfl) rfl [Ck] (aV rfl (oc (S.rdAt (R:=R3_) 2 rfl))) rfl dt (all_cons (oc (S.rdAt (R:=R3_) 2 rfl)) rfl) ?_;intro CP S;replace S:Sat w0 CP [Box Y 26 [i_ a0,Ck],Box U 26 [i_ a0,u1],Own R3_ [Ck] Cs,Box CO 30 [Cr],Box Ce 26 [i_ 0,n_]]:=S;refine ag ?_;refine ⟨fun h=>(nomatch (show false=true from h)),?_⟩;refine bt (by kernel_rfl) ?_;refine bn CL (tn CK ?_);replace S:=S.r3;refine ah (pM (i_ Z) Ci (oB F fun Cl CB F=>pe (i_ Cl) (aE rfl rfl CB) (pa (i_ Cl) (en Cp ?_))));replace S:=S.t1.t3.t2.t3;replace S:=S.keep 4;exact ⟨Ck,Cs,Cl,Cg,Ch,Cd,rfl,S,F⟩
 refine cf Cj (aH (tx Cq (tx Cp ?_)));replace F:=exB F Ct;refine bS CH (tn CF (sg fun _ CQ=>?_));replace S:=S.r3;refine ah (pe (.agg #[i_ a0,J]) (ax (cs:=[i_ a0,J]) Cd rfl (ay (S.boxAt 1 rfl))) ?_);refine am (S.top 2 rfl) Ch [i_ a0,J] rfl rfl dt (all_cons rfl (all_cons (oc (S.rdAt (R:=R3_) 0 rfl)) rfl)) ?_;intro CR S;replace S:Sat w0 CR [Box Ce 26 [i_ a0,J],Own R3_ [J] Cf,Box Y 26 [i_ a0,J]]:=S;refine en CQ (ak ?_);refine dc (cs:=[i_ a0,J]) rfl Ch rfl (ay (S.boxAt 0 rfl))  ?_;replace S:=S.t1;have hr:=oI F;exact ⟨J,cR hr fun r=>.agg #[i_ r.1,J],sP hr (fun r=>[Own R3_ [J] r.2]) (S.keep 1)⟩
end
section
set_option maxRecDepth 100000
set_option maxHeartbeats 4000000
theorem ru (N:Nat):∀ {w0:World} {u0:Value} {a0:List T0_} (_:R3_.rd w0 [u0] a0) {r:(List T0_)} (_:fc N a0=some r), Calls Try.prog 129 #[u0] w0 fun e w'=>∃ (q0:Value),e=.returned (q0)∧Ext w0 w'∧R3_.rd w' [q0] r := by
 induction N with
 | zero=>intros; exact nomatch (show none=some _ by assumption)
 | succ N ih=>
  intro w0 u0 a0 ha0 r F;refine aK Try.func129 rfl rfl dt ?_;have S:=Sat.start w0;refine sR fun _ HG=>pa n_ (en HG (sg fun _ EB=>sR fun _ HH=>pm u0 (pe (i_ (a0.length:Int)) (au rfl ha0) (pe (.bool (decide ((a0.length:Int) < 2))) (aW rfl rfl) (en HH (oF F (fun Df F=>?_) fun Df F=>?_))))))
  ·refine ct Df (sR fun _ HI=>pm u0 (pa u0 (en HI (ak (tr EB (aN rfl rfl ?_))))));have hr:=oI F;exact ⟨u0,cR hr fun r=>u0,S.below,Eq.mp (congrArg (fun (r:(List T0_))=>R3_.rd w0 [u0] r) hr :) (S.up ha0)⟩
  refine cf Df (sn EB (sR fun _ HJ=>pm u0 (pe (i_ (a0.length:Int)) (au rfl ha0) (oB F fun Dg Fz F=>pe (i_ Dg) (xM rfl rfl Fz) (pa (i_ Dg) (en HJ (sR fun _ HK=>pm u0 (pm (i_ Dg) (oB F fun JR FA F=>?_)))))))));refine dP (wA:=w0) rfl rfl ha0 (.inr ⟨rfl,rfl⟩) (.inl (congrArg some rfl)) FA dt ?_;intro JS Ea;refine oB F fun HL FB F=>?_;refine aJ si (ih (S.up Ea) FB) (ca (ai rfl rfl)) dt ?_;rintro _ DW ⟨EC,rfl,FC,FD⟩;refine ⟨_,rfl,?_⟩;replace S:=S.ext FC;have FE:Ext w0 DW:=S.below;have Dh:=S.up ha0;have I8:=S.up ha0;have I9:=S.up Ea;replace S:=Sat.start DW;refine pa EC (en HK (sR fun _ HM=>pm u0 (pm (i_ Dg) (oB F fun JT FF F=>?_))));refine dP (wA:=DW) rfl rfl Dh (.inl (congrArg some rfl)) (.inr ⟨rfl,rfl⟩) FF dt ?_;intro JU Eb;refine oB F fun HN FG F=>?_;refine aJ si (ih (S.up Eb) FG) (ca (ai rfl rfl)) dt ?_;rintro _ J ⟨ED,rfl,FH,FI⟩;refine ⟨_,rfl,?_⟩;replace S:=S.ext FH;have FJ:Ext w0 J:=(S.rebase FE).below;have Ja:=S.up Dh;have FK:=S.up FD;have Jb:=S.up Dh;have Jc:=S.up Eb;replace S:=Sat.start J;refine pa ED (en HM (sR fun _ HO=>?_));refine aQ (roR J R0_) S dt ?_;intro JV EE S Jd;refine pa EE (en HO (sg fun _ HP=>bg fun _ HQ=>?_));obtain ⟨HR,hL,FL⟩:=ob F;refine aI (fun k e w=>∃ (Ch:Value),∃ (Ck:List T0_),∃ (Ci:Value),∃ (Cl:List T0_),∃ (Y:Value),∃ (Z:List T0_),e 4=Ch∧e 5=Ci∧e 6=Y∧Sat J w [Own (aB (roR J R0_) 30) [Y] Z]∧R3_.rd J [Ch] Ck∧R3_.rd J [Ci] Cl∧aR (fc N) N k Ck Cl Z=some HR) N ?_ ?_ ?_
  ·exact ⟨EC,HL,ED,HN,EE,[],rfl,rfl,rfl,S,FK,FI,hL⟩
  ·rintro e w ⟨_,_,_,_,_,_,_,_,_,_,_,_,hz⟩; exact nn hz
  rintro k JW HS ⟨Ch,Ck,Ci,Cl,Y,Z,Cd,Ce,U,S,Cf,Cg,F⟩;refine gn fun _ Cj=>sg fun _ DX=>sR fun _ EF=>pM Ch Cd (pe (i_ (Ck.length:Int)) (au rfl Cf) (pe (.bool (decide (0 < (Ck.length:Int)))) (bV rfl rfl) (pm (.bool (decide (0 < (Ck.length:Int)))) (oF F (fun Cy F=>?_) fun Cy F=>?_))))
  ·refine eo Cy (eo Cy (eo Cy (pe (.bool true) (az rfl Cy rfl) (en EF (ct rfl (sn DX (bg fun _ Cw=>sR fun _ HT=>pa (i_ 0) (en HT (sg fun _ DY=>bg fun _ DZ=>sR fun _ HU=>pM Ch Cd (pe (i_ (Ck.length:Int)) (au rfl Cf) (pe (.bool ((Ck.length:Int) == 0)) (ba rfl rfl) (pa (.bool ((Ck.length:Int) == 0)) (en HU (oF F (fun Di F=>?_) fun Di F=>?_))))))))))))))
   ·refine ct Di (ah (pa (i_ 1) (ag (bn DZ (tn DY (sR fun _ HV=>?_))))));refine aQ bI S dt ?_;intro EG HW S Je;refine pa HW (en HV (sg fun _ EH=>sg fun _ HX=>?_));replace S:=S.r0;refine ah (pm (i_ 1) (pe (.bool (decide (0 < (1:Int)))) (bV rfl rfl) (en HX (oF F (fun Dj F=>?_) fun Dj F=>?_))))
    ·refine ct Dj (sR fun _ HY=>pM Ci Ce (oB F fun JX FM F=>?_));refine aD (wA:=J) rfl Cg rfl dt rfl FM dt ?_;intro JY Jf JZ Cz FN;obtain ⟨CJ,rfl⟩:=aq Cz;refine pe CJ (ae rfl ((aj S.below FN) 0 _ rfl)) (pa CJ (en HY (ah (pM Ci Ce (oB F fun D0 FO F=>?_)))));refine dP (wA:=J) rfl rfl Cg (.inl (congrArg some rfl)) (.inr ⟨rfl,rfl⟩) FO dt ?_;intro Dk Dl;refine pa Dk (en EH (sR fun _ EI=>pM Y U (pe (i_ (Z.length:Int)) (au rfl (S.rdAt (R:=(aB (roR J R0_) 30)) 0 rfl)) (pe (.bool ((Z.length:Int) == 0)) (ba rfl rfl) (pm (.bool ((Z.length:Int) == 0)) (oF F (fun Cm F=>?_) fun Cm F=>?_))))))
     ·refine eo Cm (eo Cm (eo Cm (eo Cm (eo Cm (eo Cm (eo Cm (eo Cm (eo Cm (pe (.bool true) (az rfl Cm rfl) (en EI (ct rfl (ah (pM Y U (pm CJ ?_))))))))))))));refine aw [CJ] (aV rfl (oc Cz)) (by rfl) dt rfl dt S dt ?_;intro J0 J1 S Jg;refine oB F fun HZ FP F=>?_;have Eg:=S.boxRow 0 rfl;replace S:=S.t1;replace S:=S.roOne (R:=R0_) (W:=J) Cz;replace S:=S.one;refine aA rfl dt rfl dt S rfl rfl rfl (by simp) Eg FP dt ?_;intro J2 EJ S;refine pa EJ (ag (bn Cw (tn Cj ?_)));replace S:=S.keep 1;exact ⟨Ch,Ck,Dk,D0,EJ,HZ,Cd,rfl,rfl,S,Cf,Dl,F⟩
     refine ei Cm (pM Y U (ei Cm (pM Y U (ei Cm (pe (i_ (Z.length:Int)) (au rfl (S.rdAt (R:=(aB (roR J R0_) 30)) 0 rfl)) (ei Cm (oB F fun H0 FQ F=>pe (i_ H0) (bK rfl rfl FQ) (ei Cm (oB F fun J3 FR F=>?_)))))))));refine aD (wA:=EG) rfl (S.rdAt (R:=(aB (roR J R0_) 30)) 0 rfl) rfl dt rfl FR dt ?_;intro J4 Jh J5 C4 CT;replace C4:R0_.rd J _ _:=C4;obtain ⟨H1,rfl⟩:=aq C4;refine ei Cm (pe H1 (ae rfl (CT 0 _ rfl)) (ei Cm (pm CJ (ei Cm (oB F fun EK FS F=>?_)))));refine ec0 eS (bi (S.up C4) (S.up Cz) FS) (ca (ai rfl (ai rfl rfl))) S fun J6 FT S=>?_;have CT:=aj FT CT;refine ei Cm (pe (.bool (EK != 0)) (cN rfl rfl) (pe (.bool (EK != 0)) (aC rfl Cm rfl) (en EI (oF F (fun Dm F=>?_) fun Dm F=>?_))))
     ·refine ct Dm (ah (pM Y U (pm CJ ?_)));refine aw [CJ] (aV rfl (oc Cz)) (by rfl) dt rfl dt S dt ?_;intro J7 J8 S FU;have CT:=aj FU CT;refine oB F fun H2 FV F=>?_;have Eh:=S.boxRow 0 rfl;replace S:=S.t1;replace S:=S.roOne (R:=R0_) (W:=J) Cz;replace S:=S.one;refine aA rfl dt rfl dt S rfl rfl rfl (by simp) Eh FV dt ?_;intro J9 EM S;refine pa EM (ag (bn Cw (tn Cj ?_)));replace S:=S.keep 1;exact ⟨Ch,Ck,Dk,D0,EM,H2,Cd,rfl,rfl,S,Cf,Dl,F⟩
     refine cf Dm (aY (bn Cw (tn Cj ?_)));replace S:=S.keep 1;exact ⟨Ch,Ck,Dk,D0,Y,Z,Cd,rfl,U,S,Cf,Dl,F⟩
    refine cf Dj (sR fun _ H3=>pM Ch Cd (oB F fun Ka FW F=>?_));refine aD (wA:=J) rfl Cf rfl dt rfl FW dt ?_;intro Kb Ji Kc CA FX;obtain ⟨CK,rfl⟩:=aq CA;refine pe CK (ae rfl ((aj S.below FX) 0 _ rfl)) (pa CK (en H3 (ah (pM Ch Cd (oB F fun D1 FY F=>?_)))));refine dP (wA:=J) rfl rfl Cf (.inl (congrArg some rfl)) (.inr ⟨rfl,rfl⟩) FY dt ?_;intro Dn Do;refine pa Dn (en EH (sR fun _ EN=>pM Y U (pe (i_ (Z.length:Int)) (au rfl (S.rdAt (R:=(aB (roR J R0_) 30)) 0 rfl)) (pe (.bool ((Z.length:Int) == 0)) (ba rfl rfl) (pm (.bool ((Z.length:Int) == 0)) (oF F (fun Cn F=>?_) fun Cn F=>?_))))))
    ·refine eo Cn (eo Cn (eo Cn (eo Cn (eo Cn (eo Cn (eo Cn (eo Cn (eo Cn (pe (.bool true) (az rfl Cn rfl) (en EN (ct rfl (ah (pM Y U (pm CK ?_))))))))))))));refine aw [CK] (aV rfl (oc CA)) (by rfl) dt rfl dt S dt ?_;intro Kd Ke S Jj;refine oB F fun H4 FZ F=>?_;have Ei:=S.boxRow 0 rfl;replace S:=S.t1;replace S:=S.roOne (R:=R0_) (W:=J) CA;replace S:=S.one;refine aA rfl dt rfl dt S rfl rfl rfl (by simp) Ei FZ dt ?_;intro Kf EO S;refine pa EO (ag (bn Cw (tn Cj ?_)));replace S:=S.keep 1;exact ⟨Dn,D1,Ci,Cl,EO,H4,rfl,Ce,rfl,S,Do,Cg,F⟩
    refine ei Cn (pM Y U (ei Cn (pM Y U (ei Cn (pe (i_ (Z.length:Int)) (au rfl (S.rdAt (R:=(aB (roR J R0_) 30)) 0 rfl)) (ei Cn (oB F fun H5 F0 F=>pe (i_ H5) (bK rfl rfl F0) (ei Cn (oB F fun Kg F5 F=>?_)))))))));refine aD (wA:=EG) rfl (S.rdAt (R:=(aB (roR J R0_) 30)) 0 rfl) rfl dt rfl F5 dt ?_;intro Kh Jk Ki C5 CU;replace C5:R0_.rd J _ _:=C5;obtain ⟨H6,rfl⟩:=aq C5;refine ei Cn (pe H6 (ae rfl (CU 0 _ rfl)) (ei Cn (pm CK (ei Cn (oB F fun EP F6 F=>?_)))));refine ec0 eS (bi (S.up C5) (S.up CA) F6) (ca (ai rfl (ai rfl rfl))) S fun Kj F7 S=>?_;have CU:=aj F7 CU;refine ei Cn (pe (.bool (EP != 0)) (cN rfl rfl) (pe (.bool (EP != 0)) (aC rfl Cn rfl) (en EN (oF F (fun Dp F=>?_) fun Dp F=>?_))))
    ·refine ct Dp (ah (pM Y U (pm CK ?_)));refine aw [CK] (aV rfl (oc CA)) (by rfl) dt rfl dt S dt ?_;intro Kk Kl S F8;have CU:=aj F8 CU;refine oB F fun H7 F9 F=>?_;have Ej:=S.boxRow 0 rfl;replace S:=S.t1;replace S:=S.roOne (R:=R0_) (W:=J) CA;replace S:=S.one;refine aA rfl dt rfl dt S rfl rfl rfl (by simp) Ej F9 dt ?_;intro Km EQ S;refine pa EQ (ag (bn Cw (tn Cj ?_)));replace S:=S.keep 1;exact ⟨Dn,D1,Ci,Cl,EQ,H7,rfl,Ce,rfl,S,Do,Cg,F⟩
    refine cf Dp (aY (bn Cw (tn Cj ?_)));replace S:=S.keep 1;exact ⟨Dn,D1,Ci,Cl,Y,Z,rfl,Ce,U,S,Do,Cg,F⟩
   refine cf Di (sR fun _ H8=>pM Ci Ce (pe (i_ (Cl.length:Int)) (au rfl Cg) (pe (.bool (decide (0 < (Cl.length:Int)))) (bV rfl rfl) (pa (.bool (decide (0 < (Cl.length:Int)))) (en H8 (oF F (fun Dq F=>?_) fun Dq F=>?_))))))
   ·refine ct Dq ?_;refine bz (by kernel_rfl) (by kernel_rfl) ?_;refine qM Ch Cd (oB F fun Kn Ga F=>?_);refine aT (wA:=J) rfl Cf rfl dt rfl Ga dt ?_;intro Ko Jl Kp Ec Gb;obtain ⟨H9,rfl⟩:=aq Ec;refine qe H9 (ae rfl ((aj S.below Gb) 0 _ rfl)) (qM Ci Ce (oB F fun Kq Gc F=>?_));refine aT (wA:=J) rfl Cg rfl dt rfl Gc dt ?_;intro Kr Jm Ks Ed Gd;obtain ⟨Ia,rfl⟩:=aq Ed;refine qe Ia (ae rfl ((aj S.below Gd) 0 _ rfl)) (oB F fun Dr Ge F=>?_);refine cn (i_ Dr) eS (fun w' hw'=>bi (bN (S.up Ec) hw') (bN (S.up Ed) hw') Ge) (ca (ai rfl (ai rfl rfl))) dt ?_;refine qe (i_ Dr) (bW rfl) (aZ ?_);intro Kt Gf;replace S:=S.ext Gf;refine bn DZ (tn DY (sR fun _ Ib=>?_));refine aQ bI S dt ?_;intro ER Ic S Jn;refine pa Ic (en Ib (sg fun _ ES=>sg fun _ Id=>?_));replace S:=S.r0;refine ah (pm (i_ Dr) (pe (.bool (decide (0 < Dr))) (bV rfl rfl) (en Id (oF F (fun Ds F=>?_) fun Ds F=>?_))))
    ·refine ct Ds (sR fun _ Ie=>pM Ci Ce (oB F fun Ku Gg F=>?_));refine aD (wA:=J) rfl Cg rfl dt rfl Gg dt ?_;intro Kv Jo Kw CB Gh;obtain ⟨CL,rfl⟩:=aq CB;refine pe CL (ae rfl ((aj S.below Gh) 0 _ rfl)) (pa CL (en Ie (ah (pM Ci Ce (oB F fun D2 Gi F=>?_)))));refine dP (wA:=J) rfl rfl Cg (.inl (congrArg some rfl)) (.inr ⟨rfl,rfl⟩) Gi dt ?_;intro Dt Du;refine pa Dt (en ES (sR fun _ ET=>pM Y U (pe (i_ (Z.length:Int)) (au rfl (S.rdAt (R:=(aB (roR J R0_) 30)) 0 rfl)) (pe (.bool ((Z.length:Int) == 0)) (ba rfl rfl) (pm (.bool ((Z.length:Int) == 0)) (oF F (fun Co F=>?_) fun Co F=>?_))))))
     ·refine eo Co (eo Co (eo Co (eo Co (eo Co (eo Co (eo Co (eo Co (eo Co (pe (.bool true) (az rfl Co rfl) (en ET (ct rfl (ah (pM Y U (pm CL ?_))))))))))))));refine aw [CL] (aV rfl (oc CB)) (by rfl) dt rfl dt S dt ?_;intro Kx Ky S Jp;refine oB F fun If Gj F=>?_;have Ek:=S.boxRow 0 rfl;replace S:=S.t1;replace S:=S.roOne (R:=R0_) (W:=J) CB;replace S:=S.one;refine aA rfl dt rfl dt S rfl rfl rfl (by simp) Ek Gj dt ?_;intro Kz EU S;refine pa EU (ag (bn Cw (tn Cj ?_)));replace S:=S.keep 1;exact ⟨Ch,Ck,Dt,D2,EU,If,Cd,rfl,rfl,S,Cf,Du,F⟩
     refine ei Co (pM Y U (ei Co (pM Y U (ei Co (pe (i_ (Z.length:Int)) (au rfl (S.rdAt (R:=(aB (roR J R0_) 30)) 0 rfl)) (ei Co (oB F fun Ig Gk F=>pe (i_ Ig) (bK rfl rfl Gk) (ei Co (oB F fun KA Gl F=>?_)))))))));refine aD (wA:=ER) rfl (S.rdAt (R:=(aB (roR J R0_) 30)) 0 rfl) rfl dt rfl Gl dt ?_;intro KB Jq KC C6 CV;replace C6:R0_.rd J _ _:=C6;obtain ⟨Ih,rfl⟩:=aq C6;refine ei Co (pe Ih (ae rfl (CV 0 _ rfl)) (ei Co (pm CL (ei Co (oB F fun EV Gm F=>?_)))));refine ec0 eS (bi (S.up C6) (S.up CB) Gm) (ca (ai rfl (ai rfl rfl))) S fun KD Gn S=>?_;have CV:=aj Gn CV;refine ei Co (pe (.bool (EV != 0)) (cN rfl rfl) (pe (.bool (EV != 0)) (aC rfl Co rfl) (en ET (oF F (fun Dv F=>?_) fun Dv F=>?_))))
     ·refine ct Dv (ah (pM Y U (pm CL ?_)));refine aw [CL] (aV rfl (oc CB)) (by rfl) dt rfl dt S dt ?_;intro KE KF S Gp;have CV:=aj Gp CV;refine oB F fun Ii Gq F=>?_;have El:=S.boxRow 0 rfl;replace S:=S.t1;replace S:=S.roOne (R:=R0_) (W:=J) CB;replace S:=S.one;refine aA rfl dt rfl dt S rfl rfl rfl (by simp) El Gq dt ?_;intro KG EW S;refine pa EW (ag (bn Cw (tn Cj ?_)));replace S:=S.keep 1;exact ⟨Ch,Ck,Dt,D2,EW,Ii,Cd,rfl,rfl,S,Cf,Du,F⟩
     refine cf Dv (aY (bn Cw (tn Cj ?_)));replace S:=S.keep 1;exact ⟨Ch,Ck,Dt,D2,Y,Z,Cd,rfl,U,S,Cf,Du,F⟩
    refine cf Ds (sR fun _ Ij=>pM Ch Cd (oB F fun KH Gr F=>?_));refine aD (wA:=J) rfl Cf rfl dt rfl Gr dt ?_;intro KI Jr KJ CC Gs;obtain ⟨CM,rfl⟩:=aq CC;refine pe CM (ae rfl ((aj S.below Gs) 0 _ rfl)) (pa CM (en Ij (ah (pM Ch Cd (oB F fun D3 Gt F=>?_)))));refine dP (wA:=J) rfl rfl Cf (.inl (congrArg some rfl)) (.inr ⟨rfl,rfl⟩) Gt dt ?_;intro Dw Dx;refine pa Dw (en ES (sR fun _ EX=>pM Y U (pe (i_ (Z.length:Int)) (au rfl (S.rdAt (R:=(aB (roR J R0_) 30)) 0 rfl)) (pe (.bool ((Z.length:Int) == 0)) (ba rfl rfl) (pm (.bool ((Z.length:Int) == 0)) (oF F (fun Cp F=>?_) fun Cp F=>?_))))))
    ·refine eo Cp (eo Cp (eo Cp (eo Cp (eo Cp (eo Cp (eo Cp (eo Cp (eo Cp (pe (.bool true) (az rfl Cp rfl) (en EX (ct rfl (ah (pM Y U (pm CM ?_))))))))))))));refine aw [CM] (aV rfl (oc CC)) (by rfl) dt rfl dt S dt ?_;intro KK KL S Js;refine oB F fun Ik Gu F=>?_;have Em:=S.boxRow 0 rfl;replace S:=S.t1;replace S:=S.roOne (R:=R0_) (W:=J) CC;replace S:=S.one;refine aA rfl dt rfl dt S rfl rfl rfl (by simp) Em Gu dt ?_;intro KM EY S;refine pa EY (ag (bn Cw (tn Cj ?_)));replace S:=S.keep 1;exact ⟨Dw,D3,Ci,Cl,EY,Ik,rfl,Ce,rfl,S,Dx,Cg,F⟩
    refine ei Cp (pM Y U (ei Cp (pM Y U (ei Cp (pe (i_ (Z.length:Int)) (au rfl (S.rdAt (R:=(aB (roR J R0_) 30)) 0 rfl)) (ei Cp (oB F fun Il Gv F=>pe (i_ Il) (bK rfl rfl Gv) (ei Cp (oB F fun KN Gw F=>?_)))))))));refine aD (wA:=ER) rfl (S.rdAt (R:=(aB (roR J R0_) 30)) 0 rfl) rfl dt rfl Gw dt ?_;intro KO Jt KP C7 CX;replace C7:R0_.rd J _ _:=C7;obtain ⟨Im,rfl⟩:=aq C7;refine ei Cp (pe Im (ae rfl (CX 0 _ rfl)) (ei Cp (pm CM (ei Cp (oB F fun EZ Gx F=>?_)))));refine ec0 eS (bi (S.up C7) (S.up CC) Gx) (ca (ai rfl (ai rfl rfl))) S fun KR Gy S=>?_;have CX:=aj Gy CX;refine ei Cp (pe (.bool (EZ != 0)) (cN rfl rfl) (pe (.bool (EZ != 0)) (aC rfl Cp rfl) (en EX (oF F (fun Dy F=>?_) fun Dy F=>?_))))
    ·refine ct Dy (ah (pM Y U (pm CM ?_)));refine aw [CM] (aV rfl (oc CC)) (by rfl) dt rfl dt S dt ?_;intro KS KT S Gz;have CX:=aj Gz CX;refine oB F fun In GA F=>?_;have En:=S.boxRow 0 rfl;replace S:=S.t1;replace S:=S.roOne (R:=R0_) (W:=J) CC;replace S:=S.one;refine aA rfl dt rfl dt S rfl rfl rfl (by simp) En GA dt ?_;intro KU E0 S;refine pa E0 (ag (bn Cw (tn Cj ?_)));replace S:=S.keep 1;exact ⟨Dw,D3,Ci,Cl,E0,In,rfl,Ce,rfl,S,Dx,Cg,F⟩
    refine cf Dy (aY (bn Cw (tn Cj ?_)));replace S:=S.keep 1;exact ⟨Dw,D3,Ci,Cl,Y,Z,rfl,Ce,U,S,Dx,Cg,F⟩
   refine cf Dq (ah (pa (i_ (-1)) (ag (bn DZ (tn DY (sR fun _ Io=>?_))))));refine aQ bI S dt ?_;intro E1 Ip S Ju;refine pa Ip (en Io (sg fun _ E2=>sg fun _ Iq=>?_));replace S:=S.r0;refine ah (pm (i_ (-1)) (pe (.bool (decide (0 < ((-1):Int)))) (bV rfl rfl) (en Iq (oF F (fun Dz F=>?_) fun Dz F=>?_))))
   ·refine ct Dz (sR fun _ Ir=>pM Ci Ce (oB F fun KV GB F=>?_));refine aD (wA:=J) rfl Cg rfl dt rfl GB dt ?_;intro KW Jv KX CD GC;obtain ⟨CN,rfl⟩:=aq CD;refine pe CN (ae rfl ((aj S.below GC) 0 _ rfl)) (pa CN (en Ir (ah (pM Ci Ce (oB F fun D4 GD F=>?_)))));refine dP (wA:=J) rfl rfl Cg (.inl (congrArg some rfl)) (.inr ⟨rfl,rfl⟩) GD dt ?_;intro DA DB;refine pa DA (en E2 (sR fun _ E5=>pM Y U (pe (i_ (Z.length:Int)) (au rfl (S.rdAt (R:=(aB (roR J R0_) 30)) 0 rfl)) (pe (.bool ((Z.length:Int) == 0)) (ba rfl rfl) (pm (.bool ((Z.length:Int) == 0)) (oF F (fun Cq F=>?_) fun Cq F=>?_))))))
    ·refine eo Cq (eo Cq (eo Cq (eo Cq (eo Cq (eo Cq (eo Cq (eo Cq (eo Cq (pe (.bool true) (az rfl Cq rfl) (en E5 (ct rfl (ah (pM Y U (pm CN ?_))))))))))))));refine aw [CN] (aV rfl (oc CD)) (by rfl) dt rfl dt S dt ?_;intro KY KZ S Jw;refine oB F fun Is GE F=>?_;have Eo:=S.boxRow 0 rfl;replace S:=S.t1;replace S:=S.roOne (R:=R0_) (W:=J) CD;replace S:=S.one;refine aA rfl dt rfl dt S rfl rfl rfl (by simp) Eo GE dt ?_;intro K0 E6 S;refine pa E6 (ag (bn Cw (tn Cj ?_)));replace S:=S.keep 1;exact ⟨Ch,Ck,DA,D4,E6,Is,Cd,rfl,rfl,S,Cf,DB,F⟩
    refine ei Cq (pM Y U (ei Cq (pM Y U (ei Cq (pe (i_ (Z.length:Int)) (au rfl (S.rdAt (R:=(aB (roR J R0_) 30)) 0 rfl)) (ei Cq (oB F fun It GF F=>pe (i_ It) (bK rfl rfl GF) (ei Cq (oB F fun K3 GG F=>?_)))))))));refine aD (wA:=E1) rfl (S.rdAt (R:=(aB (roR J R0_) 30)) 0 rfl) rfl dt rfl GG dt ?_;intro K4 Jx K5 C8 CY;replace C8:R0_.rd J _ _:=C8;obtain ⟨Iu,rfl⟩:=aq C8;refine ei Cq (pe Iu (ae rfl (CY 0 _ rfl)) (ei Cq (pm CN (ei Cq (oB F fun E7 GH F=>?_)))));refine ec0 eS (bi (S.up C8) (S.up CD) GH) (ca (ai rfl (ai rfl rfl))) S fun K6 GI S=>?_;have CY:=aj GI CY;refine ei Cq (pe (.bool (E7 != 0)) (cN rfl rfl) (pe (.bool (E7 != 0)) (aC rfl Cq rfl) (en E5 (oF F (fun DC F=>?_) fun DC F=>?_))))
    ·refine ct DC (ah (pM Y U (pm CN ?_)));refine aw [CN] (aV rfl (oc CD)) (by rfl) dt rfl dt S dt ?_;intro K7 K8 S GJ;have CY:=aj GJ CY;refine oB F fun Iv GK F=>?_;have Ep:=S.boxRow 0 rfl;replace S:=S.t1;replace S:=S.roOne (R:=R0_) (W:=J) CD;replace S:=S.one;refine aA rfl dt rfl dt S rfl rfl rfl (by simp) Ep GK dt ?_;intro K9 E8 S;refine pa E8 (ag (bn Cw (tn Cj ?_)));replace S:=S.keep 1;exact ⟨Ch,Ck,DA,D4,E8,Iv,Cd,rfl,rfl,S,Cf,DB,F⟩
    refine cf DC (aY (bn Cw (tn Cj ?_)));replace S:=S.keep 1;exact ⟨Ch,Ck,DA,D4,Y,Z,Cd,rfl,U,S,Cf,DB,F⟩
   refine cf Dz (sR fun _ Iw=>pM Ch Cd (oB F fun La GL F=>?_));refine aD (wA:=J) rfl Cf rfl dt rfl GL dt ?_;intro Lb Jy Lc CE GM;obtain ⟨CO,rfl⟩:=aq CE;refine pe CO (ae rfl ((aj S.below GM) 0 _ rfl)) (pa CO (en Iw (ah (pM Ch Cd (oB F fun D5 GN F=>?_)))));refine dP (wA:=J) rfl rfl Cf (.inl (congrArg some rfl)) (.inr ⟨rfl,rfl⟩) GN dt ?_;intro DD DE;refine pa DD (en E2 (sR fun _ E9=>pM Y U (pe (i_ (Z.length:Int)) (au rfl (S.rdAt (R:=(aB (roR J R0_) 30)) 0 rfl)) (pe (.bool ((Z.length:Int) == 0)) (ba rfl rfl) (pm (.bool ((Z.length:Int) == 0)) (oF F (fun Cr F=>?_) fun Cr F=>?_))))))
   ·refine eo Cr (eo Cr (eo Cr (eo Cr (eo Cr (eo Cr (eo Cr (eo Cr (eo Cr (pe (.bool true) (az rfl Cr rfl) (en E9 (ct rfl (ah (pM Y U (pm CO ?_))))))))))))));refine aw [CO] (aV rfl (oc CE)) (by rfl) dt rfl dt S dt ?_;intro Ld Le S Jz;refine oB F fun Ix GO F=>?_;have Er:=S.boxRow 0 rfl;replace S:=S.t1;replace S:=S.roOne (R:=R0_) (W:=J) CE;replace S:=S.one;refine aA rfl dt rfl dt S rfl rfl rfl (by simp) Er GO dt ?_;intro Lg Fa S;refine pa Fa (ag (bn Cw (tn Cj ?_)));replace S:=S.keep 1;exact ⟨DD,D5,Ci,Cl,Fa,Ix,rfl,Ce,rfl,S,DE,Cg,F⟩
   refine ei Cr (pM Y U (ei Cr (pM Y U (ei Cr (pe (i_ (Z.length:Int)) (au rfl (S.rdAt (R:=(aB (roR J R0_) 30)) 0 rfl)) (ei Cr (oB F fun Iy GP F=>pe (i_ Iy) (bK rfl rfl GP) (ei Cr (oB F fun Lh GQ F=>?_)))))))));refine aD (wA:=E1) rfl (S.rdAt (R:=(aB (roR J R0_) 30)) 0 rfl) rfl dt rfl GQ dt ?_;intro Li JA Lj C9 CZ;replace C9:R0_.rd J _ _:=C9;obtain ⟨Iz,rfl⟩:=aq C9;refine ei Cr (pe Iz (ae rfl (CZ 0 _ rfl)) (ei Cr (pm CO (ei Cr (oB F fun Fb GR F=>?_)))));refine ec0 eS (bi (S.up C9) (S.up CE) GR) (ca (ai rfl (ai rfl rfl))) S fun Lk GS S=>?_;have CZ:=aj GS CZ;refine ei Cr (pe (.bool (Fb != 0)) (cN rfl rfl) (pe (.bool (Fb != 0)) (aC rfl Cr rfl) (en E9 (oF F (fun DF F=>?_) fun DF F=>?_))))
   ·refine ct DF (ah (pM Y U (pm CO ?_)));refine aw [CO] (aV rfl (oc CE)) (by rfl) dt rfl dt S dt ?_;intro Ll Lm S GT;have CZ:=aj GT CZ;refine oB F fun IA GU F=>?_;have Es:=S.boxRow 0 rfl;replace S:=S.t1;replace S:=S.roOne (R:=R0_) (W:=J) CE;replace S:=S.one;refine aA rfl dt rfl dt S rfl rfl rfl (by simp) Es GU dt ?_;intro Ln Fc S;refine pa Fc (ag (bn Cw (tn Cj ?_)));replace S:=S.keep 1;exact ⟨DD,D5,Ci,Cl,Fc,IA,rfl,Ce,rfl,S,DE,Cg,F⟩
   refine cf DF (aY (bn Cw (tn Cj ?_)));replace S:=S.keep 1;exact ⟨DD,D5,Ci,Cl,Y,Z,rfl,Ce,U,S,DE,Cg,F⟩
  refine ei Cy (pM Ci Ce (ei Cy (pe (i_ (Cl.length:Int)) (au rfl Cg) (ei Cy (pe (.bool (decide (0 < (Cl.length:Int)))) (bV rfl rfl) (pe (.bool (decide (0 < (Cl.length:Int)))) (aC rfl Cy rfl) (en EF (oF F (fun Da F=>?_) fun Da F=>?_))))))))
  ·refine ct Da (sn DX (bg fun _ Cx=>sR fun _ IB=>pa (i_ 0) (en IB (sg fun _ Fd=>bg fun _ Fe=>sR fun _ IC=>pM Ch Cd (pe (i_ (Ck.length:Int)) (au rfl Cf) (pe (.bool ((Ck.length:Int) == 0)) (ba rfl rfl) (pa (.bool ((Ck.length:Int) == 0)) (en IC (oF F (fun DG F=>?_) fun DG F=>?_)))))))))
   ·refine ct DG (ah (pa (i_ 1) (ag (bn Fe (tn Fd (sR fun _ ID=>?_))))));refine aQ bI S dt ?_;intro Ff IE S JB;refine pa IE (en ID (sg fun _ Fg=>sg fun _ IF=>?_));replace S:=S.r0;refine ah (pm (i_ 1) (pe (.bool (decide (0 < (1:Int)))) (bV rfl rfl) (en IF (oF F (fun DH F=>?_) fun DH F=>?_))))
    ·refine ct DH (sR fun _ IG=>pM Ci Ce (oB F fun Lo GV F=>?_));refine aD (wA:=J) rfl Cg rfl dt rfl GV dt ?_;intro Lp JC Lq CF GW;obtain ⟨CP,rfl⟩:=aq CF;refine pe CP (ae rfl ((aj S.below GW) 0 _ rfl)) (pa CP (en IG (ah (pM Ci Ce (oB F fun D6 GX F=>?_)))));refine dP (wA:=J) rfl rfl Cg (.inl (congrArg some rfl)) (.inr ⟨rfl,rfl⟩) GX dt ?_;intro DI DJ;refine pa DI (en Fg (sR fun _ Fh=>pM Y U (pe (i_ (Z.length:Int)) (au rfl (S.rdAt (R:=(aB (roR J R0_) 30)) 0 rfl)) (pe (.bool ((Z.length:Int) == 0)) (ba rfl rfl) (pm (.bool ((Z.length:Int) == 0)) (oF F (fun Cs F=>?_) fun Cs F=>?_))))))
     ·refine eo Cs (eo Cs (eo Cs (eo Cs (eo Cs (eo Cs (eo Cs (eo Cs (eo Cs (pe (.bool true) (az rfl Cs rfl) (en Fh (ct rfl (ah (pM Y U (pm CP ?_))))))))))))));refine aw [CP] (aV rfl (oc CF)) (by rfl) dt rfl dt S dt ?_;intro Lr Lt S JD;refine oB F fun IH GY F=>?_;have Et:=S.boxRow 0 rfl;replace S:=S.t1;replace S:=S.roOne (R:=R0_) (W:=J) CF;replace S:=S.one;refine aA rfl dt rfl dt S rfl rfl rfl (by simp) Et GY dt ?_;intro Lu Fi S;refine pa Fi (ag (bn Cx (tn Cj ?_)));replace S:=S.keep 1;exact ⟨Ch,Ck,DI,D6,Fi,IH,Cd,rfl,rfl,S,Cf,DJ,F⟩
     refine ei Cs (pM Y U (ei Cs (pM Y U (ei Cs (pe (i_ (Z.length:Int)) (au rfl (S.rdAt (R:=(aB (roR J R0_) 30)) 0 rfl)) (ei Cs (oB F fun II GZ F=>pe (i_ II) (bK rfl rfl GZ) (ei Cs (oB F fun Lv G1 F=>?_)))))))));refine aD (wA:=Ff) rfl (S.rdAt (R:=(aB (roR J R0_) 30)) 0 rfl) rfl dt rfl G1 dt ?_;intro Lw JE Lx Db C0;replace Db:R0_.rd J _ _:=Db;obtain ⟨IJ,rfl⟩:=aq Db;refine ei Cs (pe IJ (ae rfl (C0 0 _ rfl)) (ei Cs (pm CP (ei Cs (oB F fun Fj G2 F=>?_)))));refine ec0 eS (bi (S.up Db) (S.up CF) G2) (ca (ai rfl (ai rfl rfl))) S fun Ly G3 S=>?_;have C0:=aj G3 C0;refine ei Cs (pe (.bool (Fj != 0)) (cN rfl rfl) (pe (.bool (Fj != 0)) (aC rfl Cs rfl) (en Fh (oF F (fun DK F=>?_) fun DK F=>?_))))
     ·refine ct DK (ah (pM Y U (pm CP ?_)));refine aw [CP] (aV rfl (oc CF)) (by rfl) dt rfl dt S dt ?_;intro Lz LA S G4;have C0:=aj G4 C0;refine oB F fun IK G5 F=>?_;have Eu:=S.boxRow 0 rfl;replace S:=S.t1;replace S:=S.roOne (R:=R0_) (W:=J) CF;replace S:=S.one;refine aA rfl dt rfl dt S rfl rfl rfl (by simp) Eu G5 dt ?_;intro LB Fk S;refine pa Fk (ag (bn Cx (tn Cj ?_)));replace S:=S.keep 1;exact ⟨Ch,Ck,DI,D6,Fk,IK,Cd,rfl,rfl,S,Cf,DJ,F⟩
     refine cf DK (aY (bn Cx (tn Cj ?_)));replace S:=S.keep 1;exact ⟨Ch,Ck,DI,D6,Y,Z,Cd,rfl,U,S,Cf,DJ,F⟩
    refine cf DH (sR fun _ IL=>pM Ch Cd (oB F fun LC G6 F=>?_));refine aD (wA:=J) rfl Cf rfl dt rfl G6 dt ?_;intro LD JF LE CG G7;obtain ⟨CQ,rfl⟩:=aq CG;refine pe CQ (ae rfl ((aj S.below G7) 0 _ rfl)) (pa CQ (en IL (ah (pM Ch Cd (oB F fun D7 G8 F=>?_)))));refine dP (wA:=J) rfl rfl Cf (.inl (congrArg some rfl)) (.inr ⟨rfl,rfl⟩) G8 dt ?_;intro DL DM;refine pa DL (en Fg (sR fun _ Fl=>pM Y U (pe (i_ (Z.length:Int)) (au rfl (S.rdAt (R:=(aB (roR J R0_) 30)) 0 rfl)) (pe (.bool ((Z.length:Int) == 0)) (ba rfl rfl) (pm (.bool ((Z.length:Int) == 0)) (oF F (fun Ct F=>?_) fun Ct F=>?_))))))
    ·refine eo Ct (eo Ct (eo Ct (eo Ct (eo Ct (eo Ct (eo Ct (eo Ct (eo Ct (pe (.bool true) (az rfl Ct rfl) (en Fl (ct rfl (ah (pM Y U (pm CQ ?_))))))))))))));refine aw [CQ] (aV rfl (oc CG)) (by rfl) dt rfl dt S dt ?_;intro LF LG S JG;refine oB F fun IM G9 F=>?_;have Ev:=S.boxRow 0 rfl;replace S:=S.t1;replace S:=S.roOne (R:=R0_) (W:=J) CG;replace S:=S.one;refine aA rfl dt rfl dt S rfl rfl rfl (by simp) Ev G9 dt ?_;intro LH Fm S;refine pa Fm (ag (bn Cx (tn Cj ?_)));replace S:=S.keep 1;exact ⟨DL,D7,Ci,Cl,Fm,IM,rfl,Ce,rfl,S,DM,Cg,F⟩
    refine ei Ct (pM Y U (ei Ct (pM Y U (ei Ct (pe (i_ (Z.length:Int)) (au rfl (S.rdAt (R:=(aB (roR J R0_) 30)) 0 rfl)) (ei Ct (oB F fun IN Ha F=>pe (i_ IN) (bK rfl rfl Ha) (ei Ct (oB F fun LI Hb F=>?_)))))))));refine aD (wA:=Ff) rfl (S.rdAt (R:=(aB (roR J R0_) 30)) 0 rfl) rfl dt rfl Hb dt ?_;intro LJ JH LK Dc C1;replace Dc:R0_.rd J _ _:=Dc;obtain ⟨IP,rfl⟩:=aq Dc;refine ei Ct (pe IP (ae rfl (C1 0 _ rfl)) (ei Ct (pm CQ (ei Ct (oB F fun Fn Hc F=>?_)))));refine ec0 eS (bi (S.up Dc) (S.up CG) Hc) (ca (ai rfl (ai rfl rfl))) S fun LL Hd S=>?_;have C1:=aj Hd C1;refine ei Ct (pe (.bool (Fn != 0)) (cN rfl rfl) (pe (.bool (Fn != 0)) (aC rfl Ct rfl) (en Fl (oF F (fun DN F=>?_) fun DN F=>?_))))
    ·refine ct DN (ah (pM Y U (pm CQ ?_)));refine aw [CQ] (aV rfl (oc CG)) (by rfl) dt rfl dt S dt ?_;intro LM LN S He;have C1:=aj He C1;refine oB F fun IQ Hf F=>?_;have Ew:=S.boxRow 0 rfl;replace S:=S.t1;replace S:=S.roOne (R:=R0_) (W:=J) CG;replace S:=S.one;refine aA rfl dt rfl dt S rfl rfl rfl (by simp) Ew Hf dt ?_;intro LO Fo S;refine pa Fo (ag (bn Cx (tn Cj ?_)));replace S:=S.keep 1;exact ⟨DL,D7,Ci,Cl,Fo,IQ,rfl,Ce,rfl,S,DM,Cg,F⟩
    refine cf DN (aY (bn Cx (tn Cj ?_)));replace S:=S.keep 1;exact ⟨DL,D7,Ci,Cl,Y,Z,rfl,Ce,U,S,DM,Cg,F⟩
   refine cf DG (sR fun _ IR=>pM Ci Ce (pe (i_ (Cl.length:Int)) (au rfl Cg) (pe (.bool (decide (0 < (Cl.length:Int)))) (bV rfl rfl) (pa (.bool (decide (0 < (Cl.length:Int)))) (en IR (ct Da ?_))))));refine bz (by kernel_rfl) (by kernel_rfl) ?_;refine qM Ch Cd (oB F fun LP Hg F=>?_);refine aT (wA:=J) rfl Cf rfl dt rfl Hg dt ?_;intro LQ JI LR Ee Hh;obtain ⟨IS,rfl⟩:=aq Ee;refine qe IS (ae rfl ((aj S.below Hh) 0 _ rfl)) (qM Ci Ce (oB F fun LS Hi F=>?_));refine aT (wA:=J) rfl Cg rfl dt rfl Hi dt ?_;intro LT JJ LU Ef Hj;obtain ⟨IT,rfl⟩:=aq Ef;refine qe IT (ae rfl ((aj S.below Hj) 0 _ rfl)) (oB F fun DO Hk F=>?_);refine cn (i_ DO) eS (fun w' hw'=>bi (bN (S.up Ee) hw') (bN (S.up Ef) hw') Hk) (ca (ai rfl (ai rfl rfl))) dt ?_;refine qe (i_ DO) (bW rfl) (aZ ?_);intro LV Hl;replace S:=S.ext Hl;refine bn Fe (tn Fd (sR fun _ IU=>?_));refine aQ bI S dt ?_;intro Fp IV S JK;refine pa IV (en IU (sg fun _ Fq=>sg fun _ IW=>?_));replace S:=S.r0;refine ah (pm (i_ DO) (pe (.bool (decide (0 < DO))) (bV rfl rfl) (en IW (oF F (fun DP F=>?_) fun DP F=>?_))))
   ·refine ct DP (sR fun _ IX=>pM Ci Ce (oB F fun LW Hm F=>?_));refine aD (wA:=J) rfl Cg rfl dt rfl Hm dt ?_;intro LX JL LY CH Hn;obtain ⟨CR,rfl⟩:=aq CH;refine pe CR (ae rfl ((aj S.below Hn) 0 _ rfl)) (pa CR (en IX (ah (pM Ci Ce (oB F fun D8 Ho F=>?_)))));refine dP (wA:=J) rfl rfl Cg (.inl (congrArg some rfl)) (.inr ⟨rfl,rfl⟩) Ho dt ?_;intro DQ DR;refine pa DQ (en Fq (sR fun _ Fr=>pM Y U (pe (i_ (Z.length:Int)) (au rfl (S.rdAt (R:=(aB (roR J R0_) 30)) 0 rfl)) (pe (.bool ((Z.length:Int) == 0)) (ba rfl rfl) (pm (.bool ((Z.length:Int) == 0)) (oF F (fun Cu F=>?_) fun Cu F=>?_))))))
    ·refine eo Cu (eo Cu (eo Cu (eo Cu (eo Cu (eo Cu (eo Cu (eo Cu (eo Cu (pe (.bool true) (az rfl Cu rfl) (en Fr (ct rfl (ah (pM Y U (pm CR ?_))))))))))))));refine aw [CR] (aV rfl (oc CH)) (by rfl) dt rfl dt S dt ?_;intro LZ L0 S JM;refine oB F fun IY Hp F=>?_;have Ex:=S.boxRow 0 rfl;replace S:=S.t1;replace S:=S.roOne (R:=R0_) (W:=J) CH;replace S:=S.one;refine aA rfl dt rfl dt S rfl rfl rfl (by simp) Ex Hp dt ?_;intro L1 Fs S;refine pa Fs (ag (bn Cx (tn Cj ?_)));replace S:=S.keep 1;exact ⟨Ch,Ck,DQ,D8,Fs,IY,Cd,rfl,rfl,S,Cf,DR,F⟩
    refine ei Cu (pM Y U (ei Cu (pM Y U (ei Cu (pe (i_ (Z.length:Int)) (au rfl (S.rdAt (R:=(aB (roR J R0_) 30)) 0 rfl)) (ei Cu (oB F fun IZ Hq F=>pe (i_ IZ) (bK rfl rfl Hq) (ei Cu (oB F fun L2 Hr F=>?_)))))))));refine aD (wA:=Fp) rfl (S.rdAt (R:=(aB (roR J R0_) 30)) 0 rfl) rfl dt rfl Hr dt ?_;intro L3 JN L4 Dd C2;replace Dd:R0_.rd J _ _:=Dd;obtain ⟨I0,rfl⟩:=aq Dd;refine ei Cu (pe I0 (ae rfl (C2 0 _ rfl)) (ei Cu (pm CR (ei Cu (oB F fun Ft Hs F=>?_)))));refine ec0 eS (bi (S.up Dd) (S.up CH) Hs) (ca (ai rfl (ai rfl rfl))) S fun L5 Ht S=>?_;have C2:=aj Ht C2;refine ei Cu (pe (.bool (Ft != 0)) (cN rfl rfl) (pe (.bool (Ft != 0)) (aC rfl Cu rfl) (en Fr (oF F (fun DS F=>?_) fun DS F=>?_))))
    ·refine ct DS (ah (pM Y U (pm CR ?_)));refine aw [CR] (aV rfl (oc CH)) (by rfl) dt rfl dt S dt ?_;intro L6 L7 S Hu;have C2:=aj Hu C2;refine oB F fun I1 Hv F=>?_;have Ey:=S.boxRow 0 rfl;replace S:=S.t1;replace S:=S.roOne (R:=R0_) (W:=J) CH;replace S:=S.one;refine aA rfl dt rfl dt S rfl rfl rfl (by simp) Ey Hv dt ?_;intro L8 Fu S;refine pa Fu (ag (bn Cx (tn Cj ?_)));replace S:=S.keep 1;exact ⟨Ch,Ck,DQ,D8,Fu,I1,Cd,rfl,rfl,S,Cf,DR,F⟩
    refine cf DS (aY (bn Cx (tn Cj ?_)));replace S:=S.keep 1;exact ⟨Ch,Ck,DQ,D8,Y,Z,Cd,rfl,U,S,Cf,DR,F⟩
   refine cf DP (sR fun _ I2=>pM Ch Cd (oB F fun L9 Hw F=>?_));refine aD (wA:=J) rfl Cf rfl dt rfl Hw dt ?_;intro Ma JO Mb CI Hx;obtain ⟨CS,rfl⟩:=aq CI;refine pe CS (ae rfl ((aj S.below Hx) 0 _ rfl)) (pa CS (en I2 (ah (pM Ch Cd (oB F fun D9 Hy F=>?_)))));refine dP (wA:=J) rfl rfl Cf (.inl (congrArg some rfl)) (.inr ⟨rfl,rfl⟩) Hy dt ?_;intro DT DU;refine pa DT (en Fq (sR fun _ Fv=>pM Y U (pe (i_ (Z.length:Int)) (au rfl (S.rdAt (R:=(aB (roR J R0_) 30)) 0 rfl)) (pe (.bool ((Z.length:Int) == 0)) (ba rfl rfl) (pm (.bool ((Z.length:Int) == 0)) (oF F (fun Cv F=>?_) fun Cv F=>?_))))))
   ·refine eo Cv (eo Cv (eo Cv (eo Cv (eo Cv (eo Cv (eo Cv (eo Cv (eo Cv (pe (.bool true) (az rfl Cv rfl) (en Fv (ct rfl (ah (pM Y U (pm CS ?_))))))))))))));refine aw [CS] (aV rfl (oc CI)) (by rfl) dt rfl dt S dt ?_;intro Mc Md S JP;refine oB F fun I3 Hz F=>?_;have Ez:=S.boxRow 0 rfl;replace S:=S.t1;replace S:=S.roOne (R:=R0_) (W:=J) CI;replace S:=S.one;refine aA rfl dt rfl dt S rfl rfl rfl (by simp) Ez Hz dt ?_;intro Me Fw S;refine pa Fw (ag (bn Cx (tn Cj ?_)));replace S:=S.keep 1;exact ⟨DT,D9,Ci,Cl,Fw,I3,rfl,Ce,rfl,S,DU,Cg,F⟩
   refine ei Cv (pM Y U (ei Cv (pM Y U (ei Cv (pe (i_ (Z.length:Int)) (au rfl (S.rdAt (R:=(aB (roR J R0_) 30)) 0 rfl)) (ei Cv (oB F fun I4 HA F=>pe (i_ I4) (bK rfl rfl HA) (ei Cv (oB F fun Mf HB F=>?_)))))))));refine aD (wA:=Fp) rfl (S.rdAt (R:=(aB (roR J R0_) 30)) 0 rfl) rfl dt rfl HB dt ?_;intro Mg JQ Mh De C3;replace De:R0_.rd J _ _:=De;obtain ⟨I5,rfl⟩:=aq De;refine ei Cv (pe I5 (ae rfl (C3 0 _ rfl)) (ei Cv (pm CS (ei Cv (oB F fun Fx HC F=>?_)))));refine ec0 eS (bi (S.up De) (S.up CI) HC) (ca (ai rfl (ai rfl rfl))) S fun Mi HD S=>?_;have C3:=aj HD C3;refine ei Cv (pe (.bool (Fx != 0)) (cN rfl rfl) (pe (.bool (Fx != 0)) (aC rfl Cv rfl) (en Fv (oF F (fun DV F=>?_) fun DV F=>?_))))
   ·refine ct DV (ah (pM Y U (pm CS ?_)));refine aw [CS] (aV rfl (oc CI)) (by rfl) dt rfl dt S dt ?_;intro Mj Mk S HE;have C3:=aj HE C3;refine oB F fun I6 HF F=>?_;have EA:=S.boxRow 0 rfl;replace S:=S.t1;replace S:=S.roOne (R:=R0_) (W:=J) CI;replace S:=S.one;refine aA rfl dt rfl dt S rfl rfl rfl (by simp) EA HF dt ?_;intro Ml Fy S;refine pa Fy (ag (bn Cx (tn Cj ?_)));replace S:=S.keep 1;exact ⟨DT,D9,Ci,Cl,Fy,I6,rfl,Ce,rfl,S,DU,Cg,F⟩
   refine cf DV (aY (bn Cx (tn Cj ?_)));replace S:=S.keep 1;exact ⟨DT,D9,Ci,Cl,Y,Z,rfl,Ce,U,S,DU,Cg,F⟩
  refine cf Da (aH (tx DX (tx Cj ?_)));replace F:=exB F FL;refine bS HQ (tn HP (sR fun _ I7=>pM Y U (pa Y (en I7 (ak (aN rfl rfl ?_))))));have hr:=oI F;exact ⟨Y,cR hr fun r=>Y,(S.rebase FJ).below,Eq.mp (congrArg (fun (r:(List T0_))=>R3_.rd HS [Y] r) hr :) (BY S.below (S.rdAt (R:=(aB (roR J R0_) 30)) 0 rfl))⟩
theorem rL {w0 : World} {u0 : Value} {a0 : List T0_} (ha0 : R3_.rd w0 [u0] a0) {N : Nat} {r : (List T0_)} (hF : fc N a0 = some r) :
    Calls Try.prog 129 #[u0] w0 fun e w' => ∃ (q0 : Value), e = .returned (q0) ∧ Ext w0 w' ∧ R3_.rd w' [q0] r := ru N ha0 hF
theorem gI {w0:World} {a0:Int} {u1:Value} {a1:List T0_} (ha1:R3_.rd w0 [u1] a1) {N:Nat} {r:T4_ × Bool} (F:c9 N a0 a1=some r): Calls Try.prog 111 #[i_ a0,u1] w0 fun e w'=>∃ (q0:Value),e=.returned (.tuple #[.agg #[i_ r.1.1,q0],.bool r.2])∧Sat w0 w' [Own R3_ [q0] r.1.2] := by
 unfold c9 at F;refine aK Try.func111 rfl rfl dt ?_;have S:=Sat.start w0;refine sR fun _ CO=>?_;refine aU S dt ?_;intro Dc Cf S C7;refine pa (.bool false) (en CO (sg fun _ Co=>sR fun _ CP=>pa (i_ 0) (en CP (bg fun _ Cp=>?_))));obtain ⟨CQ,hL,Ci⟩:=ob F;refine aI (fun k e w=>∃ (Cd:Int),e 0=i_ a0∧e 1=u1∧e 4=pt Cf 0∧e 6=i_ Cd∧Sat w0 w [Box Cf 26 [i_ 0,n_]]∧cS N k a0 a1 0 [] Cd=some CQ) N ?_ ?_ ?_
 ·exact ⟨0,rfl,rfl,rfl,rfl,S,hL⟩
 ·rintro e w ⟨_,_,_,_,_,_,hz⟩; exact nn hz
 rintro k Dd De ⟨Cd,Cj,Cg,Z,Ch,S,F⟩;refine gn fun _ Ck=>sg fun _ Cx=>sR fun _ CR=>pM (i_ Cd) Ch (pM u1 Cg (pe (i_ (a1.length:Int)) (au rfl ha1) (pe (.bool (decide (Cd < (a1.length:Int)))) (aW rfl rfl) (en CR (oF F (fun Cl F=>?_) fun Cl F=>?_)))))
 ·refine ct Cl (sn Cx (sg fun _ Cq=>bg fun _ Cr=>sR fun _ Cy=>pM u1 Cg (pM (i_ Cd) Ch (oB F fun Cs CC F=>?_))));refine aD (wA:=w0) rfl ha1 rfl dt rfl CC dt ?_;intro Df C8 Dg Cv CD;obtain ⟨CS,rfl⟩:=aq Cv;refine pe CS (ae rfl ((aj S.below CD) 0 _ rfl)) (pe (i_ (Cs.length:Int)) (au rfl Cv) (pM (i_ a0) Cj (pe (.bool ((Cs.length:Int) != a0)) (cN rfl rfl) (pm (.bool ((Cs.length:Int) != a0)) (oF F (fun J F=>?_) fun J F=>?_)))))
  ·refine eo J (eo J (eo J (eo J (eo J (eo J (pe (.bool true) (az rfl J rfl) (en Cy (ct rfl (sR fun _ CT=>pe (.agg #[i_ 0,n_]) (bp [] [i_ 0,n_] rfl rfl) ?_)))))))));refine am (S.top 0 rfl) Z [i_ 0,n_] rfl rfl dt (all_cons rfl (all_cons rfl rfl)) ?_;intro CU S;replace S:Sat w0 CU [Box Cf 26 [i_ 0,n_]]:=S;refine pa (.bool false) (en CT (ak (br Cr (tr Cq (tr Ck (br Cp (tr Co ?_)))))));replace F:=exL F Ci;replace S:=S.nil R0_ 30;refine eK (cs:=[i_ 0,n_]) rfl Z rfl (ay (S.boxAt 1 rfl)) rfl ?_;have hr:=oI F;exact ⟨n_,cR hr fun r=>.tuple #[.agg #[i_ r.1.1,n_],.bool r.2],sP hr (fun r=>[Own R3_ [n_] r.1.2]) (S.keep 1)⟩
  refine ei J (pM u1 Cg (ei J (pM (i_ Cd) Ch (ei J (oB F fun Dh CE F=>?_)))));refine aD (wA:=w0) rfl ha1 rfl dt rfl CE dt ?_;intro Di C9 Dj Cw CF;obtain ⟨CV,rfl⟩:=aq Cw;refine ei J (pe CV (ae rfl ((aj S.below CF) 0 _ rfl)) (ei J (oB F fun Cz CG F=>?_)));refine ec0 uv (hQ (S.up Cw) CG) (ca (ai rfl rfl)) S fun Dk Da S=>?_;refine ei J (pe (.bool (!Cz)) (bq rfl) (pe (.bool (!Cz)) (aC rfl J rfl) (en Cy (oF F (fun Cm F=>?_) fun Cm F=>?_))))
  ·refine cf (an Cm) (aY (bn Cr (tn Cq (ah (pM (i_ Cd) Ch (oB F fun Ct CH F=>pe (i_ Ct) (aE rfl rfl CH) (pa (i_ Ct) (en Ck ?_))))))));replace S:=S.keep 1;exact ⟨Ct,Cj,Cg,Z,rfl,S,F⟩
  refine ct (ap Cm) (sR fun _ CX=>pe (.agg #[i_ 0,n_]) (bp [] [i_ 0,n_] rfl rfl) ?_);refine am (S.top 0 rfl) Z [i_ 0,n_] rfl rfl dt (all_cons rfl (all_cons rfl rfl)) ?_;intro CY S;replace S:Sat w0 CY [Box Cf 26 [i_ 0,n_]]:=S;refine pa (.bool false) (en CX (ak (br Cr (tr Cq (tr Ck (br Cp (tr Co ?_)))))));replace F:=exL F Ci;replace S:=S.nil R0_ 30;refine eK (cs:=[i_ 0,n_]) rfl Z rfl (ay (S.boxAt 1 rfl)) rfl ?_;have hr:=oI F;exact ⟨n_,cR hr fun r=>.tuple #[.agg #[i_ r.1.1,n_],.bool r.2],sP hr (fun r=>[Own R3_ [n_] r.1.2]) (S.keep 1)⟩
 refine cf Cl (aH (tx Cx (tx Ck ?_)));replace F:=exA F Ci;refine bS Cp (tn Co (sR fun _ CZ=>pM (i_ a0) Cj (pM u1 Cg (oB F fun Dl CI F=>?_))));refine aJ si (rL (S.up ha1) CI) (ca (ai rfl rfl)) dt ?_;rintro _ Dm ⟨Cu,rfl,CJ,Ce⟩;refine ⟨_,rfl,?_⟩;replace S:=S.ext CJ;refine pe (.agg #[i_ a0,Cu]) (bp [(0,[i_ a0]),(1,[Cu])] [i_ a0,Cu] (cQ rfl (cQ (aV rfl (oc Ce)) rfl)) rfl) (oB F fun Y CK F=>?_);refine ec1 vF (nl Ce CK) (ca (ai rfl rfl)) S fun Dn U CL S=>?_;have Ce:=bN Ce CL;refine aU S dt ?_;intro Do CA S CM;have Ce:=bN Ce CM;refine am (S.top 0 rfl) rfl [i_ Y.1,U] rfl rfl dt (all_cons rfl (all_cons (oc (S.rdAt (R:=R3_) 1 rfl)) rfl)) ?_;intro C0 S;replace S:Sat w0 C0 [Box CA 26 [i_ Y.1,U],Own R3_ [U] Y.2,Box Cf 26 [i_ 0,n_]]:=S;refine en CZ (sg fun _ CB=>sR fun _ C1=>pe (.agg #[i_ Y.1,U]) (ax (cs:=[i_ Y.1,U]) rfl rfl (ay (S.boxAt 0 rfl))) (oB F fun C2 CN F=>?_));refine ec0 m8 (dv (S.rdAt (R:=R3_) 1 rfl) CN) (ca (ai rfl rfl)) S fun Dp Db S=>?_;refine pe (.bool (!C2)) (bq rfl) (en C1 (oF F (fun Cn F=>?_) fun Cn F=>?_))
 ·refine cf (an Cn) (sn CB (sR fun _ C3=>pe (.agg #[i_ Y.1,U]) (ax (cs:=[i_ Y.1,U]) rfl rfl (ay (S.boxAt 0 rfl))) ?_));refine am (S.top 2 rfl) Z [i_ Y.1,U] rfl rfl dt (all_cons rfl (all_cons (oc (S.rdAt (R:=R3_) 1 rfl)) rfl)) ?_;intro C4 S;replace S:Sat w0 C4 [Box Cf 26 [i_ Y.1,U],Box CA 26 [i_ Y.1,U],Own R3_ [U] Y.2]:=S;refine pa (.bool true) (en C3 (ak ?_));refine eK (cs:=[i_ Y.1,U]) rfl Z rfl (ay (S.boxAt 0 rfl)) rfl ?_;replace S:=S.t2;have hr:=oI F;exact ⟨U,cR hr fun r=>.tuple #[.agg #[i_ r.1.1,U],.bool r.2],sP hr (fun r=>[Own R3_ [U] r.1.2]) (S.keep 1)⟩
 refine ct (ap Cn) (sg fun _ C5=>?_);replace S:=S.r1.r0;refine ah (pe (.agg #[i_ 0,n_]) (bp [] [i_ 0,n_] rfl rfl) ?_);refine am (S.top 0 rfl) Z [i_ 0,n_] rfl rfl dt (all_cons rfl (all_cons rfl rfl)) ?_;intro C6 S;replace S:Sat w0 C6 [Box Cf 26 [i_ 0,n_]]:=S;refine pa (.bool false) (en C5 (ak (tr CB ?_)));replace S:=S.nil R0_ 30;refine eK (cs:=[i_ 0,n_]) rfl Z rfl (ay (S.boxAt 1 rfl)) rfl ?_;have hr:=oI F;exact ⟨n_,cR hr fun r=>.tuple #[.agg #[i_ r.1.1,n_],.bool r.2],sP hr (fun r=>[Own R3_ [n_] r.1.2]) (S.keep 1)⟩
theorem iM {w0:World} {Z:World} {G0:List Asn} {b0:Nat} {u0:Value} {a0:List Int} {a1:Int} {a2:Int} {a3:Int} {a4:Int} {a5:Int} (ha0:(aB u8R 5).rd Z [u0] a0) (S:Sat Z w0 (Box b0 101 [u0,i_ a1,i_ a2] :: G0)) {N:Nat} {r:T4_ × Int × Int} (F:gk N a0 a1 a2 a3 a4 a5=some r): Calls Try.prog 74 #[.pointer (some ⟨b0,0,none⟩),i_ a3,i_ a4,i_ a5] w0 fun e w'=>∃ (q0:Value),e=.returned (.agg #[i_ r.1.1,q0])∧Sat Z w' (Own R3_ [q0] r.1.2 :: Box b0 101 [u0,i_ r.2.1,i_ r.2.2] :: G0) := by
 unfold gk at F;refine aK Try.func74 rfl rfl dt ?_;refine sR fun _ CH=>?_;refine aU S dt ?_;intro C3 Cd S CY;refine en CH (sR fun _ CI=>?_);refine aQ R0_ S dt ?_;intro C4 Cn S CZ;refine pa Cn (en CI (sg fun _ CJ=>sR fun _ CK=>pm (pt b0 0) (pm (i_ a4) (oB F fun CL CA F=>pe (i_ CL) (aE rfl rfl CA) ?_))));replace S:=S.t2;refine oB F fun Ce CB F=>?_;refine aJ du (bf ha0 S CB) (ca (ai rfl (ai rfl rfl))) dt ?_;rintro _ CM ⟨rfl,S⟩;refine ⟨_,rfl,?_⟩;replace S:Sat Z CM (Box b0 101 [u0,i_ Ce.2.1,i_ Ce.2.2] :: Own R3_ [Cn] [] :: Box Cd 26 [i_ 0,n_] :: G0):=S;refine pa (i_ Ce.1) (en CK (bg fun _ CN=>?_));obtain ⟨CO,hL,CC⟩:=ob F;refine aI (fun k e w=>∃ (Cg:Int),∃ (Ch:Int),∃ (Y:Value),∃ (Ci:List T0_),∃ (Cf:Int),e 0=pt b0 0∧e 1=i_ a3∧e 3=i_ a5∧e 8=pt Cd 0∧e 9=Y∧e 10=i_ Cf∧Sat Z w (Box b0 101 [u0,i_ Cg,i_ Ch] :: Own R3_ [Y] Ci :: Box Cd 26 [i_ 0,n_] :: G0)∧gS N k a0 Cg Ch a3 a5 0 [] Ci Cf=some CO) N ?_ ?_ ?_
 ·exact ⟨Ce.2.1,Ce.2.2,Cn,[],Ce.1,rfl,rfl,rfl,rfl,rfl,rfl,S,hL⟩
 ·rintro e w ⟨_,_,_,_,_,_,_,_,_,_,_,_,hz⟩; exact nn hz
 rintro k C5 C6 ⟨Cg,Ch,Y,Ci,Cf,Cp,Ck,Cq,Cl,Cr,Cs,S,F⟩;refine gn fun _ Cu=>sg fun _ Cv=>sR fun _ CP=>pM (i_ Cf) Cs (pe (.bool (decide (0 < Cf))) (bV rfl rfl) (en CP (oF F (fun Cm F=>?_) fun Cm F=>?_)))
 ·refine ct Cm (sn Cv (sg fun _ CQ=>bg fun _ CR=>ah (pM Y Cr (pM (pt b0 0) Cp (pM (i_ a3) Ck (pM (i_ a5) Cq (oB F fun Cj CD F=>?_)))))));refine aJ qB (jR ha0 S CD) (ca (ai rfl (ai rfl (ai rfl rfl)))) dt ?_;rintro _ CS ⟨Cw,rfl,S⟩;refine ⟨_,rfl,?_⟩;replace S:Sat Z CS (Own R0_ [Cw] Cj.1 :: Box b0 101 [u0,i_ Cj.2.1,i_ Cj.2.2] :: Own R3_ [Y] Ci :: Box Cd 26 [i_ 0,n_] :: G0):=S;refine aw [Cw] (aV rfl (oc (S.rdAt (R:=R0_) 0 rfl))) (by rfl) dt rfl dt S dt ?_;intro C7 C8 S C0;refine oB F fun CT CE F=>?_;have Ct:=S.boxRow 0 rfl;replace S:=S.t3;replace S:=S.t2;replace S:=S.one;refine aA rfl dt rfl dt S rfl rfl rfl (by simp) Ct CE dt ?_;intro C9 Cx S;refine pa Cx (ag (bn CR (tn CQ ?_)));replace S:=S.r1;refine ah (pM (i_ Cf) Cs (oB F fun Co CF F=>pe (i_ Co) (bK rfl rfl CF) (pa (i_ Co) (en Cu ?_))));replace S:=S.t2.t1.t2;exact ⟨Cj.2.1,Cj.2.2,Cx,CT,Co,Cp,Ck,Cq,Cl,rfl,rfl,S,F⟩
 refine cf Cm (aH (tx Cv (tx Cu ?_)));replace F:=exB F CC;refine bS CN (tn CJ (sR fun _ CU=>pM (i_ a3) Ck (pM Y Cr (oB F fun J CG F=>?_))));refine ec1 o9 (gI (S.rdAt (R:=R3_) 1 rfl) CG) (ca (ai rfl (ai rfl rfl))) S fun Da U C1 S=>?_;refine pm (.tuple #[.agg #[i_ J.1.1,U],.bool J.2]) (pe (.agg #[i_ J.1.1,U]) (aF rfl rfl) (pe (.bool J.2) (aF rfl rfl) ?_));refine aU S dt ?_;intro Db Cy S C2;refine am (S.top 0 rfl) rfl [i_ J.1.1,U] rfl rfl dt (all_cons rfl (all_cons (oc (S.rdAt (R:=R3_) 1 rfl)) rfl)) ?_;intro CV S;replace S:Sat Z CV (Box Cy 26 [i_ J.1.1,U] :: Own R3_ [U] J.1.2 :: Box b0 101 [u0,i_ Cg,i_ Ch] :: Own R3_ [Y] Ci :: Box Cd 26 [i_ 0,n_] :: G0):=S;refine pa (.bool J.2) (en CU (sg fun _ CX=>?_));replace S:=S.r3;refine ah (pe (.agg #[i_ J.1.1,U]) (ax (cs:=[i_ J.1.1,U]) rfl rfl (ay (S.boxAt 0 rfl))) ?_);refine am (S.top 3 rfl) Cl [i_ J.1.1,U] rfl rfl dt (all_cons rfl (all_cons (oc (S.rdAt (R:=R3_) 1 rfl)) rfl)) ?_;intro Cz S;replace S:Sat Z Cz (Box Cd 26 [i_ J.1.1,U] :: Box Cy 26 [i_ J.1.1,U] :: Own R3_ [U] J.1.2 :: Box b0 101 [u0,i_ Cg,i_ Ch] :: G0):=S;refine en CX (ak ?_);refine dc (cs:=[i_ J.1.1,U]) rfl Cl rfl (ay (S.boxAt 0 rfl))  ?_;replace S:=S.t3.t3;have hr:=oI F;replace S:=S.r3.r2;exact ⟨U,(cR hr fun r=>.agg #[i_ r.1.1,U] :),Eq.mp (congrArg (fun (r:T4_ × Int × Int)=>Sat Z Cz (Own R3_ [U] r.1.2 :: Box b0 101 [u0,i_ r.2.1,i_ r.2.2] :: G0)) hr :) S⟩
theorem ta {w0:World} {Z:World} {G0:List Asn} {b0:Nat} {u0:Value} {a0:List Int} {a1:Int} {a2:Int} (ha0:(aB u8R 5).rd Z [u0] a0) (S:Sat Z w0 (Box b0 101 [u0,i_ a1,i_ a2] :: G0)) {N:Nat} {r:T4_ × Int × Int} (F:kj N a0 a1 a2=some r): Calls Try.prog 36 #[.pointer (some ⟨b0,0,none⟩)] w0 fun e w'=>∃ (q0:Value),e=.returned (.agg #[i_ r.1.1,q0])∧Sat Z w' (Own R3_ [q0] r.1.2 :: Box b0 101 [u0,i_ r.2.1,i_ r.2.2] :: G0) := by
 unfold kj at F;refine aK Try.func36 rfl rfl dt ?_;refine sR fun _ C0=>?_;refine aU S dt ?_;intro Dt Cd S Dp;refine en C0 (sR fun _ C1=>pm (pt b0 0) (pm (pt b0 0) ?_));replace S:=S.t1;refine oB F fun CA CM F=>?_;refine aJ du (bf ha0 S CM) (ca (ai rfl (ai rfl rfl))) dt ?_;rintro _ C2 ⟨rfl,S⟩;refine ⟨_,rfl,?_⟩;replace S:Sat Z C2 (Box b0 101 [u0,i_ CA.2.1,i_ CA.2.2] :: Box Cd 26 [i_ 0,n_] :: G0):=S;refine oB F fun U CN F=>?_;refine aJ oD (iM ha0 S CN) (ca (ai rfl (ai rfl (ai rfl (ai rfl rfl))))) dt ?_;rintro _ C3 ⟨J,rfl,S⟩;refine ⟨_,rfl,?_⟩;replace S:Sat Z C3 (Own R3_ [J] U.1.2 :: Box b0 101 [u0,i_ U.2.1,i_ U.2.2] :: Box Cd 26 [i_ 0,n_] :: G0):=S;refine aU S dt ?_;intro Du Y S Dq;refine am (S.top 0 rfl) rfl [i_ U.1.1,J] rfl rfl dt (all_cons rfl (all_cons (oc (S.rdAt (R:=R3_) 1 rfl)) rfl)) ?_;intro C4 S;replace S:Sat Z C4 (Box Y 26 [i_ U.1.1,J] :: Own R3_ [J] U.1.2 :: Box b0 101 [u0,i_ U.2.1,i_ U.2.2] :: Box Cd 26 [i_ 0,n_] :: G0):=S;refine en C1 (sg fun _ Cm=>sR fun _ C5=>pm (pt b0 0) ?_);replace S:=S.t2;refine oB F fun Ce CO F=>?_;refine aJ du (bf ha0 S CO) (ca (ai rfl (ai rfl rfl))) dt ?_;rintro _ CB ⟨rfl,S⟩;refine ⟨_,rfl,?_⟩;replace S:Sat Z CB (Box b0 101 [u0,i_ Ce.2.1,i_ Ce.2.2] :: Box Y 26 [i_ U.1.1,J] :: Own R3_ [J] U.1.2 :: Box Cd 26 [i_ 0,n_] :: G0):=S;refine en C5 (bg fun _ Cn=>sR fun _ C6=>pe (.bool (Ce.1 == 0)) (ba rfl rfl) (pa (.bool (Ce.1 == 0)) (en C6 (oF F (fun Co F=>?_) fun Co F=>?_))))
 ·refine ct Co (ah (pm (pt b0 0) (pe (pt Y (0 + 0)) (ac rfl) (pe (i_ U.1.1) (ae rfl ((S.boxAt 1 rfl) 0 _ rfl)) (oB F fun Cp CP F=>pe (i_ Cp) (aE rfl rfl CP) ?_)))));refine cM (R:=bI) (xs:=([(-1),6,Cp]:List Int)) [i_ (-1),i_ 6,i_ Cp] rfl rfl rfl rfl (mY rfl (mY rfl (mY rfl rfl))) (jY ([(-1),6,Cp]:List Int)) S dt ?_;intro Dv Dw S Dr;replace S:=S.t1;refine oB F fun Cf CQ F=>?_;refine aJ lZ (eu ha0 S CQ) (ca (ai rfl (ai rfl rfl))) dt ?_;rintro _ C7 ⟨rfl,S⟩;refine ⟨_,rfl,?_⟩;replace S:Sat Z C7 (Box b0 101 [u0,i_ Cf.2.1,i_ Cf.2.2] :: Box Y 26 [i_ U.1.1,J] :: Own R3_ [J] U.1.2 :: Box Cd 26 [i_ 0,n_] :: G0):=S;refine pe (pt Y (0 + 0)) (ac rfl) ?_;refine am (S.top 1 rfl) rfl [i_ Cf.1] rfl rfl dt (all_cons rfl rfl) ?_;intro C8 S;replace S:Sat Z C8 (Box Y 26 [i_ Cf.1,J] :: Box b0 101 [u0,i_ Cf.2.1,i_ Cf.2.2] :: Own R3_ [J] U.1.2 :: Box Cd 26 [i_ 0,n_] :: G0):=S;refine ag (bn Cn (tn Cm (sR fun _ C9=>pe (.agg #[i_ Cf.1,J]) (ax (cs:=[i_ Cf.1,J]) rfl rfl (ay (S.boxAt 0 rfl))) ?_)));refine am (S.top 3 rfl) rfl [i_ Cf.1,J] rfl rfl dt (all_cons rfl (all_cons (oc (S.rdAt (R:=R3_) 2 rfl)) rfl)) ?_;intro CC S;replace S:Sat Z CC (Box Cd 26 [i_ Cf.1,J] :: Box Y 26 [i_ Cf.1,J] :: Box b0 101 [u0,i_ Cf.2.1,i_ Cf.2.2] :: Own R3_ [J] U.1.2 :: G0):=S;refine en C9 (ak ?_);refine dc (cs:=[i_ Cf.1,J]) rfl rfl rfl (ay (S.boxAt 0 rfl))  ?_;replace S:=S.t2.t3;have hr:=oI F;replace S:=S.r3.r2;exact ⟨J,(cR hr fun r=>.agg #[i_ r.1.1,J] :),Eq.mp (congrArg (fun (r:T4_ × Int × Int)=>Sat Z CC (Own R3_ [J] r.1.2 :: Box b0 101 [u0,i_ r.2.1,i_ r.2.2] :: G0)) hr :) S⟩
 refine cf Co (sR fun _ Da=>pe (.bool (Ce.1 == 1)) (ba rfl rfl) (pa (.bool (Ce.1 == 1)) (en Da (oF F (fun Cq F=>?_) fun Cq F=>?_))))
 ·refine ct Cq ?_;obtain ⟨C,hCd⟩:∃ C:World → Prop,∀ w,C w ↔ ∃ G,Sat Z w ([Box Y 26 [i_ U.1.1,J]] ++ G):=⟨_,fun _=>Iff.rfl⟩;refine bD [0,1,2,3,4,5,6,7,8,9] C (by kernel_rfl) ?_;intro Dx CR;replace S:=S.ext CR;replace S:=S.t1;have hC:=(hCd _).2 ⟨_,S⟩;refine aP (pt Y (0 + 1)) 0 rfl rfl hC (av rfl (fun w' hw'=>by obtain ⟨_,S⟩:=(hCd _).1 hw'; exact (ac rfl))) ?_;refine aP J 1 rfl rfl hC (av rfl (fun w' hw'=>by obtain ⟨_,S⟩:=(hCd _).1 hw'; exact (ae rfl ((S.boxAt 0 rfl) 1 _ rfl)))) ?_;refine aP (pt b0 0) 2 rfl rfl hC (av rfl (fun w' hw'=>by obtain ⟨_,S⟩:=(hCd _).1 hw'; exact (aL rfl))) ?_;refine aO 3 rfl ?_;refine pe (pt Y (0 + 0)) (ac rfl) (ag ?_);refine ⟨fun _=>hC,?_⟩;refine aO 4 rfl ?_;refine pe (i_ U.1.1) (ae rfl ((S.boxAt 0 rfl) 0 _ rfl)) (ag ?_);refine ⟨fun _=>hC,?_⟩;refine aO 5 rfl ?_;refine pe (i_ (imx 0 U.1.1)) (ou rfl rfl) (ag ?_);have hC:=(hCd _).2 ⟨_,S⟩;refine ⟨fun _=>hC,?_⟩;refine aO 6 rfl ?_;replace S:=S.t1;refine oB F fun Ci CS F=>?_;refine aJ qB (jR ha0 S CS) (ca (ai rfl (ai rfl (ai rfl rfl)))) dt ?_;rintro _ Db ⟨Cu,rfl,S⟩;refine ⟨_,rfl,?_⟩;replace S:Sat Z Db (Own R0_ [Cu] Ci.1 :: Box b0 101 [u0,i_ Ci.2.1,i_ Ci.2.2] :: Box Y 26 [i_ U.1.1,J] :: Own R3_ [J] U.1.2 :: Box Cd 26 [i_ 0,n_] :: G0):=S;refine ag ?_;replace S:=S.t2;have hC:=(hCd _).2 ⟨_,S⟩;refine ⟨fun _=>hC,?_⟩;refine aO 7 rfl ?_;refine aw [Cu] (aV rfl (oc (S.rdAt (R:=R0_) 1 rfl))) (by rfl) dt rfl dt S dt ?_;intro Dy Dc S Ds;refine ag ?_;replace S:=S.t1;have hC:=(hCd _).2 ⟨_,S⟩;refine ⟨fun _=>hC,?_⟩;refine aO 8 rfl ?_;refine oB F fun CD CT F=>?_;have Cz:=S.boxRow 1 rfl;replace S:=S.t4;replace S:=S.t3;replace S:=S.one;refine aA rfl dt rfl dt S rfl rfl rfl (by simp) Cz CT dt ?_;intro Dz Cg S;refine ag ?_;replace S:=S.t1;have hC:=(hCd _).2 ⟨_,S⟩;refine ⟨fun _=>hC,?_⟩;refine aO 9 rfl ?_;refine pe (pt Y (0 + 1)) (ac rfl) (ag ?_);refine ⟨fun _=>hC,?_⟩;refine aO 10 rfl ?_;refine am (S.top 0 rfl) rfl [Cg] (aV rfl (oc (S.rdAt (R:=R3_) 1 rfl))) rfl dt (all_cons (oc (S.rdAt (R:=R3_) 1 rfl)) rfl) ?_;intro Dd S;replace S:Sat Z Dd (Box Y 26 [i_ U.1.1,Cg] :: Own R3_ [Cg] CD :: Box Dc 30 [Cu] :: Box b0 101 [u0,i_ Ci.2.1,i_ Ci.2.2] :: Box Cd 26 [i_ 0,n_] :: G0):=S;refine ag ?_;refine ⟨fun h=>(nomatch (show false=true from h)),?_⟩;refine bt (by kernel_rfl) ?_;refine bn Cn (tn Cm (sg fun _ De=>?_));replace S:=S.r2;refine ah (pe (.agg #[i_ U.1.1,Cg]) (ax (cs:=[i_ U.1.1,Cg]) rfl rfl (ay (S.boxAt 0 rfl))) ?_);refine am (S.top 3 rfl) rfl [i_ U.1.1,Cg] rfl rfl dt (all_cons rfl (all_cons (oc (S.rdAt (R:=R3_) 1 rfl)) rfl)) ?_;intro CE S;replace S:Sat Z CE (Box Cd 26 [i_ U.1.1,Cg] :: Box Y 26 [i_ U.1.1,Cg] :: Own R3_ [Cg] CD :: Box b0 101 [u0,i_ Ci.2.1,i_ Ci.2.2] :: G0):=S;refine en De (ak ?_);refine dc (cs:=[i_ U.1.1,Cg]) rfl rfl rfl (ay (S.boxAt 0 rfl))  ?_;replace S:=S.t3.t3;have hr:=oI F;replace S:=S.r3.r2;exact ⟨Cg,(cR hr fun r=>.agg #[i_ r.1.1,Cg] :),Eq.mp (congrArg (fun (r:T4_ × Int × Int)=>Sat Z CE (Own R3_ [Cg] r.1.2 :: Box b0 101 [u0,i_ r.2.1,i_ r.2.2] :: G0)) hr :) S⟩
 refine cf Cq (sR fun _ Df=>pe (.bool (Ce.1 == 2)) (ba rfl rfl) (pa (.bool (Ce.1 == 2)) (en Df (oF F (fun Cr F=>?_) fun Cr F=>?_))))
 ·refine ct Cr (sR fun _ CF=>pe (pt Y (0 + 1)) (ac rfl) (pe J (ae rfl ((S.boxAt 1 rfl) 1 _ rfl)) (pe (i_ (U.1.2.length:Int)) (au rfl (S.rdAt (R:=R3_) 2 rfl)) (pe (.bool (decide (0 < (U.1.2.length:Int)))) (bV rfl rfl) (pm (.bool (decide (0 < (U.1.2.length:Int)))) (oF F (fun Ch F=>?_) fun Ch F=>?_))))))
  ·refine ei Ch (pe (pt Y (0 + 0)) (ac rfl) (ei Ch (pe (i_ U.1.1) (ae rfl ((S.boxAt 1 rfl) 0 _ rfl)) (ei Ch (pe (.bool (decide (0 < U.1.1))) (bV rfl rfl) (pe (.bool (decide (0 < U.1.1))) (az rfl Ch rfl) (en CF (oF F (fun Cs F=>?_) fun Cs F=>?_))))))))
   ·refine ct Cs (oB F fun CG Cv F=>?_);replace S:=S.t2;obtain ⟨Ct,Dn,DA,CU,Cl,S⟩:=S.takeOutC (m:=1) Cv rfl;obtain ⟨Cj,rfl⟩:=aq Cl;replace S:Sat Z CB (Own R0_ [Cj] CG :: gW R0_ 30 J U.1.2 (0:Int).toNat [Cj] Ct 1 :: Box b0 101 [u0,i_ Ce.2.1,i_ Ce.2.2] :: Box Y 26 [i_ U.1.1,J] :: Box Cd 26 [i_ 0,n_] :: G0):=S;obtain ⟨C,hCd⟩:∃ C:World → Prop,∀ w,C w ↔ ∃ G,Sat Z w ([Box Y 26 [i_ U.1.1,J],gW R0_ 30 J U.1.2 (0:Int).toNat [Cj] Ct 1] ++ G):=⟨_,fun _=>Iff.rfl⟩;refine bD [0,1,2,3,4,5,6,7] C (by kernel_rfl) ?_;intro DB Cw;replace S:=S.ext Cw;have Cl:=bN Cl Cw;replace S:=S.t1.t3;have hC:=(hCd _).2 ⟨_,S⟩;refine aP (pt Y (0 + 1)) 0 rfl rfl hC (av rfl (fun w' hw'=>by obtain ⟨_,S⟩:=(hCd _).1 hw'; exact (ac rfl))) ?_;refine aP J 1 rfl rfl hC (av rfl (fun w' hw'=>by obtain ⟨_,S⟩:=(hCd _).1 hw'; exact (ae rfl ((S.boxAt 0 rfl) 1 _ rfl)))) ?_;refine aP (pt Ct ((0:Int).toNat * 1)) 2 rfl rfl hC (av rfl (fun w' hw'=>by obtain ⟨_,S⟩:=(hCd _).1 hw'; exact (jk (v:=J) rfl CU rfl Cv))) ?_;refine aP Cj 3 rfl rfl hC (av rfl (fun w' hw'=>by obtain ⟨_,S⟩:=(hCd _).1 hw'; exact (ae rfl ((S.holeCells 1 rfl) 0 _ rfl)))) ?_;refine aP (pt b0 0) 4 rfl rfl hC (av rfl (fun w' hw'=>by obtain ⟨_,S⟩:=(hCd _).1 hw'; exact (aL rfl))) ?_;refine aO 5 rfl ?_;refine cM (R:=bI) (xs:=([(-1),100,99]:List Int)) [i_ (-1),i_ 100,i_ 99] rfl rfl rfl rfl (by rfl) (jY ([(-1),100,99]:List Int)) S dt ?_;intro DC DD S CV;have Cl:=bN Cl CV;refine ag ?_;replace S:=S.t2.t2;have hC:=(hCd _).2 ⟨_,S⟩;refine ⟨fun _=>hC,?_⟩;refine aO 6 rfl ?_;replace S:=S.t2.t4;refine oB F fun Ck CX F=>?_;refine aJ lZ (eu ha0 S CX) (ca (ai rfl (ai rfl rfl))) dt ?_;rintro _ Dg ⟨rfl,S⟩;refine ⟨_,rfl,?_⟩;replace S:Sat Z Dg (Box b0 101 [u0,i_ Ck.2.1,i_ Ck.2.2] :: Box Y 26 [i_ U.1.1,J] :: gW R0_ 30 J U.1.2 (0:Int).toNat [Cj] Ct 1 :: Own R0_ [Cj] CG :: Box Cd 26 [i_ 0,n_] :: G0):=S;refine ag ?_;replace S:=S.t2.t2;have hC:=(hCd _).2 ⟨_,S⟩;refine ⟨fun _=>hC,?_⟩;refine aO 7 rfl ?_;refine oB F fun DE Cx F=>?_;obtain ⟨Dh,Do,Cy⟩:=bk 3 S rfl Cx;refine pe (pt Dh ((0:Int).toNat * 1)) (be (v:=Cj) rfl Cy rfl Cx) (ag ?_);refine ⟨fun _=>hC,?_⟩;refine aO 8 rfl ?_;refine oB F fun DF CY F=>?_;replace S:=S.t3;replace S:=S.int Ck.1;refine gq rfl Cy S CY rfl rfl ?_;intro Di S;replace S:=S.t2;replace S:=S.t1;refine oB F fun CH CZ F=>?_;replace S:=S.putBackC CZ;replace S:Sat Z Di (Own R3_ [J] CH :: Box Y 26 [i_ U.1.1,J] :: Box b0 101 [u0,i_ Ck.2.1,i_ Ck.2.2] :: Box Cd 26 [i_ 0,n_] :: G0):=S;refine ag ?_;refine ⟨fun h=>(nomatch (show false=true from h)),?_⟩;refine bt (by kernel_rfl) ?_;refine bn Cn (tn Cm (sR fun _ Dj=>pe (.agg #[i_ U.1.1,J]) (ax (cs:=[i_ U.1.1,J]) rfl rfl (ay (S.boxAt 1 rfl))) ?_));refine am (S.top 3 rfl) rfl [i_ U.1.1,J] rfl rfl dt (all_cons rfl (all_cons (oc (S.rdAt (R:=R3_) 0 rfl)) rfl)) ?_;intro CI S;replace S:Sat Z CI (Box Cd 26 [i_ U.1.1,J] :: Own R3_ [J] CH :: Box Y 26 [i_ U.1.1,J] :: Box b0 101 [u0,i_ Ck.2.1,i_ Ck.2.2] :: G0):=S;refine en Dj (ak ?_);refine dc (cs:=[i_ U.1.1,J]) rfl rfl rfl (ay (S.boxAt 0 rfl))  ?_;replace S:=S.t3.t2;have hr:=oI F;replace S:=S.r3.r2;exact ⟨J,(cR hr fun r=>.agg #[i_ r.1.1,J] :),Eq.mp (congrArg (fun (r:T4_ × Int × Int)=>Sat Z CI (Own R3_ [J] r.1.2 :: Box b0 101 [u0,i_ r.2.1,i_ r.2.2] :: G0)) hr :) S⟩
   refine cf Cs (aY (bn Cn (tn Cm (sR fun _ Dk=>pe (.agg #[i_ U.1.1,J]) (ax (cs:=[i_ U.1.1,J]) rfl rfl (ay (S.boxAt 1 rfl))) ?_))));refine am (S.top 3 rfl) rfl [i_ U.1.1,J] rfl rfl dt (all_cons rfl (all_cons (oc (S.rdAt (R:=R3_) 2 rfl)) rfl)) ?_;intro CJ S;replace S:Sat Z CJ (Box Cd 26 [i_ U.1.1,J] :: Box b0 101 [u0,i_ Ce.2.1,i_ Ce.2.2] :: Box Y 26 [i_ U.1.1,J] :: Own R3_ [J] U.1.2 :: G0):=S;refine en Dk (ak ?_);refine dc (cs:=[i_ U.1.1,J]) rfl rfl rfl (ay (S.boxAt 0 rfl))  ?_;replace S:=S.t1.t3;have hr:=oI F;replace S:=S.r3.r2;exact ⟨J,(cR hr fun r=>.agg #[i_ r.1.1,J] :),Eq.mp (congrArg (fun (r:T4_ × Int × Int)=>Sat Z CJ (Own R3_ [J] r.1.2 :: Box b0 101 [u0,i_ r.2.1,i_ r.2.2] :: G0)) hr :) S⟩
  refine eo Ch (eo Ch (eo Ch (pe (.bool false) (aC rfl Ch rfl) (en CF (cf rfl (aY (bn Cn (tn Cm (sR fun _ Dl=>pe (.agg #[i_ U.1.1,J]) (ax (cs:=[i_ U.1.1,J]) rfl rfl (ay (S.boxAt 1 rfl))) ?_)))))))));refine am (S.top 3 rfl) rfl [i_ U.1.1,J] rfl rfl dt (all_cons rfl (all_cons (oc (S.rdAt (R:=R3_) 2 rfl)) rfl)) ?_;intro CK S;replace S:Sat Z CK (Box Cd 26 [i_ U.1.1,J] :: Box b0 101 [u0,i_ Ce.2.1,i_ Ce.2.2] :: Box Y 26 [i_ U.1.1,J] :: Own R3_ [J] U.1.2 :: G0):=S;refine en Dl (ak ?_);refine dc (cs:=[i_ U.1.1,J]) rfl rfl rfl (ay (S.boxAt 0 rfl))  ?_;replace S:=S.t1.t3;have hr:=oI F;replace S:=S.r3.r2;exact ⟨J,(cR hr fun r=>.agg #[i_ r.1.1,J] :),Eq.mp (congrArg (fun (r:T4_ × Int × Int)=>Sat Z CK (Own R3_ [J] r.1.2 :: Box b0 101 [u0,i_ r.2.1,i_ r.2.2] :: G0)) hr :) S⟩
 refine cf Cr (aY (bn Cn (tn Cm (sR fun _ Dm=>pe (.agg #[i_ U.1.1,J]) (ax (cs:=[i_ U.1.1,J]) rfl rfl (ay (S.boxAt 1 rfl))) ?_))));refine am (S.top 3 rfl) rfl [i_ U.1.1,J] rfl rfl dt (all_cons rfl (all_cons (oc (S.rdAt (R:=R3_) 2 rfl)) rfl)) ?_;intro CL S;replace S:Sat Z CL (Box Cd 26 [i_ U.1.1,J] :: Box b0 101 [u0,i_ Ce.2.1,i_ Ce.2.2] :: Box Y 26 [i_ U.1.1,J] :: Own R3_ [J] U.1.2 :: G0):=S;refine en Dm (ak ?_);refine dc (cs:=[i_ U.1.1,J]) rfl rfl rfl (ay (S.boxAt 0 rfl))  ?_;replace S:=S.t1.t3;have hr:=oI F;replace S:=S.r3.r2;exact ⟨J,(cR hr fun r=>.agg #[i_ r.1.1,J] :),Eq.mp (congrArg (fun (r:T4_ × Int × Int)=>Sat Z CL (Own R3_ [J] r.1.2 :: Box b0 101 [u0,i_ r.2.1,i_ r.2.2] :: G0)) hr :) S⟩
theorem ib {w0:World} {a0:Int} {a1:Int} {a2:Int}  {N:Nat} {r:Bool} (F:fQ N a0 a1 a2=some r): Calls Try.prog 65 #[i_ a0,i_ a1,i_ a2] w0 fun e w'=>e=.returned (.bool r)∧Ext w0 w' := by
 unfold fQ at F;refine aK Try.func65 rfl rfl dt ?_;have S:=Sat.start w0;refine sR fun _ Y=>pa (.bool false) (en Y (sR fun _ U=>pm (i_ a0) (pm (i_ a1) (pe (.bool (decide (a1 ≤ a0))) (iU rfl rfl) (pm (.bool (decide (a1 ≤ a0))) (oF F (fun J F=>?_) fun J F=>?_))))))
 ·refine ei J (pm (i_ a0) (ei J (pm (i_ a2) (ei J (pe (.bool (decide (a0 ≤ a2))) (lh rfl rfl) (pe (.bool (decide (a0 ≤ a2))) (az rfl J rfl) (pa (.bool (decide (a0 ≤ a2))) (en U (ak (aN rfl rfl ?_))))))))));exact rB F S
 refine eo J (eo J (eo J (pe (.bool false) (aC rfl J rfl) (pa (.bool false) (en U (ak (aN rfl rfl ?_)))))));exact rB F S
theorem iX {w0:World} {a0:Int} {a1:Int}  {N:Nat} {r:Int} (F:eQ N a0 a1=some r): Calls Try.prog 73 #[i_ a0,i_ a1] w0 fun e w'=>e=.returned (i_ r)∧Ext w0 w' := by
 unfold eQ at F;refine aK Try.func73 rfl rfl dt ?_;have S:=Sat.start w0;refine sR fun _ Cd=>pa (i_ 0) (en Cd (sg fun _ Y=>bg fun _ Z=>sR fun _ Ce=>pm (i_ a0) (pm (i_ a1) (pe (.bool (decide (a0 < a1))) (aW rfl rfl) (pa (.bool (decide (a0 < a1))) (en Ce (oF F (fun J F=>?_) fun J F=>?_)))))))
 ·refine ct J (sR fun _ Cf=>pa (i_ (-1)) (en Cf (ak (br Z (tr Y (aN rfl rfl ?_))))));exact rI F S
 refine cf J (sR fun _ Cg=>pm (i_ a0) (pm (i_ a1) (pe (.bool (decide (a1 < a0))) (bV rfl rfl) (pa (.bool (decide (a1 < a0))) (en Cg (oF F (fun U F=>?_) fun U F=>?_))))))
 ·refine ct U (sR fun _ Ch=>pa (i_ 1) (en Ch (ak (br Z (tr Y (aN rfl rfl ?_))))));exact rI F S
 refine cf U (aY (bn Z (tn Y (sR fun _ Ci=>pa (i_ 0) (en Ci (ak (aN rfl rfl ?_)))))));exact rI F S
end
section
set_option maxRecDepth 100000
set_option maxHeartbeats 4000000
theorem n0 {w0:World} {u0:Value} {a0:List Int} {u1:Value} {a1:List Int} (ha0:R0_.rd w0 [u0] a0) (ha1:R0_.rd w0 [u1] a1) {N:Nat} {r:Int} (F:gx N a0 a1=some r): Calls Try.prog 33 #[u0,u1] w0 fun e w'=>e=.returned (i_ r)∧Ext w0 w' := by
 unfold gx at F;refine aK Try.func33 rfl rfl dt ?_;have S:=Sat.start w0;refine sR fun _ CK=>pa (i_ 0) (en CK (sg fun _ Ci=>sR fun _ CL=>pa (i_ 0) (en CL (bg fun _ Cj=>?_))));obtain ⟨CM,hL,Ce⟩:=ob F;refine aI (fun k e w=>∃ (J:Int),e 0=u0∧e 1=u1∧e 5=i_ J∧Sat w0 w []∧fB N k a0 a1 J=some CM) N ?_ ?_ ?_
 ·exact ⟨0,rfl,rfl,rfl,S,hL⟩
 ·rintro e w ⟨_,_,_,_,_,hz⟩; exact nn hz
 rintro k C2 C3 ⟨J,Z,Cd,Y,S,F⟩;refine gn fun _ Cf=>sg fun _ Ck=>sR fun _ Cm=>pM (i_ J) Y (pM u0 Z (pe (i_ (a0.length:Int)) (au rfl ha0) (pe (.bool (decide (J < (a0.length:Int)))) (aW rfl rfl) (pm (.bool (decide (J < (a0.length:Int)))) (oF F (fun U F=>?_) fun U F=>?_)))))
 ·refine ei U (pM (i_ J) Y (ei U (pM u1 Cd (ei U (pe (i_ (a1.length:Int)) (au rfl ha1) (ei U (pe (.bool (decide (J < (a1.length:Int)))) (aW rfl rfl) (pe (.bool (decide (J < (a1.length:Int)))) (az rfl U rfl) (en Cm (oF F (fun Cg F=>?_) fun Cg F=>?_))))))))))
  ·refine ct Cg (sn Ck (sg fun _ Cn=>bg fun _ Co=>sg fun _ CN=>?_));refine bz (by kernel_rfl) (by kernel_rfl) ?_;refine qM u0 Z (qM (i_ J) Y (oB F fun Cp Cs F=>?_));refine aT (wA:=w0) rfl ha0 rfl dt rfl Cs dt ?_;intro C4 CV C5 Ct Cu;obtain rfl:=Ct;refine qe (i_ Cp) (ae rfl ((aj S.below Cu) 0 _ rfl)) (qM u1 Cd (qM (i_ J) Y (oB F fun Cq Cv F=>?_)));refine aT (wA:=w0) rfl ha1 rfl dt rfl Cv dt ?_;intro C6 CX C7 Cw Cx;obtain rfl:=Cw;refine qe (i_ Cq) (ae rfl ((aj S.below Cx) 0 _ rfl)) (qe (.bool (Cp != Cq)) (cN rfl rfl) (aZ ?_));intro C8 Cy;replace S:=S.ext Cy;refine tn CN (oF F (fun Ch F=>?_) fun Ch F=>?_)
   ·refine ct Ch (sg fun _ CO=>?_);refine bz (by kernel_rfl) (by kernel_rfl) ?_;refine qM u0 Z (qM (i_ J) Y (oB F fun CP Cz F=>?_));refine aT (wA:=w0) rfl ha0 rfl dt rfl Cz dt ?_;intro C9 CY Da CA CB;obtain rfl:=CA;refine qe (i_ CP) (ae rfl ((aj S.below CB) 0 _ rfl)) (qM u1 Cd (qM (i_ J) Y (oB F fun CQ CC F=>?_)));refine aT (wA:=w0) rfl ha1 rfl dt rfl CC dt ?_;intro Db CZ Dc CD CE;obtain rfl:=CD;refine qe (i_ CQ) (ae rfl ((aj S.below CE) 0 _ rfl)) (oB F fun Cr CF F=>?_);refine cn (i_ Cr) tH (fun w' hw'=>iX CF) (ca (ai rfl (ai rfl rfl))) dt ?_;refine qe (i_ Cr) (bW rfl) (aZ ?_);intro Dd CG;replace S:=S.ext CG;refine tn CO (ak (br Co (tr Cn (tr Cf (br Cj (tr Ci ?_))))));replace F:=exL F Ce;refine aN rfl rfl ?_;exact rI F S
   refine cf Ch (aY (bn Co (tn Cn (ah (pM (i_ J) Y (oB F fun Cl CH F=>pe (i_ Cl) (aE rfl rfl CH) (pa (i_ Cl) (en Cf ?_))))))));replace S:=S.keep 0;exact ⟨Cl,Z,Cd,rfl,S,F⟩
  refine cf Cg (aH (tx Ck (tx Cf ?_)));replace F:=exA F Ce;refine bS Cj (tn Ci (sR fun _ CR=>pM u0 Z (pe (i_ (a0.length:Int)) (au rfl ha0) (pM u1 Cd (pe (i_ (a1.length:Int)) (au rfl ha1) (oB F fun CS CI F=>?_))))));refine ec0 tH (iX CI) (ca (ai rfl (ai rfl rfl))) S fun De C0 S=>?_;refine pa (i_ CS) (en CR (ak (aN rfl rfl ?_)));exact rI F S
 refine eo U (eo U (eo U (eo U (pe (.bool false) (aC rfl U rfl) (en Cm (cf rfl (aH (tx Ck (tx Cf ?_)))))))));replace F:=exA F Ce;refine bS Cj (tn Ci (sR fun _ CT=>pM u0 Z (pe (i_ (a0.length:Int)) (au rfl ha0) (pM u1 Cd (pe (i_ (a1.length:Int)) (au rfl ha1) (oB F fun CU CJ F=>?_))))));refine ec0 tH (iX CJ) (ca (ai rfl (ai rfl rfl))) S fun Df C1 S=>?_;refine pa (i_ CU) (en CT (ak (aN rfl rfl ?_)));exact rI F S
theorem mK {w0:World} {u0:Value} {a0:List Int} (ha0:R0_.rd w0 [u0] a0) {N:Nat} {r:Bool} (F:fA N a0=some r): Calls Try.prog 112 #[u0] w0 fun e w'=>e=.returned (.bool r)∧Ext w0 w' := by
 unfold fA at F;refine aK Try.func112 rfl rfl dt ?_;have S:=Sat.start w0;refine sR fun _ Ct=>pa (.bool false) (en Ct (sg fun _ Cj=>sR fun _ Cu=>pm u0 (pe (i_ (a0.length:Int)) (au rfl ha0) (pm (i_ 0) (en Cu (bg fun _ Ck=>?_))))));obtain ⟨Cv,hL,Cg⟩:=ob F;refine aI (fun k e w=>∃ (J:Int),e 5=u0∧e 6=i_ (a0.length:Int)∧e 7=i_ J∧Sat w0 w []∧cK N k a0 (a0.length:Int) J=some Cv) N ?_ ?_ ?_
 ·exact ⟨0,rfl,rfl,rfl,S,hL⟩
 ·rintro e w ⟨_,_,_,_,_,hz⟩; exact nn hz
 rintro k CE CF ⟨J,Ch,Ci,U,S,F⟩;refine gn fun _ Cd=>sR fun _ Cw=>pe (.bool (decide (J < (a0.length:Int)))) (aW U Ci) (en Cw (sg fun _ Cl=>oF F (fun Y F=>?_) fun Y F=>?_))
 ·refine ct Y (sn Cl (sg fun _ Cm=>bg fun _ Cn=>sR fun _ Cx=>oB F fun Ce Co F=>?_));refine aD (wA:=w0) Ch ha0 rfl dt U Co dt ?_;intro CG CC CH Cp Cq;obtain rfl:=Cp;refine pe (i_ Ce) (ae rfl ((aj S.below Cq) 0 _ rfl)) (pa (i_ Ce) (en Cx (sR fun _ Cy=>pm (i_ Ce) (oB F fun Cz Cr F=>?_))));refine ec0 oP (ib Cr) (ca (ai rfl (ai rfl (ai rfl rfl)))) S fun CI CD S=>?_;refine pe (.bool (!Cz)) (bq rfl) (en Cy (oF F (fun Z F=>?_) fun Z F=>?_))
  ·refine cf (an Z) (aY (bn Cn (tn Cm (ah (oB F fun Cf Cs F=>pe (i_ Cf) (aE U rfl Cs) (pm (i_ Cf) (en Cd ?_)))))));replace S:=S.keep 0;exact ⟨Cf,Ch,Ci,rfl,S,F⟩
  refine ct (ap Z) (sR fun _ CA=>pa (.bool false) (en CA (ak (br Cn (tr Cm (tr Cd (br Ck (tr Cj ?_))))))));replace F:=exL F Cg;refine aN rfl rfl ?_;exact rB F S
 refine cf Y (aH (tx Cl (tx Cd ?_)));replace F:=exA F Cg;refine bS Ck (tn Cj (sR fun _ CB=>pa (.bool true) (en CB (ak (aN rfl rfl ?_)))));exact rB F S
end
end Go.Proofs.Ytdapplkijobjoaa
