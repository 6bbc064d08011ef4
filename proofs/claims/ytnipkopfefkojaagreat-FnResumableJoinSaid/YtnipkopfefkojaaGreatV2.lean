/- Plain laws: NextJoinRows. -/
import Derived.Test.YtnipkopfefkojaaGreatV1
namespace Go.Proofs.YtnipkopfefkojaaGreat
open Go.RowKit
section
variable {N:Nat}
theorem uH {rows:aF} {last:List Int} {i:Nat} (h:i<rows.length):c8 (rows.drop i) last=bif eB last rows[i] then rows[i] :: c8 (rows.drop (i+1)) last else c8 (rows.drop (i+1)) last:=by
 unfold c8
 rw [dM h,List.filter_cons]
 cases eB last rows[i]
 ·rw [if_neg (by decide),cond_false]
 ·rw [if_pos rfl,cond_true]
theorem xz (hN:1073741824≤N) {rows:aF} {last:List Int} {n:Int} (hr:dc rows) (hl:last.length≤1048576):∀ (m i k:Nat) (out:aF),i+m=rows.length→m<k→out.length≤i →
  cn N k last n out rows (rows.length:Int) (i:Int)=some (out++(c8 (rows.drop i) last).take (n.toNat-out.length),(rows.length:Int)):=by
 have hlen:=hr.1
 intro m
 induction m with
 | zero =>
  intro i k out hi hk ho
  obtain ⟨k,rfl⟩:∃ g,k=g+1:=⟨k-1,by omega⟩
  rw [cn,dge (by omega),cond_false,List.drop_of_length_le (by omega)]
  show _=some (out++([]:aF).take _,_)
  rw [List.take_nil,List.append_nil]
  congr 2
  omega
 | succ m ih =>
  intro i k out hi hk ho
  obtain ⟨k,rfl⟩:∃ g,k=g+1:=⟨k-1,by omega⟩
  have hlt:i<rows.length:=by omega
  have hrow:=(hr.2 _ (List.getElem_mem hlt)).1
  have hnot:cn N k last n out rows (rows.length:Int) ((i+1:Nat):Int)=_:=ih (i+1) k out (by omega) (by omega) (by omega)
  rw [cn,dlt hlt,cond_true,aS hlt,bs]
  by_cases hn:(out.length:Int)<n
  ·obtain ⟨t,ht⟩:∃ t,n.toNat-out.length=t+1:=⟨n.toNat-out.length-1,by omega⟩
   have hput:cn N k last n (out++[rows[i]]) rows (rows.length:Int) ((i+1:Nat):Int)=some (out++rows[i] :: (c8 (rows.drop (i+1)) last).take t,(rows.length:Int)):=by
    rw [ih (i+1) k (out++[rows[i]]) (by omega) (by omega) (by simp;omega),List.length_append,List.length_singleton,show n.toNat-(out.length+1)=t by omega,List.append_assoc];rfl
   rw [decide_eq_true hn,cond_true,uH hlt,show ((last.length:Int) == 0)=decide (last.length=0) from jO _ 0,ht]
   unfold eB
   cases decide (last.length=0) with
   | true =>
    rw [cond_true,Bool.true_or,cond_true,bp (by decide) (by simp;omega),bs,ad1 (by omega),bs,hput,List.take_succ_cons]
   | false =>
    rw [cond_false,Bool.false_or,eJ hN hrow (by omega),bs]
    cases decide (0<bt rows[i] last) with
    | true =>
     rw [cond_true,cond_true,bp (by decide) (by simp;omega),bs,ad1 (by omega),bs,hput,List.take_succ_cons]
    | false =>
     rw [cond_false,cond_false,ad1 (by omega),bs,hnot,ht]
  ·rw [decide_eq_false hn,cond_false,ad1 (by omega),bs,hnot,show n.toNat-out.length=0 by omega,List.take_zero,List.take_zero]
theorem lf (hM:1073742848≤N) {ts:List be} {n:Int} {atoms:List aY} {out order last:List Int} {c:Int} (ht:gI ts) (ha:b9 atoms) (ho:okI out) (hr:okI order) (hl:okI last):fG N ts n atoms out order last c=some (fR (bk ts n atoms out order) last c):=by
 have hok:=io (ts:=ts) (n:=n) (atoms:=atoms) (out:=out) (order:=order)
 unfold fG fR
 rw [kQ hM ht ha ho hr,bs]
 cases h:(bk ts n atoms out order).2.2 with
 | false=>rfl
 | true =>
  have hlen:=hok.1
  have:=xz (N:=N) (by omega) hok hl.1 (n:=c) (bk ts n atoms out order).1.2.length 0 N [] (by omega) (by omega) (by simp)
  rw [show ((0:Nat):Int)=0 from rfl] at this
  rw [cond_true,cond_true,this,bs,lpB,List.drop_zero,List.nil_append,List.length_nil,Nat.sub_zero]
theorem xK (hM:1073742848≤N) {ts:List be} {n:Int} {atoms:List aY} {out order:List Int} {c:Int} (ht:gI ts) (ha:b9 atoms) (ho:okI out) (hr:okI order) (hJ:(bk ts n atoms out order).2.2=true):∀ (m k:Nat) (last:List Int) (acc:aF),(c8 (bk ts n atoms out order).1.2 last).length=m→m<k→okI last→acc.length+m≤1048576 →
  dp N k order last c ts n atoms out acc=some (acc++(c8 (bk ts n atoms out order).1.2 last).take (c.toNat-acc.length)):=by
 have hok:=io (ts:=ts) (n:=n) (atoms:=atoms) (out:=out) (order:=order)
 obtain ⟨kk,k1,k5,_,hrl,hasc,_⟩:=py (ts:=ts) (n:=n) (atoms:=atoms) (out:=out) (order:=order)
 intro m
 induction m with
 | zero =>
  intro k last acc hm hk hl hb
  obtain ⟨k,rfl⟩:∃ g,k=g+1:=⟨k-1,by omega⟩
  have hnil:=List.length_eq_zero_iff.1 hm
  rw [dp,hnil,List.take_nil,List.append_nil,jk hM ht ha ho hr hl]
  unfold lM
  rw [hJ,hnil]
  cases decide ((acc.length:Int)<c) <;> rfl
 | succ m ih =>
  intro k last acc hm hk hl hb
  obtain ⟨k,rfl⟩:∃ g,k=g+1:=⟨k-1,by omega⟩
  cases hbv:c8 (bk ts n atoms out order).1.2 last with
  | nil=>rw [hbv] at hm;cases hm
  | cons r rest =>
   have hmem:r∈(bk ts n atoms out order).1.2:=(List.mem_filter.1 (show r∈(bk ts n atoms out order).1.2.filter (eB last) by
    have:(bk ts n atoms out order).1.2.filter (eB last)=r :: rest:=hbv
    rw [this];exact List.mem_cons_self)).1
   have hlen:=hrl r hmem
   have htl:=qw hasc (by omega) hbv
   have hrest:rest.length=m:=by rw [hbv] at hm;simpa using hm
   rw [dp]
   by_cases hn:(acc.length:Int)<c
   ·obtain ⟨t,et⟩:∃ t,c.toNat-acc.length=t+1:=⟨c.toNat-acc.length-1,by omega⟩
    have hI:=ih k r (acc++[r]) (by rw [htl];exact hrest) (by omega) (hok.2 r hmem) (by simp;omega)
    rw [htl,List.length_append,List.length_singleton,show c.toNat-(acc.length+1)=t by omega,List.append_assoc] at hI
    rw [decide_eq_true hn,cond_true,jk hM ht ha ho hr hl,bs]
    have hnv:lM (bk ts n atoms out order) last=(r,true):=by
     unfold lM
     rw [hJ,hbv];rfl
    have hz:((r.length:Int) == 0)=false:=by
     rw [beq_eq_false_iff_ne];omega
    rw [hnv]
    dsimp only
    rw [cond_true,bp (by decide) (by simp;omega),bs,et,List.take_succ_cons,hz,cond_false]
    exact hI
   ·rw [decide_eq_false hn,cond_false,show c.toNat-acc.length=0 by omega,List.take_zero,List.append_nil]
theorem n6 (hM:1073742848≤N) {ts:List be} {n:Int} {atoms:List aY} {out order last:List Int} {c:Int} (ht:gI ts) (ha:b9 atoms) (ho:okI out) (hr:okI order) (hl:okI last):gE N ts n atoms out order last c=some (fR (bk ts n atoms out order) last c):=by
 have hok:=io (ts:=ts) (n:=n) (atoms:=atoms) (out:=out) (order:=order)
 unfold gE fR
 cases h:(bk ts n atoms out order).2.2 with
 | false =>
  obtain ⟨M,hM'⟩:∃ M,N=M+1:=⟨N-1,by omega⟩
  have e:dp N N order last c ts n atoms out []=some []:=by
   conv=>lhs;arg 2;rw [hM']
   rw [dp,jk hM ht ha ho hr hl]
   unfold lM
   rw [h]
   cases decide ((([]:aF).length:Int)<c) <;> rfl
  rw [e,bs,lpB];rfl
 | true =>
  have hlen:=rp (last:=last) hok
  have:=xK hM (c:=c) ht ha ho hr h _ N last [] rfl (by have:=hlen.1;omega) hl (by have:=hlen.1;simp;omega)
  rw [this,bs,lpB,List.nil_append,List.length_nil,Nat.sub_zero,cond_true]
end
structure VRel (vs:List Int) (rows:aF):Prop where
 asc:hU vs
 bd:∀ v∈vs,0≤v∧v<5
 val:bj (vs.length:Int) rows=true
theorem VRel.row {vs:List Int} {rows:aF} (h:VRel vs rows) {r:List Int} (hr:r∈rows):r.length=vs.length∧bG r=true:=by
 obtain ⟨_,_,_,v4⟩:=bJ h.val
 obtain ⟨i,hi,rfl⟩:=List.getElem_of_mem hr
 obtain ⟨g1,g2,_⟩:=v4 i hi
 exact ⟨by omega,g2⟩
def vM (ts:List be) (a:aY):aF:=cH 20 (bX a.2 (bQ ts a.1).1.2)
structure QPair (ts:List be) (atoms:List aY):Prop where
 a1:1≤atoms.length
 a4:atoms.length≤4
 al:∀ a∈atoms,a.2.length≤5∧∀ v∈a.2,0≤v∧v<5
 rel:∀ a∈atoms,kg ts a.1 a.2=(((ba a.2).length:Int),vM ts a)∧VRel (ba a.2) (vM ts a)∧(vM ts a).length≤16
theorem se (a:Int) {m:Nat} (hm:m≤4611686018427387904):0≤fV a (m:Int)∧fV a (m:Int)≤(m:Int):=by
 have h1:(BitVec.ofInt IntKind.i64.bits a &&& BitVec.ofInt IntKind.i64.bits (m:Int)).toNat≤m:=by
  rw [BitVec.toNat_and]
  refine Nat.le_trans Nat.and_le_right ?_
  rw [BitVec.toNat_ofInt]
  have:IntKind.i64.bits=64:=rfl
  rw [this]
  omega
 unfold fV
 rw [kr (mP (by omega) (by omega))]
 omega
theorem uI (a:Int) {b:Nat}:∃ v,sr a (b:Int)=some v:=by unfold sr;rw [if_pos (by omega)];exact ⟨_,rfl⟩
abbrev d7 (a:List Int):Prop:=a.length≤1048576∧∀ v∈a,0≤v∧v≤255
def b7 (a:List Int) (p:Int):Prop:=0≤p∧p≤(a.length:Int)
section
variable {N:Nat}
theorem yj (a:List Int) (ha:d7 a):∀ (m i k:Nat) (h:Int),i+m=4000→m<k→0≤h→h≤1073741823→∃ v,gu N k a h (i:Int)=some v:=by
 intro m
 induction m with
 | zero =>
  intro i k h hi hk _ _
  obtain ⟨k,rfl⟩:∃ g,k=g+1:=⟨k-1,by omega⟩
  rw [gu,decide_eq_false (show ¬ (i:Int)<4000 by omega)]
  cases decide ((i:Int)<(a.length:Int)) <;> exact ⟨_,rfl⟩
 | succ m ih =>
  intro i k h hi hk h0 h1
  obtain ⟨k,rfl⟩:∃ g,k=g+1:=⟨k-1,by omega⟩
  rw [gu]
  by_cases hl:i<a.length
  ·have hb:=ha.2 _ (List.getElem_mem hl)
   rw [dlt hl,cond_true,decide_eq_true (show (i:Int)<4000 by omega),cond_true,sY (by omega) (by omega),bs,aS hl,bs,kr (mP (by omega) (by omega)),i6 (by omega) (by omega),bs,i6 (by omega) (by omega),bs,ad1 (by omega),bs]
   have hi':=se (h*131+a[i]+7) (m:=1073741823) (by decide)
   exact ih (i+1) k _ (by omega) (by omega) hi'.1 hi'.2
  ·rw [dge hl,cond_false];exact ⟨_,rfl⟩
theorem vU (hN:1073741824≤N) {a:List Int} (ha:d7 a):∃ h,lb N a=some (0,h):=by
 have hl:=ha.1
 obtain ⟨v,hv⟩:=yj (N:=N) a ha 4000 0 N (10101+(a.length:Int)) (by omega) (by omega) (by omega) (by omega)
 unfold lb
 rw [i6 (by omega) (by omega),bs]
 have hv':gu N N a (10101+(a.length:Int)) 0=some v:=hv
 rw [hv',bs]
 exact ⟨_,rfl⟩
theorem j5 {a:List Int} (ha:d7 a) {p h:Int} (hc:b7 a p):∃ x q g,f8 N a p h=some (x,q,g)∧0≤x∧x≤255∧b7 a q:=by
 have hl:=ha.1
 have h0:=hc.1;have h1:=hc.2
 unfold f8
 obtain ⟨x1,e1⟩:=uI (IntKind.i64.wrap ((IntKind.i64.wrap (h*6364136223846793005))+1442695040888963407)) (b:=33)
 obtain ⟨x2,e2⟩:=uI (IntKind.i64.wrap ((IntKind.i64.wrap (h*6364136223846793005))+1442695040888963407)) (b:=45)
 have e1':sr (IntKind.i64.wrap ((IntKind.i64.wrap (h*6364136223846793005))+1442695040888963407)) 33=some x1:=e1
 have e2':sr (IntKind.i64.wrap ((IntKind.i64.wrap (h*6364136223846793005))+1442695040888963407)) 45=some x2:=e2
 rw [e1',bs,e2',bs]
 by_cases hp:p<(a.length:Int)
 ·rw [decide_eq_true hp,cond_true,iC h0 hp,bs]
  have hb:=se (IntKind.i64.wrap ((fV (jv x1 x2) 255)+(IntKind.i64.wrap a[p.toNat]))) (m:=255) (by decide)
  refine ⟨_,_,_,rfl,hb.1,hb.2,?_⟩
  rw [kr (mP (by omega) (by omega))]
  exact ⟨by omega,by omega⟩
 ·rw [decide_eq_false hp,cond_false]
  have hb:=se (jv x1 x2) (m:=255) (by decide)
  exact ⟨_,_,_,rfl,hb.1,hb.2,hc⟩
theorem bT {a:List Int} (ha:d7 a) {p h n:Int} (hc:b7 a p):∃ x q g,bD N a p h n=some (x,q,g)∧0≤x∧(0<n→x<n)∧(n≤0→x=0)∧b7 a q:=by
 unfold bD
 by_cases h0:n≤0
 ·rw [decide_eq_true h0,cond_true]
  exact ⟨_,_,_,rfl,Int.le_refl _,fun h=>by omega,fun _=>rfl,hc⟩
 ·rw [decide_eq_false h0,cond_false]
  by_cases h1:n≤256
  ·obtain ⟨x,q,g,e,b0,b1,hc'⟩:=j5 (N:=N) ha (h:=h) hc
   rw [decide_eq_true h1,cond_true,e,bs,pQ (by omega),bs]
   have:=vc b0 (show 0<n by omega)
   exact ⟨_,_,_,rfl,this.1,fun _=>this.2,fun h=>by omega,hc'⟩
  ·rw [decide_eq_false h1,cond_false]
   obtain ⟨x,q,g,e,b0,b1,hc1⟩:=j5 (N:=N) ha (h:=h) hc
   rw [e,bs]
   obtain ⟨y,q2,g2,e2,c0,c1,hc2⟩:=j5 (N:=N) ha (h:=g) hc1
   dsimp only
   rw [e2,bs]
   obtain ⟨z,q3,g3,e3,d0,d1,hc3⟩:=j5 (N:=N) ha (h:=g2) hc2
   dsimp only
   rw [e3,bs]
   obtain ⟨w,q4,g4,e4,f0,f1,hc4⟩:=j5 (N:=N) ha (h:=g3) hc3
   dsimp only
   rw [e4,bs]
   dsimp only
   rw [sY (by omega) (by omega),bs,sY (by omega) (by omega),bs,i6 (by omega) (by omega),bs,sY (by omega) (by omega),bs,i6 (by omega) (by omega),bs,i6 (by omega) (by omega),bs,pQ (by omega),bs]
   have:=vc (show 0≤x*16777216+y*65536+z*256+w by omega) (show 0<n by omega)
   exact ⟨_,_,_,rfl,this.1,fun _=>this.2,fun h=>by omega,hc4⟩
theorem gR {a l:List Int} (ha:d7 a) {p h:Int} (hc:b7 a p) (hl:0<l.length):∃ x q g,dG N a p h l=some (x,q,g)∧x∈l∧b7 a q:=by
 obtain ⟨x,q,g,e,b0,b1,_,hc'⟩:=bT (N:=N) ha (h:=h) (n:=(l.length:Int)) hc
 have b2:=b1 (by omega)
 unfold dG
 rw [e,bs]
 dsimp only
 rw [iC b0 b2,bs]
 exact ⟨_,_,_,rfl,List.getElem_mem _,hc'⟩
end
section
variable {N:Nat}
theorem yA {a:List Int} (ha:d7 a) {n m:Int} (hm:0<m):∀ (d k:Nat) (acc:List Int) (p h:Int),b7 a p→acc.length+d=n.toNat→d<k→n≤1048576→(∀ v∈acc,0≤v∧v<m) →
  ∃ q g row,hZ N k a p h n m acc=some (q,g,row)∧b7 a q∧row.length=n.toNat∧∀ v∈row,0≤v∧v<m:=by
 intro d
 induction d with
 | zero =>
  intro k acc p h hc hd hk _ hv
  obtain ⟨k,rfl⟩:∃ g,k=g+1:=⟨k-1,by omega⟩
  rw [hZ,decide_eq_false (show ¬ (acc.length:Int)<n by omega),cond_false]
  exact ⟨_,_,_,rfl,hc,by omega,hv⟩
 | succ d ih =>
  intro k acc p h hc hd hk hn hv
  obtain ⟨k,rfl⟩:∃ g,k=g+1:=⟨k-1,by omega⟩
  obtain ⟨x,q,g,e,b0,b1,_,hc'⟩:=bT (N:=N) ha (h:=h) (n:=m) hc
  rw [hZ,decide_eq_true (show (acc.length:Int)<n by omega),cond_true,e,bs]
  dsimp only
  rw [bp (by decide) (by simp;omega),bs]
  refine ih k _ q g hc' (by simp;omega) (by omega) hn fun v hv'=>?_
  rcases List.mem_append.1 hv' with h | h
  ·exact hv v h
  ·rw [List.mem_singleton] at h;rw [h];exact ⟨b0,b1 hm⟩
theorem nV (hN:1073741824≤N) {a:List Int} (ha:d7 a) {p h n m:Int} (hc:b7 a p) (hm:0<m) (hn:n≤1048576) :
  ∃ row q g,gG N a p h n m=some (row,q,g)∧b7 a q∧row.length=n.toNat∧∀ v∈row,0≤v∧v<m:=by
 obtain ⟨q,g,row,e,h1,h2,h3⟩:=yA (N:=N) ha (n:=n) hm n.toNat N [] p h hc (by simp) (by omega) hn (by simp)
 unfold gG
 rw [e]
 exact ⟨row,q,g,rfl,h1,h2,h3⟩
theorem x6 (hN:1073741824≤N) {a:List Int} (ha:d7 a) {n m y:Int} {z:aF} (hm:0<m) (hn:n≤1048576):∀ (d k:Nat) (acc:aF) (p h c:Int),b7 a p→c.toNat=d→c≤1048576→d<k→acc.length+d≤1048576→(∀ r∈acc,r.length=n.toNat∧∀ v∈r,0≤v∧v<m) →
  ∃ q g rows c',ic N k a p h n m y z acc c=some (q,g,rows,c')∧b7 a q∧rows.length≤acc.length+d∧∀ r∈rows,r.length=n.toNat∧∀ v∈r,0≤v∧v<m:=by
 intro d
 induction d with
 | zero =>
  intro k acc p h c hc hd _ hk hl hv
  obtain ⟨k,rfl⟩:∃ g,k=g+1:=⟨k-1,by omega⟩
  rw [ic,decide_eq_false (show ¬ 0<c by omega),cond_false]
  exact ⟨_,_,_,_,rfl,hc,by omega,hv⟩
 | succ d ih =>
  intro k acc p h c hc hd hcc hk hl hv
  obtain ⟨k,rfl⟩:∃ g,k=g+1:=⟨k-1,by omega⟩
  obtain ⟨row,q,g,e,hc',h2,h3⟩:=nV hN ha (h:=h) (n:=n) hc hm hn
  rw [ic,decide_eq_true (show 0<c by omega),cond_true,e,bs]
  dsimp only
  rw [bp (by decide) (by simp;omega),bs,eY (by omega) (by omega),bs]
  obtain ⟨q',g',rows,c',e',k1,k2,k3⟩:=ih k (acc++[row]) q g (c-1) hc' (by omega) (by omega) (by omega) (by simp;omega) fun r hr=>by
   rcases List.mem_append.1 hr with h | h
   ·exact hv r h
   ·rw [List.mem_singleton] at h;rw [h];exact ⟨h2,h3⟩
  exact ⟨q',g',rows,c',e',k1,by simp at k2;omega,k3⟩
theorem od (hM:1073742848≤N) {a:List Int} (ha:d7 a) {p h n m y:Int} (hc:b7 a p) (hm:0<m∧m≤100) (hn:0≤n∧n≤5) (hy:0≤y∧y≤100) :
  ∃ rows q g,iY N a p h n y m=some ((n,rows),q,g)∧b7 a q∧(rows.length:Int)≤y∧∀ r∈rows,(r.length:Int)=n∧∀ v∈r,0≤v∧v<m:=by
 have hN:1073741824≤N:=by omega
 obtain ⟨x,q,g,e,b0,b1,_,hc'⟩:=bT (N:=N) ha (h:=h) (n:=y+1) hc
 have b1:=b1 (by omega)
 obtain ⟨q',g',rows,c',e',k1,k2,k3⟩:=x6 hN ha (n:=n) (m:=m) (y:=0) (z:=[]) hm.1 (by omega) x.toNat N [] q g x hc' rfl (by omega) (by omega) (by simp;omega) (by simp)
 unfold iY
 rw [i6 (by omega) (by omega),bs,e,bs]
 dsimp only
 rw [e']
 simp only [List.length_nil,Nat.zero_add] at k2
 have hf:∀ r∈rows,(r.length:Int)=n∧bG r=true:=fun r hr=>by
  have:=k3 r hr
  refine ⟨by omega,?_⟩
  unfold bG
  refine List.all_eq_true.2 fun v hv=>?_
  have:=this.2 v hv
  unfold inR
  simp only [Bool.and_eq_true,decide_eq_true_eq]
  omega
 have hok:dc rows:=⟨by omega,fun r hr=>⟨by have:=(k3 r hr).1;omega,fun _ _=>trivial⟩⟩
 rw [bs]
 unfold lpB
 dsimp only
 rw [g9 hM hok,bs,jw hn (by omega) hf]
 have hsl:=gg 20 rows
 refine ⟨cH 20 rows,q',g',rfl,k1,by omega,fun r hr=>?_⟩
 have hr':=iS 20 rows r hr
 exact ⟨(hf r hr').1,(k3 r hr').2⟩
def s6 (r:Int × aF):Prop:=(-1≤r.1∧r.1≤6)∧r.2.length≤7∧∀ w∈r.2,w.length≤6∧∀ v∈w,-1≤v∧v≤100
theorem vW (hM:1073742848≤N) {a:List Int} (ha:d7 a) {p h:Int} (hc:b7 a p):∃ r q g,kX N a p h=some (r,q,g)∧b7 a q∧s6 r:=by
 have hN:1073741824≤N:=by omega
 obtain ⟨n,q,g,e,b0,b1,_,hc1⟩:=bT (N:=N) ha (h:=h) (n:=4) hc
 have b1:=b1 (by decide)
 obtain ⟨rows,q2,g2,e2,hc2,hl,hr⟩:=od hM ha (h:=g) (n:=n) (m:=4) (y:=6) hc1 (by decide) (by omega) (by decide)
 obtain ⟨s,q3,g3,e3,_,_,_,hc3⟩:=bT (N:=N) ha (h:=g2) (n:=14) hc2
 have hsm:∀ w∈rows,w.length≤6∧∀ v∈w,-1≤v∧v≤100:=fun w hw=>by
  have:=hr w hw
  exact ⟨by omega,fun v hv=>by have:=this.2 v hv;omega⟩
 have base:s6 (n,rows):=⟨⟨by show -1≤n;omega,by show n≤6;omega⟩,by show rows.length≤7;omega,hsm⟩
 unfold kX
 rw [e,bs]
 dsimp only
 rw [e2,bs]
 dsimp only
 rw [e3,bs]
 dsimp only
 cases h0:(s == 0)
 ·rw [cond_false]
  cases h1:(s == 1)
  ·rw [cond_false]
   cases h2:(s == 2)
   ·exact ⟨_,_,_,rfl,hc3,base⟩
   ·rw [cond_true]
    by_cases hp:0<rows.length
    ·rw [decide_eq_true (show (0:Int)<(rows.length:Int) by omega),cond_true]
     by_cases hn:0<n
     ·have hm0:=hr _ (List.getElem_mem hp)
      have hm1:=hsm _ (List.getElem_mem hp)
      have hp0:0<rows[0].length:=by omega
      obtain ⟨x,q4,g4,e4,hx,hc4⟩:=gR (N:=N) ha (h:=g3) hc3 (l:=[(-1),100,99]) (by decide)
      have i0:ix rows 0=some rows[0]:=aS hp
      have i1:ix rows[0] 0=some rows[0][0]:=aS hp0
      have s1:sto rows[0] 0 x=some (rows[0].set 0 x):=jR hp0
      have s2:sto rows 0 (rows[0].set 0 x)=some (rows.set 0 (rows[0].set 0 x)):=jR hp
      have hxb:-1≤x∧x≤100:=by
       simp only [List.mem_cons,List.not_mem_nil,or_false] at hx
       omega
      rw [decide_eq_true hn,cond_true,i0,bs,e4,bs,i1,bs,s1,bs,s2,bs]
      refine ⟨_,_,_,rfl,hc4,⟨base.1,by show (rows.set 0 _).length≤7;rw [List.length_set];omega,fun w hw=>?_⟩⟩
      rcases List.mem_or_eq_of_mem_set hw with h | h
      ·exact hsm w h
      ·subst h
       refine ⟨by rw [List.length_set];exact hm1.1,fun v hv=>?_⟩
       rcases List.mem_or_eq_of_mem_set hv with h | h
       ·exact hm1.2 v h
       ·rw [h];exact hxb
     ·rw [decide_eq_false hn,cond_false]
      exact ⟨_,_,_,rfl,hc3,base⟩
    ·rw [decide_eq_false (show ¬ (0:Int)<(rows.length:Int) by omega),cond_false]
     exact ⟨_,_,_,rfl,hc3,base⟩
  ·rw [cond_true]
   have hi:imx 0 n=n:=by unfold imx;split <;> omega
   obtain ⟨w,q4,g4,e4,hc4,hw1,hw2⟩:=nV hN ha (h:=g3) (n:=n) (m:=4) hc3 (by decide) (by omega)
   rw [hi,e4,bs]
   dsimp only
   rw [bp (by decide) (by simp;omega),bs]
   refine ⟨_,_,_,rfl,hc4,base.1,by show (rows++[w]).length≤7;simp;omega,fun v hv=>?_⟩
   rcases List.mem_append.1 hv with h | h
   ·exact hsm v h
   ·rw [List.mem_singleton] at h;subst h
    exact ⟨by omega,fun v hv=>by have:=hw2 v hv;omega⟩
 ·obtain ⟨x,q4,g4,e4,hx,hc4⟩:=gR (N:=N) ha (h:=g3) hc3 (l:=[(-1),6,n+1]) (Nat.zero_lt_succ _)
  rw [cond_true,i6 (by omega) (by omega),bs,e4,bs]
  refine ⟨_,_,_,rfl,hc4,⟨?_,base.2⟩⟩
  simp only [List.mem_cons,List.not_mem_nil,or_false] at hx
  show -1≤x∧x≤6
  omega
end
def vw (a b:List jP):Prop:=∃ t,b=a++t
theorem vw.trans {a b c:List jP} (h:vw a b) (k:vw b c):vw a c:=by
 obtain ⟨t,rfl⟩:=h;obtain ⟨u,rfl⟩:=k;exact ⟨t++u,by simp⟩
def Ae (ns:List jP):Nat→Int→Int
 | 0,_=>0
 | f+1,nd=>if nd=0 then 0 else Ae ns f ((ns.getD nd.toNat ([],[])).2.getD 0 0)+1
def dep (ns:List jP) (nd:Int):Int:=Ae ns ns.length nd
structure NodeOk (ns:List jP) (i:Nat):Prop where
 lens:(ns.getD i ([],[])).1.length=(ns.getD i ([],[])).2.length
 vals:bG (ns.getD i ([],[])).1=true
 asc:hU (ns.getD i ([],[])).1
 ne:(ns.getD i ([],[])).1≠[]
 chs:∀ c∈(ns.getD i ([],[])).2,dep ns c=dep ns ((ns.getD i ([],[])).2.getD 0 0)
 new:∀ j,1≤j→j<i→ns.getD j ([],[])≠ns.getD i ([],[])
abbrev my:=Int × List aY × List Int
def QGd (q:my):Prop:=(1≤q.1∧q.1≤5)∧(1≤q.2.1.length∧q.2.1.length≤4)∧(∀ a∈q.2.1,a.1.size≤4∧1≤a.2.length∧a.2.length≤5)∧q.2.2.length≤5
def QSm (q:my):Prop:=(0≤q.1∧q.1≤6)∧q.2.1.length≤5∧(∀ a∈q.2.1,a.1.size≤4∧a.2.length≤5)∧q.2.2.length≤6
theorem QGd.sm {q:my} (h:QGd q):QSm q:=⟨⟨by have:=h.1;omega,by have:=h.1;omega⟩,by have:=h.2.1;omega,fun a ha=>⟨(h.2.2.1 a ha).1,(h.2.2.1 a ha).2.2⟩,by have:=h.2.2.2;omega⟩
theorem QSm.atoms {q:my} (h:QSm q):b9 q.2.1:=⟨by have:=h.2.1;omega,fun a ha=>⟨by have:=(h.2.2.1 a ha).1;omega,by have:=(h.2.2.1 a ha).2;omega,fun _ _=>trivial⟩⟩
theorem QSm.out {q:my} (h:QSm q):okI q.2.2:=⟨by have:=h.2.2.2;omega,fun _ _=>trivial⟩
section
variable {N:Nat}
abbrev wM:List ByteArray:=[(⟨#[40,88,89,90,41,61,114,40,88,89,41,44,115,40,89,90,41,44,116,40,90,88,41]⟩:ByteArray),(⟨#[40,88,89,90,85,41,61,114,40,88,89,41,44,115,40,89,90,41,44,116,40,90,85,41,44,117,40,85,88,41]⟩:ByteArray),(⟨#[40,88,89,90,41,61,114,40,88,89,41,44,115,40,89,90,41]⟩:ByteArray),(⟨#[40,88,41,61,114,40,88,89,41,44,115,40,89,90,41,44,116,40,90,85,41]⟩:ByteArray),(⟨#[40,88,89,90,41,61,118,40,88,89,90,41,44,114,40,88,89,41]⟩:ByteArray),(⟨#[40,88,89,41,61,114,40,88,89,41,44,114,40,89,88,41]⟩:ByteArray),(⟨#[40,88,89,90,85,41,61,118,40,88,89,90,41,44,115,40,90,85,41,44,116,40,85,88,41]⟩:ByteArray),(⟨#[40,88,41,61,114,40,88,88,41]⟩:ByteArray),(⟨#[40,88,89,41,61,114,40,88,90,41,44,115,40,90,89,41,44,114,40,88,85,41,44,115,40,85,89,41]⟩:ByteArray),(⟨#[40,41,61,114,40,88,89,41,44,115,40,89,88,41]⟩:ByteArray),(⟨#[40,88,89,90,85,86,41,61,114,40,88,89,41,44,115,40,89,90,41,44,116,40,90,85,41,44,117,40,85,86,41]⟩:ByteArray)]
theorem yx (M:Nat):cl (M+100) (⟨#[40,88,89,90,41,61,114,40,88,89,41,44,115,40,89,90,41,44,116,40,90,88,41]⟩:ByteArray)=some ((3,[((⟨#[114]⟩:ByteArray),[0,1]),((⟨#[115]⟩:ByteArray),[1,2]),((⟨#[116]⟩:ByteArray),[2,0])],[0,1,2]),true):=by kernel_rfl
theorem xX (M:Nat):cl (M+100) (⟨#[40,88,89,90,85,41,61,114,40,88,89,41,44,115,40,89,90,41,44,116,40,90,85,41,44,117,40,85,88,41]⟩:ByteArray)=some ((4,[((⟨#[114]⟩:ByteArray),[0,1]),((⟨#[115]⟩:ByteArray),[1,2]),((⟨#[116]⟩:ByteArray),[2,3]),((⟨#[117]⟩:ByteArray),[3,0])],[0,1,2,3]),true):=by kernel_rfl
theorem ya (M:Nat):cl (M+100) (⟨#[40,88,89,90,41,61,114,40,88,89,41,44,115,40,89,90,41]⟩:ByteArray)=some ((3,[((⟨#[114]⟩:ByteArray),[0,1]),((⟨#[115]⟩:ByteArray),[1,2])],[0,1,2]),true):=by kernel_rfl
theorem yQ (M:Nat):cl (M+100) (⟨#[40,88,41,61,114,40,88,89,41,44,115,40,89,90,41,44,116,40,90,85,41]⟩:ByteArray)=some ((4,[((⟨#[114]⟩:ByteArray),[0,1]),((⟨#[115]⟩:ByteArray),[1,2]),((⟨#[116]⟩:ByteArray),[2,3])],[0]),true):=by kernel_rfl
theorem yK (M:Nat):cl (M+100) (⟨#[40,88,89,90,41,61,118,40,88,89,90,41,44,114,40,88,89,41]⟩:ByteArray)=some ((3,[((⟨#[118]⟩:ByteArray),[0,1,2]),((⟨#[114]⟩:ByteArray),[0,1])],[0,1,2]),true):=by kernel_rfl
theorem x7 (M:Nat):cl (M+100) (⟨#[40,88,89,41,61,114,40,88,89,41,44,114,40,89,88,41]⟩:ByteArray)=some ((2,[((⟨#[114]⟩:ByteArray),[0,1]),((⟨#[114]⟩:ByteArray),[1,0])],[0,1]),true):=by kernel_rfl
theorem yz (M:Nat):cl (M+100) (⟨#[40,88,89,90,85,41,61,118,40,88,89,90,41,44,115,40,90,85,41,44,116,40,85,88,41]⟩:ByteArray)=some ((4,[((⟨#[118]⟩:ByteArray),[0,1,2]),((⟨#[115]⟩:ByteArray),[2,3]),((⟨#[116]⟩:ByteArray),[3,0])],[0,1,2,3]),true):=by kernel_rfl
theorem yD (M:Nat):cl (M+100) (⟨#[40,88,41,61,114,40,88,88,41]⟩:ByteArray)=some ((1,[((⟨#[114]⟩:ByteArray),[0,0])],[0]),true):=by kernel_rfl
theorem yC (M:Nat):cl (M+100) (⟨#[40,88,89,41,61,114,40,88,90,41,44,115,40,90,89,41,44,114,40,88,85,41,44,115,40,85,89,41]⟩:ByteArray)=some ((4,[((⟨#[114]⟩:ByteArray),[0,2]),((⟨#[115]⟩:ByteArray),[2,1]),((⟨#[114]⟩:ByteArray),[0,3]),((⟨#[115]⟩:ByteArray),[3,1])],[0,1]),true):=by kernel_rfl
theorem xS (M:Nat):cl (M+100) (⟨#[40,41,61,114,40,88,89,41,44,115,40,89,88,41]⟩:ByteArray)=some ((2,[((⟨#[114]⟩:ByteArray),[0,1]),((⟨#[115]⟩:ByteArray),[1,0])],[]),true):=by kernel_rfl
theorem xm (M:Nat):cl (M+100) (⟨#[40,88,89,90,85,86,41,61,114,40,88,89,41,44,115,40,89,90,41,44,116,40,90,85,41,44,117,40,85,86,41]⟩:ByteArray)=some ((5,[((⟨#[114]⟩:ByteArray),[0,1]),((⟨#[115]⟩:ByteArray),[1,2]),((⟨#[116]⟩:ByteArray),[2,3]),((⟨#[117]⟩:ByteArray),[3,4])],[0,1,2,3,4]),true):=by kernel_rfl
theorem un (hN:1073741824≤N):∀ s∈wM,∃ q,cl N s=some (q,true)∧QGd q:=by
 obtain ⟨M,rfl⟩:∃ M,N=M+100:=⟨N-100,by omega⟩
 intro s hs
 simp only [List.mem_cons,List.not_mem_nil,or_false] at hs
 rcases hs with rfl | rfl | rfl | rfl | rfl | rfl | rfl | rfl | rfl | rfl | rfl
 ·exact ⟨_,yx M,by unfold QGd;decide⟩
 ·exact ⟨_,xX M,by unfold QGd;decide⟩
 ·exact ⟨_,ya M,by unfold QGd;decide⟩
 ·exact ⟨_,yQ M,by unfold QGd;decide⟩
 ·exact ⟨_,yK M,by unfold QGd;decide⟩
 ·exact ⟨_,x7 M,by unfold QGd;decide⟩
 ·exact ⟨_,yz M,by unfold QGd;decide⟩
 ·exact ⟨_,yD M,by unfold QGd;decide⟩
 ·exact ⟨_,yC M,by unfold QGd;decide⟩
 ·exact ⟨_,xS M,by unfold QGd;decide⟩
 ·exact ⟨_,xm M,by unfold QGd;decide⟩
theorem nr {a:List Int} {l:List ByteArray} (ha:d7 a) {p h:Int} (hc:b7 a p) (hl:0<l.length):∃ x q g,iu N a p h l=some (x,q,g)∧x∈l∧b7 a q:=by
 obtain ⟨x,q,g,e,b0,b1,_,hc'⟩:=bT (N:=N) ha (h:=h) (n:=(l.length:Int)) hc
 have b2:=b1 (by omega)
 unfold iu
 rw [e,bs]
 dsimp only
 rw [iC b0 b2,bs]
 exact ⟨_,_,_,rfl,List.getElem_mem _,hc'⟩
theorem jf {a:List Int} (ha:d7 a) {p h n:Int} (hc:b7 a p):∃ b q g,eh N a p h n=some (b,q,g)∧b7 a q:=by
 obtain ⟨x,q,g,e,_,_,_,hc'⟩:=bT (N:=N) ha (h:=h) (n:=n) hc
 unfold eh
 rw [e,bs]
 exact ⟨_,_,_,rfl,hc'⟩
theorem vC {a:List Int} (ha:d7 a) {z1 z7 z9 n:Int} {z2 z5 z8:List aY} {z3 z6 z10:List Int} {s:ByteArray}:∀ (d k:Nat) (acc:List Int) (p h m:Int),b7 a p→m.toNat=d→m≤10→d<k→acc.length+d≤100 →
  ∃ q g vs m',gh N k a p h z1 z2 z3 z7 z5 z6 n z8 z10 z9 s acc m=some (q,g,vs,m')∧b7 a q∧vs.length=acc.length+d:=by
 intro d
 induction d with
 | zero =>
  intro k acc p h m hc hd _ hk _
  obtain ⟨k,rfl⟩:∃ g,k=g+1:=⟨k-1,by omega⟩
  rw [gh,decide_eq_false (show ¬ 0<m by omega),cond_false]
  exact ⟨_,_,_,_,rfl,hc,by omega⟩
 | succ d ih =>
  intro k acc p h m hc hd hm hk hl
  obtain ⟨k,rfl⟩:∃ g,k=g+1:=⟨k-1,by omega⟩
  obtain ⟨x,q,g,e,_,_,_,hc'⟩:=bT (N:=N) ha (h:=h) (n:=n) hc
  rw [gh,decide_eq_true (show 0<m by omega),cond_true,e,bs]
  dsimp only
  rw [bp (by decide) (by simp;omega),bs,eY (by omega) (by omega),bs]
  obtain ⟨q',g',vs,m',e',k1,k2⟩:=ih k (acc++[x]) q g (m-1) hc' (by omega) (by omega) (by omega) (by simp;omega)
  exact ⟨q',g',vs,m',e',k1,by simp at k2;omega⟩
theorem vT (hN:1073741824≤N) {a:List Int} (ha:d7 a) {z1 z4 n:Int} {z2 z5:List aY} {z3 z6 z7:List Int}:∀ (d k:Nat) (acc:List aY) (p h m:Int),b7 a p→m.toNat=d→m≤10→d<k→acc.length+d≤100→(∀ x∈acc,x.1.size≤4∧1≤x.2.length∧x.2.length≤5) →
  ∃ q g ats m',gm N k a p h z1 z2 z3 z4 z5 z6 n acc z7 m=some (q,g,ats,m')∧b7 a q∧ats.length=acc.length+d∧∀ x∈ats,x.1.size≤4∧1≤x.2.length∧x.2.length≤5:=by
 intro d
 induction d with
 | zero =>
  intro k acc p h m hc hd _ hk _ hx
  obtain ⟨k,rfl⟩:∃ g,k=g+1:=⟨k-1,by omega⟩
  rw [gm,decide_eq_false (show ¬ 0<m by omega),cond_false]
  exact ⟨_,_,_,_,rfl,hc,by omega,hx⟩
 | succ d ih =>
  intro k acc p h m hc hd hm hk hl hx
  obtain ⟨k,rfl⟩:∃ g,k=g+1:=⟨k-1,by omega⟩
  obtain ⟨x,q,g,e,b0,b1,_,hc'⟩:=bT (N:=N) ha (h:=h) (n:=5) hc
  have b1:=b1 (by decide)
  rw [gm,decide_eq_true (show 0<m by omega),cond_true,e,bs]
  dsimp only
  have hi:x<(([(⟨#[114]⟩:ByteArray),(⟨#[115]⟩:ByteArray),(⟨#[116]⟩:ByteArray),(⟨#[117]⟩:ByteArray),(⟨#[118]⟩:ByteArray)]:List ByteArray).length:Int):=b1
  rw [iC b0 hi,bs,Ak b0 (by decide) (by omega),bs]
  have ht:0≤x.tdiv 4∧x.tdiv 4≤1:=by
   rw [Int.tdiv_eq_ediv_of_nonneg b0];omega
  rw [i6 (by omega) (by omega),bs]
  have hs:∀ s∈([(⟨#[114]⟩:ByteArray),(⟨#[115]⟩:ByteArray),(⟨#[116]⟩:ByteArray),(⟨#[117]⟩:ByteArray),(⟨#[118]⟩:ByteArray)]:List ByteArray),s.size≤4:=by decide
  have hs':=hs _ (List.getElem_mem (l:=([(⟨#[114]⟩:ByteArray),(⟨#[115]⟩:ByteArray),(⟨#[116]⟩:ByteArray),(⟨#[117]⟩:ByteArray),(⟨#[118]⟩:ByteArray)]:List ByteArray)) (n:=x.toNat) (by omega))
  obtain ⟨q',g',vs,m',e',k1,k2⟩:=vC (N:=N) ha (z1:=z1) (z2:=z2) (z3:=z3) (z7:=z4) (z5:=z5) (z6:=z6) (n:=n) (z8:=acc) (z10:=z7) (z9:=m) (s:=([(⟨#[114]⟩:ByteArray),(⟨#[115]⟩:ByteArray),(⟨#[116]⟩:ByteArray),(⟨#[117]⟩:ByteArray),(⟨#[118]⟩:ByteArray)]:List ByteArray)[x.toNat]) (2+x.tdiv 4).toNat N [] q g (2+x.tdiv 4) hc' rfl (by omega) (by omega) (by simp;omega)
  rw [e',bs]
  unfold lpB
  dsimp only
  rw [bp (by decide) (by simp;omega),bs,eY (by omega) (by omega),bs]
  simp only [List.length_nil,Nat.zero_add] at k2
  obtain ⟨q2,g2,ats,m2,e2,j1,j2,j3⟩:=ih k (acc++[(_,vs)]) q' g' (m-1) k1 (by omega) (by omega) (by omega) (by simp;omega) (fun y hy=>by
   rcases List.mem_append.1 hy with h | h
   ·exact hx y h
   ·rw [List.mem_singleton] at h;rw [h]
    exact ⟨hs',by show 1≤vs.length;omega,by show vs.length≤5;omega⟩)
  exact ⟨q2,g2,ats,m2,e2,j1,by simp at j2;omega,j3⟩
theorem v7 {a:List Int} (ha:d7 a) {z1 z4:Int} {n:Nat} {z2 z5 z8:List aY} {z3 z6:List Int} (hn:n≤10):∀ (d k:Nat) (acc:List Int) (p h:Int) (i:Nat),b7 a p→i+d=n→d<k→acc.length≤i →
  ∃ q g out v,eI N k a p h z1 z2 z3 z4 z5 z6 (n:Int) z8 acc (i:Int)=some (q,g,out,v)∧b7 a q∧out.length≤n:=by
 intro d
 induction d with
 | zero =>
  intro k acc p h i hc hd hk hl
  obtain ⟨k,rfl⟩:∃ g,k=g+1:=⟨k-1,by omega⟩
  rw [eI,decide_eq_false (show ¬ (i:Int)<(n:Int) by omega),cond_false]
  exact ⟨_,_,_,_,rfl,hc,by omega⟩
 | succ d ih =>
  intro k acc p h i hc hd hk hl
  obtain ⟨k,rfl⟩:∃ g,k=g+1:=⟨k-1,by omega⟩
  obtain ⟨b,q,g,e,hc'⟩:=jf (N:=N) ha (h:=h) (n:=2) hc
  rw [eI,decide_eq_true (show (i:Int)<(n:Int) by omega),cond_true,e,bs]
  dsimp only
  cases b with
  | true =>
   rw [cond_true,bp (by decide) (by simp;omega),bs,ad1 (by omega),bs]
   exact ih k _ q g (i+1) hc' (by omega) (by omega) (by simp;omega)
  | false =>
   rw [cond_false,ad1 (by omega),bs]
   exact ih k _ q g (i+1) hc' (by omega) (by omega) (by omega)
theorem pv (hN:1073741824≤N) {a:List Int} (ha:d7 a) {p h:Int} (hc:b7 a p):∃ r q g,iM N a p h=some (r,q,g)∧b7 a q∧QGd r:=by
 unfold iM
 obtain ⟨s,q,g,e,hs,hc1⟩:=nr (N:=N) ha (h:=h) (l:=wM) hc (by decide)
 obtain ⟨r,er,hr⟩:=un hN s hs
 rw [e,bs]
 dsimp only
 rw [er,bs]
 obtain ⟨b,q2,g2,e2,hc2⟩:=jf (N:=N) ha (h:=g) (n:=3) hc1
 rw [e2,bs]
 dsimp only
 cases b with
 | false=>rw [cond_false];exact ⟨_,_,_,rfl,hc2,hr⟩
 | true =>
  obtain ⟨x,q3,g3,e3,b0,b1,_,hc3⟩:=bT (N:=N) ha (h:=g2) (n:=4) hc2
  have b1:=b1 (by decide)
  rw [cond_true,e3,bs]
  dsimp only
  obtain ⟨y,q4,g4,e4,c0,c1,_,hc4⟩:=bT (N:=N) ha (h:=g3) (n:=4) hc3
  have c1:=c1 (by decide)
  rw [i6 (by omega) (by omega),bs,e4,bs]
  dsimp only
  rw [i6 (by omega) (by omega),bs]
  obtain ⟨q5,g5,ats,m5,e5,hc5,l5,a5⟩:=vT hN ha (z1:=0) (z2:=[]) (z3:=[]) (z4:=r.1) (z5:=r.2.1) (z6:=r.2.2) (n:=1+x) (z7:=[]) (1+y).toNat N [] q4 g4 (1+y) hc4 rfl (by omega) (by omega) (by simp;omega) (by simp)
  rw [e5,bs]
  unfold lpB
  dsimp only
  have hx:((x.toNat+1:Nat):Int)=1+x:=by omega
  obtain ⟨q6,g6,out,v6,e6,hc6,l6⟩:=v7 (N:=N) ha (z1:=0) (z2:=[]) (z3:=[]) (z4:=r.1) (z5:=r.2.1) (z6:=r.2.2) (n:=x.toNat+1) (z8:=ats) (by omega) (x.toNat+1) N [] q5 g5 0 hc5 (by omega) (by omega) (by simp)
  rw [hx] at e6
  have e6':eI N N a q5 g5 0 [] [] r.1 r.2.1 r.2.2 (1+x) ats [] 0=some (q6,g6,out,v6):=e6
  simp only [List.length_nil,Nat.zero_add] at l5
  have hq:QGd (1+x,ats,out):=⟨⟨by show 1≤1+x;omega,by show 1+x≤5;omega⟩,⟨by show 1≤ats.length;omega,by show ats.length≤4;omega⟩,a5,by show out.length≤5;omega⟩
  rw [e6',bs]
  dsimp only
  rw [gF hN (QSm.atoms hq.sm) (QSm.out hq.sm),bs]
  cases d6 (1+x) ats out with
  | true=>rw [cond_true];exact ⟨_,_,_,rfl,hc6,hq⟩
  | false=>rw [cond_false];exact ⟨_,_,_,rfl,hc6,hr⟩
theorem vz (hN:1073741824≤N) {a:List Int} (ha:d7 a) {p h:Int} (hc:b7 a p):∃ r q g,k9 N a p h=some (r,q,g)∧b7 a q∧QSm r:=by
 obtain ⟨⟨n,ats,out⟩,q,g,e,hc1,hr⟩:=pv hN ha (h:=h) hc
 obtain ⟨x,q2,g2,e2,_,_,_,hc2⟩:=bT (N:=N) ha (h:=g) (n:=14) hc1
 unfold k9
 rw [e,bs]
 dsimp only
 rw [e2,bs]
 dsimp only
 have hn:=hr.1;have ha1:=hr.2.1;have ha2:=hr.2.2.1;have ho:=hr.2.2.2
 dsimp only at hn ha1 ha2 ho
 have hsm:=hr.sm
 cases h0:(x == 0) with
 | true =>
  rw [cond_true,i6 (by omega) (by omega),bs]
  obtain ⟨y,q3,g3,e3,hy,hc3⟩:=gR (N:=N) ha (h:=g2) (l:=[0,6,n+1]) hc2 (Nat.zero_lt_succ _)
  rw [e3,bs]
  refine ⟨_,_,_,rfl,hc3,⟨?_,hsm.2⟩⟩
  simp only [List.mem_cons,List.not_mem_nil,or_false] at hy
  show 0≤y∧y≤6
  omega
 | false =>
 rw [cond_false]
 cases h1:(x == 1) with
 | true =>
  rw [cond_true]
  obtain ⟨y,q3,g3,e3,hy,hc3⟩:=nr (N:=N) ha (h:=g2) (l:=[ByteArray.empty,(⟨#[119]⟩:ByteArray),(⟨#[114]⟩:ByteArray)]) hc2 (by decide)
  have hys:∀ s∈[ByteArray.empty,(⟨#[119]⟩:ByteArray),(⟨#[114]⟩:ByteArray)],s.size≤4:=by decide
  rw [e3,bs,bp (by decide) (by simp;omega),bs]
  refine ⟨_,_,_,rfl,hc3,hsm.1,by show (ats++[_]).length≤5;simp;omega,fun b hb=>?_,hsm.2.2.2⟩
  rcases List.mem_append.1 hb with h | h
  ·exact hsm.2.2.1 b h
  ·rw [List.mem_singleton] at h;rw [h];exact ⟨hys y hy,by show ([0]:List Int).length≤5;decide⟩
 | false =>
 rw [cond_false]
 cases h2:(x == 2) with
 | true =>
  rw [cond_true]
  obtain ⟨y,q3,g3,e3,b0,b1,_,hc3⟩:=bT (N:=N) ha (h:=g2) (n:=6) hc2
  have b1:=b1 (by decide)
  rw [e3,bs]
  dsimp only
  rw [eY (by omega) (by omega),bs,bp (by decide) (by simp;omega),bs]
  exact ⟨_,_,_,rfl,hc3,hsm.1,hsm.2.1,hsm.2.2.1,by show (out++[_]).length≤6;simp;omega⟩
 | false =>
 rw [cond_false]
 have hl:0<ats.length:=by omega
 have i0:ix ats 0=some ats[0]:=aS hl
 have hm0:=ha2 _ (List.getElem_mem hl)
 cases h3:(x == 3) with
 | true =>
  have s0:sto ats 0 (ats[0].1,[])=some (ats.set 0 (ats[0].1,[])):=jR hl
  rw [cond_true,i0,bs,s0,bs]
  refine ⟨_,_,_,rfl,hc2,hsm.1,by show (ats.set 0 _).length≤5;rw [List.length_set];omega,fun b hb=>?_,hsm.2.2.2⟩
  rcases List.mem_or_eq_of_mem_set hb with h | h
  ·exact hsm.2.2.1 b h
  ·rw [h];exact ⟨hm0.1,Nat.zero_le _⟩
 | false =>
 rw [cond_false]
 cases h4:(x == 4) with
 | true =>
  obtain ⟨y,q3,g3,e3,hy,hc3⟩:=gR (N:=N) ha (h:=g2) (l:=[(-1),5]) hc2 (by decide)
  have hl1:0<ats[0].2.length:=by omega
  have i1:ix ats[0].2 0=some ats[0].2[0]:=aS hl1
  have s1:sto ats[0].2 0 y=some (ats[0].2.set 0 y):=jR hl1
  have s0:sto ats 0 (ats[0].1,ats[0].2.set 0 y)=some (ats.set 0 (ats[0].1,ats[0].2.set 0 y)):=jR hl
  rw [cond_true,i0,bs,e3,bs,i1,bs,s1,bs,s0,bs]
  refine ⟨_,_,_,rfl,hc3,hsm.1,by show (ats.set 0 _).length≤5;rw [List.length_set];omega,fun b hb=>?_,hsm.2.2.2⟩
  rcases List.mem_or_eq_of_mem_set hb with h | h
  ·exact hsm.2.2.1 b h
  ·rw [h];exact ⟨hm0.1,by show (ats[0].2.set 0 y).length≤5;rw [List.length_set];exact hm0.2.2⟩
 | false =>
 rw [cond_false]
 exact ⟨_,_,_,rfl,hc2,hsm⟩
end
def TSm (t:be):Prop:=t.1.size≤5∧t.2.2.length≤10∧∀ r∈t.2.2,r.length≤6
def DSm (ts:List be):Prop:=ts.length≤6∧∀ t∈ts,TSm t
theorem DSm.ok {ts:List be} (h:DSm ts):gI ts:=⟨by have:=h.1;omega,fun t ht=>by
 obtain ⟨h1,h2,h3⟩:=h.2 t ht
 exact ⟨by omega,by omega,fun r hr=>⟨by have:=h3 r hr;omega,fun _ _=>trivial⟩⟩⟩
theorem xA:∀ (n:Nat) (l:List Int),l.length<n→∃ v:Nat,v<n∧(v:Int)∉l:=by
 intro n
 induction n with
 | zero=>intro l h;omega
 | succ n ih =>
  intro l h
  by_cases hm:(n:Int)∈l
  ·have hl:=List.length_erase_of_mem hm
   have hp:=List.length_pos_of_mem hm
   obtain ⟨v,h1,h2⟩:=ih (l.erase (n:Int)) (by omega)
   exact ⟨v,by omega,fun hv=>h2 ((List.mem_erase_of_ne (by omega)).2 hv)⟩
  ·exact ⟨n,by omega,hm⟩
section
variable {N:Nat}
abbrev kU:List ByteArray:=[(⟨#[114]⟩:ByteArray),(⟨#[115]⟩:ByteArray),(⟨#[116]⟩:ByteArray),(⟨#[117]⟩:ByteArray),(⟨#[118]⟩:ByteArray)]
theorem wO {n m y:Int} {rows:aF} {s:ByteArray} (hs:s.size≤5) (hn:n≤5) (hy:y≤10) (hl:(rows.length:Int)≤y) (hr:∀ r∈rows,(r.length:Int)=n∧∀ v∈r,0≤v∧v<m):TSm (s,(n,rows)) :=
 ⟨hs,by show rows.length≤10;omega,fun r h=>by have:=(hr r h).1;omega⟩
theorem ze (hM:1073742848≤N) {a:List Int} (ha:d7 a) {z:List be} {m:Int} (hm:0<m∧m≤100):∀ (d k:Nat) (acc:List be) (p h:Int) (i:Nat),b7 a p→i+d=5→d<k→acc.length=i→(∀ t∈acc,TSm t) →
  ∃ q g ts v,ga N k a p h z m acc kU (kU.length:Int) (i:Int)=some (q,g,ts,v)∧b7 a q∧ts.length=5∧∀ t∈ts,TSm t:=by
 intro d
 induction d with
 | zero =>
  intro k acc p h i hc hd hk hl ht
  obtain ⟨k,rfl⟩:∃ g,k=g+1:=⟨k-1,by omega⟩
  rw [ga,decide_eq_false (show ¬ (i:Int)<(kU.length:Int) by show ¬ (i:Int)<5;omega),cond_false]
  exact ⟨_,_,_,_,rfl,hc,by omega,ht⟩
 | succ d ih =>
  intro k acc p h i hc hd hk hl ht
  obtain ⟨k,rfl⟩:∃ g,k=g+1:=⟨k-1,by omega⟩
  have hi:i<kU.length:=by show i<5;omega
  have hs:∀ s∈kU,s.size≤5:=by decide
  have hs':=hs _ (List.getElem_mem hi)
  rw [ga,decide_eq_true (show (i:Int)<(kU.length:Int) by omega),cond_true,aS hi,bs]
  obtain ⟨y,q,g,e,hy,hc1⟩:=gR (N:=N) ha (h:=h) (l:=[3,6,9]) hc (by decide)
  have hyb:0≤y∧y≤10:=by
   simp only [List.mem_cons,List.not_mem_nil,or_false] at hy
   omega
  cases eqS kU[i] (⟨#[118]⟩:ByteArray) with
  | true =>
   obtain ⟨rows,q2,g2,e2,hc2,r1,r2⟩:=od hM ha (h:=g) (n:=3) (m:=m) (y:=y) hc1 hm (by decide) (by omega)
   rw [cond_true,e,bs]
   dsimp only
   rw [e2,bs]
   dsimp only
   rw [bp (by decide) (by simp;omega),bs,ad1 (by omega),bs]
   refine ih k _ q2 g2 (i+1) hc2 (by omega) (by omega) (by simp;omega) fun t h=>?_
   rcases List.mem_append.1 h with h | h
   ·exact ht t h
   ·rw [List.mem_singleton] at h;rw [h];exact wO hs' (by decide) hyb.2 r1 r2
  | false =>
   obtain ⟨rows,q2,g2,e2,hc2,r1,r2⟩:=od hM ha (h:=g) (n:=2) (m:=m) (y:=y) hc1 hm (by decide) (by omega)
   rw [cond_false,e,bs]
   dsimp only
   rw [e2,bs]
   dsimp only
   rw [bp (by decide) (by simp;omega),bs,ad1 (by omega),bs]
   refine ih k _ q2 g2 (i+1) hc2 (by omega) (by omega) (by simp;omega) fun t h=>?_
   rcases List.mem_append.1 h with h | h
   ·exact ht t h
   ·rw [List.mem_singleton] at h;rw [h];exact wO hs' (by decide) hyb.2 r1 r2
theorem sd {ts:List be} {i:Nat} {t:be} (h:∀ t∈ts,TSm t) (ht:TSm t):∀ u∈ts.set i t,TSm u:=fun u hu=>by
 rcases List.mem_or_eq_of_mem_set hu with h' | h'
 ·exact h u h'
 ·rw [h'];exact ht
theorem pJ {α:Type} {xs:List α} {i:Int} {y:α} (h0:0≤i) (h:i<xs.length):sto xs i y=some (xs.set i.toNat y):=by
 obtain ⟨k,rfl⟩:=Int.eq_ofNat_of_zero_le h0
 exact jR (by omega)
theorem sq (hM:1073742848≤N) {a:List Int} (ha:d7 a) {p h:Int} (hc:b7 a p):∃ ts q g,kB N a p h=some (ts,q,g)∧b7 a q∧ts.length=5∧∀ t∈ts,TSm t:=by
 unfold kB
 obtain ⟨m,q,g,e,hm,hc1⟩:=gR (N:=N) ha (h:=h) (l:=[2,3,4,6]) hc (by decide)
 have hmb:0<m∧m≤100:=by
  simp only [List.mem_cons,List.not_mem_nil,or_false] at hm
  omega
 rw [e,bs]
 dsimp only
 obtain ⟨q2,g2,ts,v,e2,hc2,hl,ht⟩:=ze hM ha (z:=[]) hmb 5 N [] q g 0 hc1 rfl (by omega) rfl (by simp)
 have e2':ga N N a q g [] m [] kU (kU.length:Int) 0=some (q2,g2,ts,v):=e2
 rw [e2',bs]
 unfold lpB
 dsimp only
 obtain ⟨b,q3,g3,e3,hc3⟩:=jf (N:=N) ha (h:=g2) (n:=8) hc2
 rw [e3,bs]
 dsimp only
 cases b with
 | false=>rw [cond_false];exact ⟨_,_,_,rfl,hc3,hl,ht⟩
 | true =>
  obtain ⟨x,q4,g4,e4,b0,b1,_,hc4⟩:=bT (N:=N) ha (h:=g3) (n:=5) hc3
  have b1:=b1 (by decide)
  have hx:x<(ts.length:Int):=by omega
  have hm:=ht _ (List.getElem_mem (show x.toNat<ts.length by omega))
  rw [cond_true,e4,bs]
  dsimp only
  rw [iC b0 hx,bs,pJ b0 hx,bs]
  exact ⟨_,_,_,rfl,hc4,by rw [List.length_set];exact hl,sd ht ⟨hm.1,Nat.zero_le _,fun r hr=>by cases hr⟩⟩
theorem s6.t {r:Int × aF} {s:ByteArray} (hs:s.size≤5) (k:s6 r):TSm (s,r):=⟨hs,by show r.2.length≤10;have:=k.2.1;omega,fun w hw=>(k.2.2 w hw).1⟩
theorem vX (hM:1073742848≤N) {a:List Int} (ha:d7 a) {p h:Int} (hc:b7 a p):∃ ts q g,kP N a p h=some (ts,q,g)∧b7 a q∧DSm ts:=by
 have hN:1073741824≤N:=by omega
 obtain ⟨ts,q,g,e,hc1,hl,ht⟩:=sq hM ha (h:=h) hc
 obtain ⟨x,q2,g2,e2,b0,b1,_,hc2⟩:=bT (N:=N) ha (h:=g) (n:=5) hc1
 have b1:=b1 (by decide)
 obtain ⟨y,q3,g3,e3,_,_,_,hc3⟩:=bT (N:=N) ha (h:=g2) (n:=14) hc2
 have hx:x<(ts.length:Int):=by omega
 have hm:=ht _ (List.getElem_mem (show x.toNat<ts.length by omega))
 unfold kP
 rw [e,bs]
 dsimp only
 rw [e2,bs]
 dsimp only
 rw [e3,bs]
 dsimp only
 cases h0:(y == 0) with
 | true =>
  obtain ⟨s,q4,g4,e4,hs,hc4⟩:=nr (N:=N) ha (h:=g3) (l:=[ByteArray.empty,(⟨#[82]⟩:ByteArray),(⟨#[97,98,99,100,101]⟩:ByteArray),(⟨#[97]⟩:ByteArray),(⟨#[122]⟩:ByteArray)]) hc3 (by decide)
  have hss:∀ s∈[ByteArray.empty,(⟨#[82]⟩:ByteArray),(⟨#[97,98,99,100,101]⟩:ByteArray),(⟨#[97]⟩:ByteArray),(⟨#[122]⟩:ByteArray)],s.size≤5:=by decide
  rw [cond_true,e4,bs,iC b0 hx,bs,pJ b0 hx,bs]
  exact ⟨_,_,_,rfl,hc4,by rw [List.length_set];omega,sd ht ⟨hss s hs,hm.2⟩⟩
 | false =>
 rw [cond_false]
 cases h1:(y == 1) with
 | true =>
  obtain ⟨r,q4,g4,e4,hc4,hr⟩:=vW hM ha (h:=g3) hc3
  rw [cond_true,e4,bs,iC b0 hx,bs,pJ b0 hx,bs]
  exact ⟨_,_,_,rfl,hc4,by rw [List.length_set];omega,sd ht (hr.t hm.1)⟩
 | false =>
 rw [cond_false]
 cases h2:(y == 2) with
 | true =>
  rw [cond_true,iC b0 hx,bs,bp (by decide) (by simp;omega),bs]
  refine ⟨_,_,_,rfl,hc3,by simp;omega,fun t h=>?_⟩
  rcases List.mem_append.1 h with h | h
  ·exact ht t h
  ·rw [List.mem_singleton] at h;rw [h];exact hm
 | false =>
 rw [cond_false]
 cases h3:(y == 3) with
 | true =>
  have es:slc ts 0 x=some ((ts.take x.toNat).drop 0):=by
   have:=iD (xs:=ts) (lo:=0) (hi:=x.toNat) (by omega) (by omega)
   rwa [show ((x.toNat:Nat):Int)=x by omega] at this
  rw [cond_true,es,bs]
  refine ⟨_,_,_,rfl,hc3,by rw [List.drop_zero,List.length_take];omega,fun t h=>ht t (List.mem_of_mem_take (by simpa using h))⟩
 | false =>
 rw [cond_false]
 exact ⟨_,_,_,rfl,hc3,by omega,ht⟩
theorem uD (hM:1073742848≤N) {a:List Int} (ha:d7 a) {p h:Int} (hc:b7 a p):∃ ts r q g,kf N a p h=some (ts,r,q,g)∧b7 a q∧DSm ts∧QSm r:=by
 have hN:1073741824≤N:=by omega
 obtain ⟨ts,q,g,e,hc1,hl,ht⟩:=sq hM ha (h:=h) hc
 obtain ⟨r,q2,g2,e2,hc2,hr⟩:=pv hN ha (h:=g) hc1
 obtain ⟨y,q3,g3,e3,_,_,_,hc3⟩:=bT (N:=N) ha (h:=g2) (n:=24) hc2
 unfold kf
 rw [e,bs]
 dsimp only
 rw [e2,bs]
 dsimp only
 rw [e3,bs]
 dsimp only
 cases h0:(y == 0) with
 | true =>
  obtain ⟨ts2,q4,g4,e4,hc4,ht4⟩:=vX hM ha (h:=g3) hc3
  rw [cond_true,e4,bs]
  exact ⟨_,_,_,_,rfl,hc4,ht4,hr.sm⟩
 | false =>
 rw [cond_false]
 cases h1:(y == 1) with
 | true =>
  obtain ⟨r2,q4,g4,e4,hc4,hr4⟩:=vz hN ha (h:=g3) hc3
  rw [cond_true,e4,bs]
  exact ⟨_,_,_,_,rfl,hc4,⟨by omega,ht⟩,hr4⟩
 | false =>
 rw [cond_false]
 exact ⟨_,_,_,_,rfl,hc3,⟨by omega,ht⟩,hr.sm⟩
theorem vu (hN:1073741824≤N) {a acc:List Int} {p h:Int} {n v:Nat} (hn:n≤5) (hacc:acc.length≤5) (hv:v<n) (hf:(v:Int)∉acc):∀ (d k r:Nat),r<n→(r+d=v∨r+d=v+n)→d≤n→d<k→∃ x:Int,ft N k a p h (n:Int) acc (r:Int)=some x∧0≤x∧x<n:=by
 intro d
 induction d with
 | zero =>
  intro k r hr hd _ hk
  obtain ⟨k,rfl⟩:∃ g,k=g+1:=⟨k-1,by omega⟩
  have:r=v:=by omega
  subst this
  have hneg:¬ 0≤cS acc (r:Int):=fun h=>hf (nO.1 h)
  rw [ft,iU hN (by omega),bs,decide_eq_false hneg,cond_false]
  exact ⟨_,rfl,by omega,by omega⟩
 | succ d ih =>
  intro k r hr hd hdn hk
  obtain ⟨k,rfl⟩:∃ g,k=g+1:=⟨k-1,by omega⟩
  rw [ft,iU hN (by omega),bs]
  by_cases hq:0≤cS acc (r:Int)
  ·rw [decide_eq_true hq,cond_true,ad1 (by omega),bs,pQ (by omega),bs]
   by_cases hw:r+1=n
   ·have e:(((r+1:Nat):Int)).tmod (n:Int)=((0:Nat):Int):=by rw [hw,Int.tmod_self];rfl
    rw [e]
    exact ih k 0 (by omega) (by omega) (by omega) (by omega)
   ·have e:(((r+1:Nat):Int)).tmod (n:Int)=((r+1:Nat):Int):=Int.tmod_eq_of_lt (by omega) (by omega)
    rw [e]
    exact ih k (r+1) (by omega) (by omega) (by omega) (by omega)
  ·rw [decide_eq_false hq,cond_false]
   exact ⟨_,rfl,by omega,by omega⟩
theorem vO (hN:1073741824≤N) {a:List Int} (ha:d7 a) {n:Nat} (hn:n≤5):∀ (d k:Nat) (acc:List Int) (p h:Int),b7 a p→acc.length+d=n→d<k→(∀ v∈acc,0≤v∧v<n) →
  ∃ q g out,gj N k a p h (n:Int) acc=some (q,g,out)∧b7 a q∧out.length=n∧∀ v∈out,0≤v∧v<n:=by
 intro d
 induction d with
 | zero =>
  intro k acc p h hc hd hk hv
  obtain ⟨k,rfl⟩:∃ g,k=g+1:=⟨k-1,by omega⟩
  rw [gj,decide_eq_false (by omega),cond_false]
  exact ⟨_,_,_,rfl,hc,by omega,hv⟩
 | succ d ih =>
  intro k acc p h hc hd hk hv
  obtain ⟨k,rfl⟩:∃ g,k=g+1:=⟨k-1,by omega⟩
  obtain ⟨x,q,g,e,b0,b1,_,hc1⟩:=bT (N:=N) ha (h:=h) (n:=(n:Int)) hc
  have b1:=b1 (by omega)
  obtain ⟨v,hv1,hv2⟩:=xA n acc (by omega)
  obtain ⟨r,rfl⟩:=Int.eq_ofNat_of_zero_le b0
  obtain ⟨y,e2,y0,y1⟩:=vu hN (a:=a) (p:=q) (h:=g) hn (by omega) hv1 hv2 (if r≤v then v-r else v+n-r) N r (by omega) (by split <;> omega) (by split <;> omega) (by split <;> omega)
  rw [gj,decide_eq_true (by omega),cond_true,e,bs]
  dsimp only
  have e2':ft N N a q g (n:Int) acc ((r:Nat):Int)=some y:=e2
  rw [e2',bs]
  unfold lpB
  dsimp only
  rw [bp (by decide) (by simp;omega),bs]
  refine ih k _ q g hc1 (by simp;omega) (by omega) fun w hw=>?_
  rcases List.mem_append.1 hw with h | h
  ·exact hv w h
  ·rw [List.mem_singleton] at h;rw [h];exact ⟨y0,y1⟩
theorem td (hN:1073741824≤N) {a:List Int} (ha:d7 a) {p h:Int} {n:Nat} (hn:n≤5) (hc:b7 a p):∃ out q g,jC N a p h (n:Int)=some (out,q,g)∧b7 a q∧out.length=n:=by
 obtain ⟨q,g,out,e,h1,h2,_⟩:=vO hN ha hn n N [] p h hc (by simp) (by omega) (by simp)
 unfold jC
 rw [e,bs]
 exact ⟨_,_,_,rfl,h1,h2⟩
theorem sU (hN:1073741824≤N) {a:List Int} (ha:d7 a) {p h n:Int} {ats:List aY} {o:List Int} (hc:b7 a p):∃ out q g,jc N a p h n ats o=some (out,q,g)∧b7 a q∧out.length≤5:=by
 unfold jc
 have hi:∃ m:Nat,imx 0 (imn 5 n)=(m:Int)∧m≤5:=by
  have h1:0≤imx 0 (imn 5 n)∧imx 0 (imn 5 n)≤5:=by
   unfold imx imn
   split <;> split at*<;> omega
  exact ⟨(imx 0 (imn 5 n)).toNat,by omega,by omega⟩
 obtain ⟨m,em,hm⟩:=hi
 obtain ⟨out,q,g,e,hc1,hl⟩:=td hN ha (h:=h) hm hc
 rw [em,e,bs]
 dsimp only
 by_cases h0:(0:Int)<(out.length:Int)
 ·obtain ⟨b,q2,g2,e2,hc2⟩:=jf (N:=N) ha (h:=g) (n:=14) hc1
  rw [decide_eq_true h0,cond_true,e2,bs]
  dsimp only
  cases b with
  | false=>rw [cond_false];exact ⟨_,_,_,rfl,hc2,by omega⟩
  | true =>
   obtain ⟨x,q3,g3,e3,_,_,_,hc3⟩:=bT (N:=N) ha (h:=g2) (n:=6) hc2
   rw [cond_true,e3,bs,iC (by decide) h0,bs,pJ (by decide) h0,bs]
   exact ⟨_,_,_,rfl,hc3,by rw [List.length_set];omega⟩
 ·rw [decide_eq_false h0,cond_false];exact ⟨_,_,_,rfl,hc1,by rw [hl];exact hm⟩
def JSm (ts:List be) (r:my) (o:List Int):Prop:=DSm ts∧QSm r∧o.length≤5
theorem JSm.o {ts:List be} {r:my} {o:List Int} (h:JSm ts r o):okI o:=⟨by have:=h.2.2;omega,fun _ _=>trivial⟩
theorem tV (hM:1073742848≤N) {a:List Int} (ha:d7 a) {p h:Int} (hc:b7 a p):∃ ts r o q g,jD N a p h=some (ts,r,o,q,g)∧b7 a q∧JSm ts r o:=by
 obtain ⟨ts,r,q,g,e,hc1,ht,hr⟩:=uD hM ha (h:=h) hc
 unfold jD
 rw [e,bs]
 dsimp only
 obtain ⟨o,q2,g2,e2,hc2,hl⟩:=sU (N:=N) (by omega) ha (h:=g) (n:=r.1) (ats:=r.2.1) (o:=r.2.2) hc1
 rw [e2,bs]
 exact ⟨_,_,_,_,_,rfl,hc2,ht,hr,hl⟩
theorem Az {a:List Int}:b7 a 0:=⟨Int.le_refl _,by omega⟩
end
section
variable {N:Nat}
theorem mH (hN:1073741824≤N) {xs ys:List Int} (hx:xs.length≤1048576):gt N xs ys=some (decide (xs=ys)):=by
 unfold gt
 by_cases hl:xs.length=ys.length
 ·rw [Al hl,cond_false]
  refine zi (L:=fun k i=>ea N k xs ys i) hl hx hN (fun k i h h'=>?_) (fun k=>?_)
  ·show ea N (k+1) xs ys (i:Int)=_
   rw [ea,dlt h,cond_true,aS h,bs,aS h',bs,vF,ad1 (by omega),bs]
   cases decide (xs[i]=ys[i]) <;> rfl
  ·show ea N (k+1) xs ys (xs.length:Int)=_
   rw [ea,dge (by omega),cond_false]
 ·rw [Ao hl,cond_true];exact zp hl
end
theorem ta {N:Nat} (hM:1073742848≤N) {a:List Int} (ha:d7 a) {p h:Int} (hc:b7 a p) {ts:List be} {n:Int} {ats:List aY} {out o:List Int} (d1:gI ts) (d2:b9 ats) (d3:okI out) (d4:okI o):∃ row q g,jz N a p h ts n ats out o=some (row,q,g)∧b7 a q∧okI row:=by
 have hN:1073741824≤N:=by omega
 have hok:=io (ts:=ts) (n:=n) (atoms:=ats) (out:=out) (order:=o)
 have key:∀ p h,b7 a p→∃ row q g,((eh N a p h 2).bind fun r159=>(bif r159.1 then some (([]:List Int),r159.2.1,r159.2.2) else (bD N a r159.2.1 r159.2.2 5).bind fun r168=>(gG N a r168.2.1 r168.2.2 r168.1 4).bind fun r170=>some (r170.1,r170.2.1,r170.2.2)))=some (row,q,g)∧b7 a q∧okI row:=fun p h hc=>by
  obtain ⟨b,q,g,e,hc1⟩:=jf (N:=N) ha (h:=h) (n:=2) hc
  rw [e,bs]
  cases b with
  | true=>exact ⟨_,_,_,rfl,hc1,by simp,fun _ _=>trivial⟩
  | false =>
   obtain ⟨x,q2,g2,e2,b0,b1,_,hc2⟩:=bT (N:=N) ha (h:=g) (n:=5) hc1
   have b1:=b1 (by decide)
   obtain ⟨w,q3,g3,e3,hc3,hw,_⟩:=nV (N:=N) hN ha (h:=g2) (n:=x) (m:=4) hc2 (by decide) (by omega)
   dsimp only
   rw [cond_false,e2,bs]
   dsimp only
   rw [e3,bs]
   exact ⟨_,_,_,rfl,hc3,by show w.length≤1048576;omega,fun _ _=>trivial⟩
 unfold jz
 rw [iZ hM d1 d2 d3 d4,bs]
 by_cases hJ:(0:Int)<((bk ts n ats out o).1.2.length:Int)
 ·obtain ⟨b,q,g,e,hc1⟩:=jf (N:=N) ha (h:=h) (n:=2) hc
  rw [decide_eq_true hJ,cond_true,e,bs]
  cases b with
  | true =>
   obtain ⟨x,q2,g2,e2,b0,b1,_,hc2⟩:=bT (N:=N) ha (h:=g) (n:=((bk ts n ats out o).1.2.length:Int)) hc1
   have b1:=b1 hJ
   obtain ⟨x,rfl⟩:=Int.eq_ofNat_of_zero_le b0
   have hx:x<(bk ts n ats out o).1.2.length:=by omega
   have hr:=hok.2 _ (List.getElem_mem hx)
   have hrl:=hr.1
   dsimp only
   rw [cond_true,e2,bs]
   dsimp only
   rw [aS hx,bs,bp (by decide) (by simp;omega),bs]
   exact ⟨_,_,_,rfl,hc2,hr⟩
  | false =>
   dsimp only
   rw [cond_false]
   exact key q g hc1
 ·rw [decide_eq_false hJ,cond_false]
  exact key p h hc
theorem nD {N:Nat} (hM:1073742848≤N) {a:List Int} (ha:d7 a):∃ ts r o last c,fh N a=some (ts,r,o,last,c)∧JSm ts r o∧okI last:=by
 obtain ⟨h,e⟩:=vU (N:=N) (by omega) ha
 obtain ⟨ts,r,o,q,g,e2,hc2,hj⟩:=tV hM ha (h:=h) Az
 obtain ⟨last,q3,g3,e3,hc3,hl⟩:=ta hM ha (h:=g) hc2 hj.1.ok hj.2.1.atoms hj.2.1.out hj.o (n:=r.1)
 obtain ⟨x,q4,g4,e4,b0,b1,_,_⟩:=bT (N:=N) ha (h:=g3) (n:=6) hc3
 have b1:=b1 (by decide)
 unfold fh
 rw [e,bs]
 dsimp only
 rw [e2,bs]
 dsimp only
 rw [e3,bs]
 dsimp only
 rw [e4,bs]
 dsimp only
 rw [eY (by omega) (by omega),bs]
 exact ⟨_,_,_,_,_,rfl,hj,hl⟩
theorem nl {N:Nat} (hM:1073742848≤N) {ts:List be} {n:Int} {ats:List aY} {out o:List Int} (d1:gI ts) (d2:b9 ats) (d3:okI out) (d4:okI o) (hJ:(bk ts n ats out o).2.2=true) {l:aF}:∀ (m i k:Nat) (last:List Int),i+m=l.length→m<k→okI last→(∃ c,l.drop i=(c8 (bk ts n ats out o).1.2 last).take c)→l.length≤1048576 →
  ∃ v,cL N k ts n ats out o last l l (i:Int)=some (.inr v):=by
 have hN:1073741824≤N:=by omega
 have hok:=io (ts:=ts) (n:=n) (atoms:=ats) (out:=out) (order:=o)
 obtain ⟨kk,k1,k5,_,hrl,hasc,_⟩:=py (ts:=ts) (n:=n) (atoms:=ats) (out:=out) (order:=o)
 intro m
 induction m with
 | zero =>
  intro i k last hi hk hl hd hb
  obtain ⟨k,rfl⟩:∃ g,k=g+1:=⟨k-1,by omega⟩
  rw [cL,dge (by omega),cond_false]
  exact ⟨_,rfl⟩
 | succ m ih =>
  intro i k last hi hk hl hd hb
  obtain ⟨k,rfl⟩:∃ g,k=g+1:=⟨k-1,by omega⟩
  have h:i<l.length:=by omega
  obtain ⟨c,hd⟩:=hd
  rw [dM h] at hd
  cases hbv:c8 (bk ts n ats out o).1.2 last with
  | nil=>rw [hbv,List.take_nil] at hd;cases hd
  | cons r rest =>
   rw [hbv] at hd
   cases c with
   | zero=>rw [List.take_zero] at hd;cases hd
   | succ c =>
    rw [List.take_succ_cons] at hd
    obtain ⟨e1,e2⟩:=List.cons.inj hd
    have hmem:r∈(bk ts n ats out o).1.2:=(List.mem_filter.1 (show r∈(bk ts n ats out o).1.2.filter (eB last) by
     have:(bk ts n ats out o).1.2.filter (eB last)=r :: rest:=hbv
     rw [this];exact List.mem_cons_self)).1
    have hlen:=hrl r hmem
    have htl:=qw hasc (by omega) hbv
    have hkr:=hok.2 r hmem
    have hkl:=hkr.1
    have hnv:lM (bk ts n ats out o) last=(r,true):=by
     unfold lM
     rw [hJ,hbv];rfl
    rw [cL,dlt h,cond_true,oR hM d1 d2 d3 d4 hl,bs,hnv]
    dsimp only
    rw [cond_true,aS h,bs,e1,mH hN hkl,bs,decide_eq_true rfl,cond_true,bs,bs,mH hN hkl,bs,decide_eq_true rfl,cond_true,ad1 (by omega),bs]
    exact ih (i+1) k r (by omega) (by omega) hkr ⟨c,by rw [htl];exact e2⟩ hb
theorem oN {N:Nat} (hM:1073742848≤N) {x0:List Int} (_:(mL (fun _=>True) 9223372036854775807) x0) (g0:∀ v∈x0,0≤v∧v≤255):gL N x0=some true:=by
 have hN:1073741824≤N:=by omega
 unfold gL oa
 rw [bs]
 by_cases hb:(1048576:Int)<(x0.length:Int)
 ·rw [decide_eq_true hb];rfl
 ·rw [decide_eq_false hb,cond_false]
  have hc:d7 x0:=⟨by omega,fun v hv=>g0 v hv⟩
  obtain ⟨ts,⟨n,ats,out⟩,o,last,c,e1,hj,hl⟩:=nD hM hc
  have d1:=hj.1.ok;have d2:=hj.2.1.atoms;have d3:=hj.2.1.out;have d4:=hj.o
  rw [e1,bs]
  dsimp only at d2 d3 ⊢
  have hok:=io (ts:=ts) (n:=n) (atoms:=ats) (out:=out) (order:=o)
  have hno:=wm (last:=last) (n:=c) hok
  have hnl:=hno.1
  have h0:okI ([]:List Int):=⟨by simp,fun _ _=>trivial⟩
  have hle:((fR (bk ts n ats out o) last c).length:Int)≤imx 0 c:=by
   unfold fR
   cases (bk ts n ats out o).2.2 with
   | false=>rw [cond_false];unfold imx;split <;> simp <;> omega
   | true=>rw [cond_true,List.length_take];unfold imx;split <;> omega
  have hloop:∃ v,cL N N ts n ats out o last (fR (bk ts n ats out o) last c) (fR (bk ts n ats out o) last c) 0=some (.inr v):=by
   cases hJ:(bk ts n ats out o).2.2 with
   | true =>
    refine nl hM d1 d2 d3 d4 hJ (fR (bk ts n ats out o) last c).length 0 N last (by omega) (by omega) hl ⟨c.toNat,?_⟩ hnl
    unfold fR
    rw [hJ,List.drop_zero];rfl
   | false =>
    obtain ⟨M,hM'⟩:∃ M,N=M+1:=⟨N-1,by omega⟩
    have:fR (bk ts n ats out o) last c=[]:=by unfold fR;rw [hJ];rfl
    rw [this]
    refine ⟨(last,0),?_⟩
    conv=>lhs;arg 2;rw [hM']
    rw [cL];rfl
  obtain ⟨v,hv⟩:=hloop
  rw [lf hM d1 d2 d3 d4 hl,bs,n6 hM d1 d2 d3 d4 hl,bs,bne_self_eq_false,cond_false,decide_eq_false (by omega),cond_false,hv,bs,pk,iZ hM d1 d2 d3 d4,bs,lf hM d1 d2 d3 d4 h0,bs]
  cases hJ:(bk ts n ats out o).2.2 with
  | false =>
   have:fR (bk ts n ats out o) last c=[]:=by unfold fR;rw [hJ];rfl
   rw [cond_false,this];rfl
  | true =>
   have hf:fR (bk ts n ats out o) [] 2=(bk ts n ats out o).1.2.take 2:=by
    unfold fR c8
    rw [hJ,cond_true,List.filter_eq_self.2 fun r _=>by unfold eB;rfl];rfl
   rw [cond_true,hf]
   have hlen:((((bk ts n ats out o).1.2.take 2).length:Int) == imn 2 ((bk ts n ats out o).1.2.length:Int))=true:=by
    rw [List.length_take];unfold imn
    simp only [beq_iff_eq]
    split <;> omega
   rw [hlen,cond_true]
   by_cases hz:(bk ts n ats out o).1.2=[]
   ·rw [hz];rfl
   ·have hp:0<(bk ts n ats out o).1.2.length:=List.length_pos_iff.2 hz
    have hp2:0<((bk ts n ats out o).1.2.take 2).length:=by rw [List.length_take];omega
    have hr0:=(hok.2 _ (List.getElem_mem hp)).1
    rw [show ((((bk ts n ats out o).1.2.take 2).length:Int) == 0)=false by simp only [beq_eq_false_iff_ne,ne_eq];omega,cond_false,show (0:Int)=((0:Nat):Int) from rfl,aS hp2,bs,aS hp,bs,List.getElem_take,mH hN hr0,bs,decide_eq_true rfl]
section
variable {P:Program} {n:Nat} {Q Q':Exit→Env→World→Prop} {K:Env→World→Prop} {KQ:Env→Prop} {e:Env} {w w0:World} {c y:Code} {x:Exit} {ops:Array Oper} {rest:List Oper}
variable {d:Nat} {op:Op} {ty:TypeId} {pos:String} {af:Array Edge} {o z1 z2 z3:Operand} {v:Value} {q1:Oper}
theorem sA {α:Type} {R:Rep α} {W W' w:World} {F F':List Nat} (he:∀ b∈F,W'.heap[b]? = W.heap[b]?) (hs:∀ b∈F,b∈F'):∀ {xs:List α} {ccs:List Value} {f:List Nat},dN (fzR W F R) w ccs xs f→dN (fzR W' F' R) w ccs xs f
 | [],_,_,h=>h
 | x :: xs,_,_,h=>by
  obtain ⟨ec,rest,f1,f2,rfl,rfl,⟨⟨f,h1,h2⟩,h3⟩,h4⟩:=h
  exact ⟨ec,rest,f1,f2,rfl,rfl,⟨⟨f,R.own_ext h1 (fun b hb=>he b (h2 b hb)),fun b hb=>hs b (h2 b hb)⟩,h3⟩,sA he hs h4⟩
theorem uK {α:Type} {R:Rep α} {E:TypeId} {v:Value} {W W' w:World} {F F':List Nat} (he:∀ b∈F,W'.heap[b]? = W.heap[b]?) (hs:∀ b∈F,b∈F') {xs:List α} {f:List Nat} (h:(ay (fzR W F R) E).own w [v] xs f):(ay (fzR W' F' R) E).own w [v] xs f:=by
 rcases h with ⟨k1,rfl,rfl⟩ | ⟨g,cap,cur,ccs,fe,hv,hg,k1,k2,k3,k4,k5,rfl⟩
 ·exact .inl ⟨k1,rfl,rfl⟩
 ·exact .inr ⟨g,cap,cur,ccs,fe,hv,hg,k1,k2,k3,k4,sA he hs k5,rfl⟩
theorem Sat.growNil {Γ:List Asn} (hS:Sat w0 w Γ):Sat w0 w (Frz w [] :: Γ):=hS.add ⟨rfl,by simp,by simp⟩
theorem Sat.absorb {α β:Type} {R:Rep α} {S:Rep β} {E:TypeId} {v:Value} {W:World} {F:List Nat} {Γ:List Asn} {cs:List Value} {y:β} {xs:List α} (hS:Sat w0 w (Own S cs y :: Own (ay (fzR W F R) E) [v] xs :: Frz W F :: Γ)) :
  ∃ F' Fy,S.own w cs y Fy∧(∀ b∈Fy,b∈F')∧(∀ b∈F,b∈F')∧(∀ b∈F,w.heap[b]? = W.heap[b]?)∧Sat w0 w (Own (ay (fzR w F' R) E) [v] xs :: Frz w F' :: Γ):=by
 obtain ⟨hb,_,⟨fy,_,rfl,h1,fl,_,rfl,h2,fF,f2,rfl,⟨rfl,he,hlt⟩,h3⟩,hn,h4⟩:=hS
 have hs:∀ b∈fF,b∈fy++fF:=fun b hb=>List.mem_append_right _ hb
 have hp:(fl++((fy++fF)++f2)).Perm (fy++(fl++(fF++f2))):=List.perm_iff_count.2 fun a=>by
  simp only [List.count_append];omega
 refine ⟨fy++fF,fy,h1,fun b hb=>List.mem_append_left _ hb,hs,he,hb,fl++((fy++fF)++f2),⟨fl,_,rfl,uK he hs h2,fy++fF,f2,rfl,⟨rfl,fun _ _=>rfl,fun b hb=>?_⟩,h3⟩,hp.nodup_iff.2 hn,fun b hb'=>h4 b (hp.mem_iff.1 hb')⟩
 rcases List.mem_append.1 hb with hb | hb
 ·exact S.own_lt h1 b hb
 ·have k:=he b hb
  rw [Array.getElem?_eq_getElem (hlt b hb)] at k
  exact (Array.getElem?_eq_some_iff.1 k).1
theorem Sat.regrow {α:Type} {R:Rep α} {E:TypeId} {v:Value} {W:World} {F:List Nat} {Γ:List Asn} {xs:List α} (hS:Sat w0 w (Own (ay (fzR W F R) E) [v] xs :: Frz W F :: Γ)) :
  (∀ b∈F,w.heap[b]? = W.heap[b]?)∧Sat w0 w (Own (ay (fzR w F R) E) [v] xs :: Frz w F :: Γ):=by
 have he:=hS.frzEq 1 rfl
 have h1:Sat w0 w (Frz w F :: Own (ay (fzR W F R) E) [v] xs :: Γ):=(hS.top 1 rfl).refrz
 exact ⟨he,(h1.top 1 rfl).conv fun f h=>uK he (fun _ h=>h) h⟩
def RdF {α:Type} (w0 W:World) (F:List Nat) (R:Rep α) (cs:List Value) (x:α):Prop:=R.rd w0 cs x∨∃ f,R.own W cs x f∧∀ b∈f,b∈F
theorem RdF.up {α:Type} {R:Rep α} {W W':World} {F F':List Nat} {cs:List Value} {x:α} (h:RdF w0 W F R cs x) (he:∀ b∈F,W'.heap[b]? = W.heap[b]?) (hs:∀ b∈F,b∈F'):RdF w0 W' F' R cs x:=by
 rcases h with h | ⟨f,h1,h2⟩
 ·exact .inl h
 ·exact .inr ⟨f,R.own_ext h1 (fun b hb=>he b (h2 b hb)),fun b hb=>hs b (h2 b hb)⟩
theorem Sat.rdF {α:Type} {R:Rep α} {W:World} {F:List Nat} {Γ:List Asn} (i:Nat) (hS:Sat w0 w Γ) (hi:Γ[i]? = some (Frz W F)) {cs:List Value} {x:α} (h:RdF w0 W F R cs x):R.rd w cs x:=by
 rcases h with h | ⟨f,h1,h2⟩
 ·exact hS.up h
 ·exact hS.frzRd i hi h1 h2
theorem dt {p:Prop} [Decidable p] (h:decide p=true:=by rfl):p:=of_decide_eq_true h
theorem oB {α β:Type} {C:Prop} {o:Option α} {f:α→Option β} {r:β} (h:o.bind f=some r) (k:∀ x,o=some x→f x=some r→C):C:=by
 obtain ⟨x,h1,h2⟩:=ob h
 exact k x h1 h2
theorem oF {α:Type} {C:Prop} {c:Bool} {x y:Option α} {r:α} (h:(bif c then x else y)=some r) (k1:c=true→x=some r→C) (k2:c=false→y=some r→C):C:=by
 rcases oif h with ⟨h1,h2⟩ | ⟨h1,h2⟩
 ·exact k1 h1 h2
 ·exact k2 h1 h2
theorem oI {α:Type} {a b:α} (h:some a=some b):a=b:=Option.some.inj h
theorem nn {α:Type} {x:α} (h:none=some x):False:=nomatch h
theorem cR {α:Type} {a b:α} (h:a=b) (f:α→Value):Ending.returned (f a)=Ending.returned (f b):=by rw [h]
theorem sP {α:Type} {a b:α} (h:a=b) (f:α→List Asn) (S:Sat w0 w (f a)):Sat w0 w (f b):=by rw [← h];exact S
abbrev pt (b o:Nat):Value:=.pointer (some ⟨b,o,none⟩)
theorem sg (h:∀ Q':Exit→Env→World→Prop,(∀ x e w,thn (fun e w=>CW P n y Q e w) Q x e w→Q' x e w)→CW P n c Q' e w):CW P n (.seq c y) Q e w:=wU (rg h)
theorem sR {id:Nat} {l:List Oper} (h:∀ Q':Exit→Env→World→Prop,(∀ x e w,thn (fun e w=>CW P n y Q e w) Q x e w→Q' x e w)→EL P n l.toArray (fun e w=>Q' .normal e w) l e w):CW P n (.seq (.region id l.toArray false) y) Q e w:=wU (rg fun Q' q=>ag (h Q' q))
theorem gn (h:∀ Q':Exit→Env→World→Prop,(∀ x e w,Q x e w→Q' x e w)→CW P n c Q' e w):CW P n c Q e w:=rg h
theorem bg {i:Nat} (h:∀ Q':Exit→Env→World→Prop,(∀ x e w,inb i Q x e w→Q' x e w)→CW P n c Q' e w):CW P n (.block i c) Q e w:=xf (rg h)
theorem hq {f:Exit→Env→World→Prop} (h:∀ x e w,f x e w→Q' x e w) (k:f x e w):Q' x e w:=h _ _ _ k
theorem tn (h:∀ x e w,thn K Q x e w→Q' x e w) (k:K e w):Q' .normal e w:=h _ _ _ k
theorem tr (h:∀ x e w,thn K Q x e w→Q' x e w) (k:Q .ret e w):Q' .ret e w:=h _ _ _ k
theorem tx {i:Nat} (h:∀ x e w,thn K Q x e w→Q' x e w) (k:Q (.exit i) e w):Q' (.exit i) e w:=h _ _ _ k
theorem bn {i:Nat} (h:∀ x e w,inb i Q x e w→Q' x e w) (k:Q .normal e w):Q' .normal e w:=h _ _ _ k
theorem br {i:Nat} (h:∀ x e w,inb i Q x e w→Q' x e w) (k:Q .ret e w):Q' .ret e w:=h _ _ _ k
theorem bS {i:Nat} (h:∀ x e w,inb i Q x e w→Q' x e w) (k:Q .normal e w):Q' (.exit i) e w:=h _ _ _ (Ap k)
theorem en (h:∀ x e w,thn K Q x e w→Q' x e w) (k:K e w):EL P n ops (fun e w=>Q' .normal e w) [] e w:=ah (h _ _ _ k)
theorem sn (h:∀ x e w,thn K Q x e w→Q' x e w) (k:K e w):CW P n .skip Q' e w:=aT (h _ _ _ k)
theorem pa (v:Value) (hK:EL P n ops K rest (upd e d v) w) (hx:ev e o=v:=by exact rfl) (hd:d<n:=by decide):EL P n ops K (⟨some d,.assign o,ty,pos,af,none⟩ :: rest) e w:=lL (cJ hx) hd hK
theorem pm (v:Value) (hK:EL P n ops K rest (upd e d v) w) (hx:ev e o=v:=by exact rfl) (hd:d<n:=by decide):EL P n ops K (⟨some d,.move o,ty,pos,af,none⟩ :: rest) e w:=lL (aX hx) hd hK
theorem pM (v:Value) (hx:ev e o=v) (hK:EL P n ops K rest (upd e d v) w) (hd:d<n:=by decide):EL P n ops K (⟨some d,.move o,ty,pos,af,none⟩ :: rest) e w:=lL (aX hx) hd hK
theorem pe (v:Value) (hp:PV P ⟨some d,op,ty,pos,af,none⟩ e w v) (hK:EL P n ops K rest (upd e d v) w) (hd:d<n:=by decide):EL P n ops K (⟨some d,op,ty,pos,af,none⟩ :: rest) e w:=lL hp hd hK
theorem qe (v:Value) (hp:PV P ⟨some d,op,ty,pos,af,none⟩ e w v) (hK:QL P n ops w KQ rest (upd e d v)) (hd:d<n:=by decide):QL P n ops w KQ (⟨some d,op,ty,pos,af,none⟩ :: rest) e:=pR hp hd hK
theorem qm (v:Value) (hK:QL P n ops w KQ rest (upd e d v)) (hx:ev e o=v:=by exact rfl) (hd:d<n:=by decide):QL P n ops w KQ (⟨some d,.move o,ty,pos,af,none⟩ :: rest) e:=pR (aX hx) hd hK
theorem qM (v:Value) (hx:ev e o=v) (hK:QL P n ops w KQ rest (upd e d v)) (hd:d<n:=by decide):QL P n ops w KQ (⟨some d,.move o,ty,pos,af,none⟩ :: rest) e:=pR (aX hx) hd hK
theorem eo {j:Nat} {b b' c:Bool} (hc:c=b) (hK:EL P n ops K rest (upd e d undef) w) (h:yld ops e j=some c:=by exact rfl) (hb:(b == b')=false:=by exact rfl) (hd:d<n:=by decide):EL P n ops K (⟨some d,op,ty,pos,af,some (j,b')⟩ :: rest) e w:=zG h hc hb hd hK
theorem qo {j:Nat} {b b' c:Bool} (hc:c=b) (hK:QL P n ops w KQ rest (upd e d undef)) (h:yld ops e j=some c:=by exact rfl) (hb:(b == b')=false:=by exact rfl) (hd:d<n:=by decide):QL P n ops w KQ (⟨some d,op,ty,pos,af,some (j,b')⟩ :: rest) e:=zQ h hc hb hd hK
theorem ei {j:Nat} {b c:Bool} {dst:Option Nat} (hc:c=b) (hK:EL P n ops K (⟨dst,op,ty,pos,af,none⟩ :: rest) e w) (h:yld ops e j=some c:=by exact rfl):EL P n ops K (⟨dst,op,ty,pos,af,some (j,b)⟩ :: rest) e w:=An h hc hK
theorem qi {j:Nat} {b c:Bool} {dst:Option Nat} (hc:c=b) (hK:QL P n ops w KQ (⟨dst,op,ty,pos,af,none⟩ :: rest) e) (h:yld ops e j=some c:=by exact rfl):QL P n ops w KQ (⟨dst,op,ty,pos,af,some (j,b)⟩ :: rest) e:=Am h hc hK
theorem ct {b:Bool} (hb:b=true) (h:CW P n c Q e w) (hc:ev e o=.bool b:=by exact rfl):CW P n (.cond o c y) Q e w:=wz hc hb h
theorem cf {b:Bool} (hb:b=false) (h:CW P n y Q e w) (hc:ev e o=.bool b:=by exact rfl):CW P n (.cond o c y) Q e w:=wi hc hb h
theorem rB {a b:Bool} {Γ:List Asn} (h:some a=some b) (hS:Sat w0 w Γ):Ending.returned (.bool a)=.returned (.bool b)∧Ext w0 w:=⟨by rw [Option.some.inj h],hS.below⟩
theorem rI {a b:Int} {Γ:List Asn} (h:some a=some b) (hS:Sat w0 w Γ):Ending.returned (.int .i64 a)=.returned (.int .i64 b)∧Ext w0 w:=⟨by rw [Option.some.inj h],hS.below⟩
abbrev i_ (x:Int):Value:=.int .i64 x
abbrev n_:Value:=.slice none 0 0
theorem ec0 {f:FuncId} {args:Array Operand} {tys:Array TypeId} {vals:Array Value} {Γ:List Asn} (hg:Goes P f) (hc:Calls P f vals w fun x w'=>x=.returned v∧Ext w w') (hv:(args.toList.map (ev e)).toArray=vals) (S:Sat w0 w Γ)
  (hK:∀ w',Ext w w'→Sat w0 w' Γ→EL P n ops K rest (upd e d v) w') (hd:d<n:=by decide):EL P n ops K (⟨some d,.call ⟨.value (.func f),args,tys⟩,ty,pos,af,none⟩ :: rest) e w :=
 aU hg hc hv hd (by rintro _ w' ⟨rfl,hx⟩;exact ⟨_,rfl,hK w' hx (S.ext hx)⟩)
theorem ec1 {f:FuncId} {args:Array Operand} {tys:Array TypeId} {vals:Array Value} {Γ:List Asn} {G:Value→Value} {A:Value→Asn} (hg:Goes P f) (hc:Calls P f vals w fun x w'=>∃ v,x=.returned (G v)∧Sat w w' [A v]) (hv:(args.toList.map (ev e)).toArray=vals) (S:Sat w0 w Γ)
  (hK:∀ w' v,Ext w w'→Sat w0 w' (A v :: Γ)→EL P n ops K rest (upd e d (G v)) w') (hd:d<n:=by decide):EL P n ops K (⟨some d,.call ⟨.value (.func f),args,tys⟩,ty,pos,af,none⟩ :: rest) e w :=
 aU hg hc hv hd (by rintro _ w' ⟨v,rfl,S'⟩;exact ⟨_,rfl,hK w' v S'.below (S.call1 S')⟩)
theorem aO {X:List Nat} {C:World→Prop} (i:Nat) {f:Nat} {L:Array Bool} (ho:ops[i]? = some q1)
  (h:EL P n ops (fun e' w'=>(X.contains i=true→C w')∧AL P n ops X C K f (L.setIfInBounds i true) e' w') [q1] e w) (hr:Region.ready .any ops L=[i]:=by kernel_rfl):AL P n ops X C K (f+1) L e w:=Ac i hr ho h
theorem aP {X:List Nat} {C:World→Prop} (v:Value) (i:Nat) {f:Nat} {L:Array Bool} (hi:ops[i]? = some q1) (hdst:q1.dst=some d) (hC:C w)
  (hy:SV P n ops C q1 e v) (hK:AL P n ops X C K f (L.setIfInBounds i true) (upd e d v) w) (hsel:lO ops=true:=by kernel_rfl) (hdn:d<n:=by decide) (hf:ni ops X L i q1=true:=by kernel_rfl) (hr:(Region.ready .any ops L).contains i=true:=by kernel_rfl):AL P n ops X C K (f+1) L e w:=vr hsel i hi hdst hdn hC hf hr hy hK
theorem ca {α β:Type} {f:α→β} {l:List α} {m:List β} (h:l.map f=m):(l.map f).toArray=m.toArray:=congrArg List.toArray h
theorem Sat.t1 {a0 a1:Asn} {Γ:List Asn} (h:Sat w0 w (a0 :: a1 :: Γ)):Sat w0 w (a1 :: a0 :: Γ):=h.top 1 rfl
theorem Sat.t2 {a0 a1 a2:Asn} {Γ:List Asn} (h:Sat w0 w (a0 :: a1 :: a2 :: Γ)):Sat w0 w (a2 :: a0 :: a1 :: Γ):=h.top 2 rfl
theorem Sat.t3 {a0 a1 a2 a3:Asn} {Γ:List Asn} (h:Sat w0 w (a0 :: a1 :: a2 :: a3 :: Γ)):Sat w0 w (a3 :: a0 :: a1 :: a2 :: Γ):=h.top 3 rfl
theorem Sat.t4 {a0 a1 a2 a3 a4:Asn} {Γ:List Asn} (h:Sat w0 w (a0 :: a1 :: a2 :: a3 :: a4 :: Γ)):Sat w0 w (a4 :: a0 :: a1 :: a2 :: a3 :: Γ):=h.top 4 rfl
theorem Sat.t5 {a0 a1 a2 a3 a4 a5:Asn} {Γ:List Asn} (h:Sat w0 w (a0 :: a1 :: a2 :: a3 :: a4 :: a5 :: Γ)):Sat w0 w (a5 :: a0 :: a1 :: a2 :: a3 :: a4 :: Γ):=h.top 5 rfl
theorem Sat.t6 {a0 a1 a2 a3 a4 a5 a6:Asn} {Γ:List Asn} (h:Sat w0 w (a0 :: a1 :: a2 :: a3 :: a4 :: a5 :: a6 :: Γ)):Sat w0 w (a6 :: a0 :: a1 :: a2 :: a3 :: a4 :: a5 :: Γ):=h.top 6 rfl
theorem Sat.t7 {a0 a1 a2 a3 a4 a5 a6 a7:Asn} {Γ:List Asn} (h:Sat w0 w (a0 :: a1 :: a2 :: a3 :: a4 :: a5 :: a6 :: a7 :: Γ)):Sat w0 w (a7 :: a0 :: a1 :: a2 :: a3 :: a4 :: a5 :: a6 :: Γ):=h.top 7 rfl
theorem Sat.t8 {a0 a1 a2 a3 a4 a5 a6 a7 a8:Asn} {Γ:List Asn} (h:Sat w0 w (a0 :: a1 :: a2 :: a3 :: a4 :: a5 :: a6 :: a7 :: a8 :: Γ)):Sat w0 w (a8 :: a0 :: a1 :: a2 :: a3 :: a4 :: a5 :: a6 :: a7 :: Γ):=h.top 8 rfl
theorem Sat.t9 {a0 a1 a2 a3 a4 a5 a6 a7 a8 a9:Asn} {Γ:List Asn} (h:Sat w0 w (a0 :: a1 :: a2 :: a3 :: a4 :: a5 :: a6 :: a7 :: a8 :: a9 :: Γ)):Sat w0 w (a9 :: a0 :: a1 :: a2 :: a3 :: a4 :: a5 :: a6 :: a7 :: a8 :: Γ):=h.top 9 rfl
theorem Sat.r0 {a0:Asn} {Γ:List Asn} (h:Sat w0 w (a0 :: Γ)):Sat w0 w (Γ):=h.rem 0 rfl
theorem Sat.r1 {a0 a1:Asn} {Γ:List Asn} (h:Sat w0 w (a0 :: a1 :: Γ)):Sat w0 w (a0 :: Γ):=h.rem 1 rfl
theorem Sat.r2 {a0 a1 a2:Asn} {Γ:List Asn} (h:Sat w0 w (a0 :: a1 :: a2 :: Γ)):Sat w0 w (a0 :: a1 :: Γ):=h.rem 2 rfl
theorem Sat.r3 {a0 a1 a2 a3:Asn} {Γ:List Asn} (h:Sat w0 w (a0 :: a1 :: a2 :: a3 :: Γ)):Sat w0 w (a0 :: a1 :: a2 :: Γ):=h.rem 3 rfl
theorem Sat.r4 {a0 a1 a2 a3 a4:Asn} {Γ:List Asn} (h:Sat w0 w (a0 :: a1 :: a2 :: a3 :: a4 :: Γ)):Sat w0 w (a0 :: a1 :: a2 :: a3 :: Γ):=h.rem 4 rfl
theorem Sat.r5 {a0 a1 a2 a3 a4 a5:Asn} {Γ:List Asn} (h:Sat w0 w (a0 :: a1 :: a2 :: a3 :: a4 :: a5 :: Γ)):Sat w0 w (a0 :: a1 :: a2 :: a3 :: a4 :: Γ):=h.rem 5 rfl
theorem Sat.r6 {a0 a1 a2 a3 a4 a5 a6:Asn} {Γ:List Asn} (h:Sat w0 w (a0 :: a1 :: a2 :: a3 :: a4 :: a5 :: a6 :: Γ)):Sat w0 w (a0 :: a1 :: a2 :: a3 :: a4 :: a5 :: Γ):=h.rem 6 rfl
theorem Sat.r7 {a0 a1 a2 a3 a4 a5 a6 a7:Asn} {Γ:List Asn} (h:Sat w0 w (a0 :: a1 :: a2 :: a3 :: a4 :: a5 :: a6 :: a7 :: Γ)):Sat w0 w (a0 :: a1 :: a2 :: a3 :: a4 :: a5 :: a6 :: Γ):=h.rem 7 rfl
theorem Sat.r8 {a0 a1 a2 a3 a4 a5 a6 a7 a8:Asn} {Γ:List Asn} (h:Sat w0 w (a0 :: a1 :: a2 :: a3 :: a4 :: a5 :: a6 :: a7 :: a8 :: Γ)):Sat w0 w (a0 :: a1 :: a2 :: a3 :: a4 :: a5 :: a6 :: a7 :: Γ):=h.rem 8 rfl
theorem Sat.r9 {a0 a1 a2 a3 a4 a5 a6 a7 a8 a9:Asn} {Γ:List Asn} (h:Sat w0 w (a0 :: a1 :: a2 :: a3 :: a4 :: a5 :: a6 :: a7 :: a8 :: a9 :: Γ)):Sat w0 w (a0 :: a1 :: a2 :: a3 :: a4 :: a5 :: a6 :: a7 :: a8 :: Γ):=h.rem 9 rfl
theorem Sat.r10 {a0 a1 a2 a3 a4 a5 a6 a7 a8 a9 a10:Asn} {Γ:List Asn} (h:Sat w0 w (a0 :: a1 :: a2 :: a3 :: a4 :: a5 :: a6 :: a7 :: a8 :: a9 :: a10 :: Γ)):Sat w0 w (a0 :: a1 :: a2 :: a3 :: a4 :: a5 :: a6 :: a7 :: a8 :: a9 :: Γ):=h.rem 10 rfl
end
abbrev R0_:=ay bN 3
abbrev R1_:=ay jj 9
abbrev R2_:=nN R0_ 28
abbrev R3_:=ay R0_ 28
abbrev R4_:=og jj R0_
abbrev R6_:=og bN R3_
abbrev R7_:=ay R4_ 95
abbrev R9_:=ay R6_ 90
abbrev mJ:=og jj R6_
abbrev bB:=ay mJ 131
abbrev T0_:=List Int
abbrev T1_:=List T0_
abbrev T3_:=ByteArray × List Int
abbrev T4_:=Int × List T0_
abbrev T6_:=ByteArray × T4_
abbrev T7_:=List T6_
abbrev T8_:=Int × List T3_ × List Int
section
set_option maxRecDepth 100000
set_option maxHeartbeats 4000000
theorem uu {w0:World} {u0:Value} {a0:List Int} (ha0:(ay u8R 5).rd w0 [u0] a0) {N:Nat} {r:Bool} (F:oa N a0=some r): Calls Tryz.prog 5 #[u0] w0 fun e w'=>e=.returned (.bool r)∧Ext w0 w' := by
 unfold oa at F;refine aK Tryz.func5 rfl rfl dt ?_;have S:=Sat.start w0;refine sR fun _ D=>pa (.bool false) (en D (sR fun _ J=>pm u0 (pe (i_ (a0.length:Int)) (au rfl ha0) (pe (.bool (decide (1048576 < (a0.length:Int)))) (bq rfl rfl) (pa (.bool (decide (1048576 < (a0.length:Int)))) (en J (aj (aJ rfl rfl ?_))))))));exact rB F S
theorem sV {w0:World} {u0:Value} {a0:List Int} (ha0:(ay u8R 5).rd w0 [u0] a0) {N:Nat} {r:Int × Int} (F:lb N a0=some r): Calls Tryz.prog 20 #[u0] w0 fun e w'=>∃ (q0:Nat),e=.returned (pt q0 0)∧Sat w0 w' [Box q0 77 [u0,i_ r.1,i_ r.2]] := by
 unfold lb at F;refine aK Tryz.func20 rfl rfl dt ?_;have S:=Sat.start w0;refine sR fun _ AY=>pa (.pointer none) (en AY (sR fun _ AZ=>pm u0 (pe (i_ (a0.length:Int)) (au rfl ha0) (oB F fun AG AQ F=>pe (i_ AG) (aE rfl rfl AQ) (pa (i_ AG) (en AZ (sg fun _ AM=>sR fun _ A0=>pa (i_ 0) (en A0 (bg fun _ AN=>?_)))))))));obtain ⟨A1,hL,AK⟩:=ob F;refine aH (fun k e w=>∃ (D:Int),∃ (J:Int),e 0=u0∧e 3=i_ D∧e 4=i_ J∧Sat w0 w []∧gu N k a0 D J=some A1) N ?_ ?_ ?_
 ·exact ⟨AG,0,rfl,rfl,rfl,S,hL⟩
 ·rintro e w ⟨_,_,_,_,_,_,hz⟩; exact nn hz
 rintro k Bb Bc ⟨D,J,Y,AB,Z,S,F⟩;refine gn fun _ AH=>sg fun _ AI=>sR fun _ AO=>pM (i_ J) Z (pM u0 Y (pe (i_ (a0.length:Int)) (au rfl ha0) (pe (.bool (decide (J < (a0.length:Int)))) (aL rfl rfl) (pm (.bool (decide (J < (a0.length:Int)))) (oF F (fun U F=>?_) fun U F=>?_)))))
 ·refine ei U (pM (i_ J) Z (ei U (pe (.bool (decide (J < 4000))) (aL rfl rfl) (pe (.bool (decide (J < 4000))) (av rfl U rfl) (en AO (oF F (fun AC F=>?_) fun AC F=>?_))))))
  ·refine ct AC (sn AI (sg fun _ A2=>bg fun _ A3=>ag (pM (i_ D) AB (oB F fun A4 AR F=>pe (i_ A4) (rx rfl rfl AR) (pM u0 Y (pM (i_ J) Z (oB F fun AP AS F=>?_)))))));refine aI (wA:=w0) rfl ha0 rfl dt rfl AS dt ?_;intro Bd A8 Be AT AU;obtain rfl:=AT;refine pe (.int .u8 AP) (ac rfl ((ak S.below AU) 0 _ rfl)) (pe (i_ (IntKind.i64.wrap AP)) (tD Tryz.underlying5 Tryz.underlying3 rfl) (oB F fun A5 AV F=>pe (i_ A5) (aE rfl rfl AV) (oB F fun AD AW F=>pe (i_ AD) (aE rfl rfl AW) (pe (i_ (fV AD 1073741823)) (tY rfl rfl) (pa (i_ (fV AD 1073741823)) (ah (bn A3 (tn A2 (ag (pM (i_ J) Z (oB F fun AJ AX F=>pe (i_ AJ) (aE rfl rfl AX) (pa (i_ AJ) (en AH ?_)))))))))))));replace S:=S.keep 0;exact ⟨(fV AD 1073741823),AJ,Y,rfl,rfl,S,F⟩
  refine cf AC (aG (tx AI (tx AH ?_)));replace F:=exB F AK;refine bS AN (tn AM (sR fun _ A6=>pM u0 Y (pM (i_ D) AB (pe (.agg #[u0,i_ 0,i_ D]) (bi [(0,[u0]),(2,[i_ D])] [u0,i_ 0,i_ D] (cM (aM rfl (oc ha0)) (cM rfl rfl)) rfl) ?_))));refine bo [u0,i_ 0,i_ D] rfl S dt ?_;intro Bf AE S A9;refine pa (pt AE 0) (en A6 (aj (aJ rfl rfl ?_)));have hr:=oI F;exact ⟨AE,cR hr fun r=>.pointer (some ⟨AE,0,none⟩),sP hr (fun r=>[Box AE 77 [u0,i_ r.1,i_ r.2]]) (S.keep 1)⟩
 refine eo U (eo U (pe (.bool false) (aA rfl U rfl) (en AO (cf rfl (aG (tx AI (tx AH ?_)))))));replace F:=exB F AK;refine bS AN (tn AM (sR fun _ A7=>pM u0 Y (pM (i_ D) AB (pe (.agg #[u0,i_ 0,i_ D]) (bi [(0,[u0]),(2,[i_ D])] [u0,i_ 0,i_ D] (cM (aM rfl (oc ha0)) (cM rfl rfl)) rfl) ?_))));refine bo [u0,i_ 0,i_ D] rfl S dt ?_;intro Bg AF S Ba;refine pa (pt AF 0) (en A7 (aj (aJ rfl rfl ?_)));have hr:=oI F;exact ⟨AF,cR hr fun r=>.pointer (some ⟨AF,0,none⟩),sP hr (fun r=>[Box AF 77 [u0,i_ r.1,i_ r.2]]) (S.keep 1)⟩
theorem iJ {w0:World} {Y:World} {G0:List Asn} {b0:Nat} {u0:Value} {a0:List Int} {a1:Int} {a2:Int} (ha0:(ay u8R 5).rd Y [u0] a0) (S:Sat Y w0 (Box b0 77 [u0,i_ a1,i_ a2] :: G0)) {N:Nat} {r:Int × Int × Int} (F:f8 N a0 a1 a2=some r): Calls Tryz.prog 47 #[.pointer (some ⟨b0,0,none⟩)] w0 fun e w'=>e=.returned (i_ r.1)∧Sat Y w' (Box b0 77 [u0,i_ r.2.1,i_ r.2.2] :: G0) := by
 unfold f8 at F;refine aK Tryz.func47 rfl rfl dt ?_;refine sR fun _ AM=>pa (i_ 0) (en AM (sR fun _ AN=>pm (pt b0 0) (pm (pt b0 0) (pe (pt b0 0) (fq rfl) (pe (pt b0 (0 + 2)) (ae rfl) (pe (i_ a2) (ac rfl ((S.boxAt 0 rfl) 2 _ rfl)) (pe (i_ (IntKind.i64.wrap (a2 * 6364136223846793005))) (yy rfl rfl) (pe (i_ (IntKind.i64.wrap ((IntKind.i64.wrap (a2 * 6364136223846793005)) + 1442695040888963407))) (sa rfl rfl) (pe (pt b0 0) (fq rfl) (pe (pt b0 (0 + 2)) (ae rfl) ?_))))))))));refine aq (S.top 0 rfl) rfl [i_ (IntKind.i64.wrap ((IntKind.i64.wrap (a2 * 6364136223846793005)) + 1442695040888963407))] rfl rfl dt (all_cons rfl rfl) ?_;intro AO S;replace S:Sat Y AO (Box b0 77 [u0,i_ a1,i_ (IntKind.i64.wrap ((IntKind.i64.wrap (a2 * 6364136223846793005)) + 1442695040888963407))] :: G0):=S;refine en AN (sg fun _ AP=>?_);refine bM (by kernel_rfl) (by kernel_rfl) ?_;refine qm (pt b0 0) (qe (pt b0 0) (fq rfl) (qe (pt b0 (0 + 2)) (ae rfl) (qe (i_ (IntKind.i64.wrap ((IntKind.i64.wrap (a2 * 6364136223846793005)) + 1442695040888963407))) (ac rfl ((S.boxAt 0 rfl) 2 _ rfl)) (oB F fun D AD F=>qe (i_ D) (w8 rfl rfl AD) (qm (pt b0 0) (qe (pt b0 0) (fq rfl) (qe (pt b0 (0 + 2)) (ae rfl) (qe (i_ (IntKind.i64.wrap ((IntKind.i64.wrap (a2 * 6364136223846793005)) + 1442695040888963407))) (ac rfl ((S.boxAt 0 rfl) 2 _ rfl)) (oB F fun J AE F=>qe (i_ J) (w8 rfl rfl AE) (qe (i_ (jv D J)) (zH rfl rfl) (qe (i_ (fV (jv D J) 255)) (tY rfl rfl) (qe (i_ (fV (jv D J) 255)) (cJ rfl) (bc ?_)))))))))))));intro AW AF;replace S:=S.ext AF;refine tn AP (sg fun _ AB=>sg fun _ AQ=>?_);refine bM (by kernel_rfl) (by kernel_rfl) ?_;refine qm (pt b0 0) (qe (pt b0 0) (fq rfl) (qe (pt b0 (0 + 1)) (ae rfl) (qe (i_ a1) (ac rfl ((S.boxAt 0 rfl) 1 _ rfl)) (qm (pt b0 0) (qe (pt b0 0) (fq rfl) (qe (pt b0 (0 + 0)) (ae rfl) (qe u0 (ac rfl ((S.boxAt 0 rfl) 0 _ rfl)) (qe (i_ (a0.length:Int)) (au rfl ha0) (qe (.bool (decide (a1 < (a0.length:Int)))) (aL rfl rfl) (bc ?_))))))))));intro AR AG;replace S:=S.ext AG;refine tn AQ (oF F (fun Z F=>?_) fun Z F=>?_)
 ·refine ct Z (sg fun _ AS=>?_);refine bM (by kernel_rfl) (by kernel_rfl) ?_;refine qm (i_ (fV (jv D J) 255)) (qm (pt b0 0) (qe (pt b0 0) (fq rfl) (qe (pt b0 (0 + 0)) (ae rfl) (qe u0 (ac rfl ((S.boxAt 0 rfl) 0 _ rfl)) (qm (pt b0 0) (qe (pt b0 0) (fq rfl) (qe (pt b0 (0 + 1)) (ae rfl) (qe (i_ a1) (ac rfl ((S.boxAt 0 rfl) 1 _ rfl)) (oB F fun U AH F=>?_)))))))));refine aZ (wA:=Y) rfl ha0 rfl dt rfl AH dt ?_;intro AX AV AY AI AJ;obtain rfl:=AI;refine qe (.int .u8 U) (ac rfl ((ak S.below AJ) 0 _ rfl)) (qe (i_ (IntKind.i64.wrap U)) (tD Tryz.underlying5 Tryz.underlying3 rfl) (qe (i_ (IntKind.i64.wrap ((fV (jv D J) 255) + (IntKind.i64.wrap U)))) (sa rfl rfl) (qe (i_ (fV (IntKind.i64.wrap ((fV (jv D J) 255) + (IntKind.i64.wrap U))) 255)) (tY rfl rfl) (qe (i_ (fV (IntKind.i64.wrap ((fV (jv D J) 255) + (IntKind.i64.wrap U))) 255)) (cJ rfl) (bc ?_)))));intro AZ AK;replace S:=S.ext AK;refine tn AS (ag (pm (pt b0 0) (pm (pt b0 0) (pe (pt b0 0) (fq rfl) (pe (pt b0 (0 + 1)) (ae rfl) (pe (i_ a1) (ac rfl ((S.boxAt 0 rfl) 1 _ rfl)) (pe (i_ (IntKind.i64.wrap (a1 + 1))) (sa rfl rfl) (pe (pt b0 0) (fq rfl) (pe (pt b0 (0 + 1)) (ae rfl) ?_)))))))));refine aq (S.top 0 rfl) rfl [i_ (IntKind.i64.wrap (a1 + 1))] rfl rfl dt (all_cons rfl rfl) ?_;intro AC S;replace S:Sat Y AC (Box b0 77 [u0,i_ (IntKind.i64.wrap (a1 + 1)),i_ (IntKind.i64.wrap ((IntKind.i64.wrap (a2 * 6364136223846793005)) + 1442695040888963407))] :: G0):=S;refine en AB (sR fun _ AT=>pm (i_ (fV (IntKind.i64.wrap ((fV (jv D J) 255) + (IntKind.i64.wrap U))) 255)) (pa (i_ (fV (IntKind.i64.wrap ((fV (jv D J) 255) + (IntKind.i64.wrap U))) 255)) (en AT (aj (aJ rfl rfl ?_)))));have hr:=oI F;exact ⟨(cR hr fun r=>i_ r.1 :),Eq.mp (congrArg (fun (r:Int × Int × Int)=>Sat Y AC (Box b0 77 [u0,i_ r.2.1,i_ r.2.2] :: G0)) hr :) S⟩
 refine cf Z (sn AB (sR fun _ AU=>pm (i_ (fV (jv D J) 255)) (pa (i_ (fV (jv D J) 255)) (en AU (aj (aJ rfl rfl ?_))))));have hr:=oI F;exact ⟨(cR hr fun r=>i_ r.1 :),Eq.mp (congrArg (fun (r:Int × Int × Int)=>Sat Y AR (Box b0 77 [u0,i_ r.2.1,i_ r.2.2] :: G0)) hr :) S⟩
theorem bv {w0:World} {D:World} {G0:List Asn} {b0:Nat} {u0:Value} {a0:List Int} {a1:Int} {a2:Int} {a3:Int} (ha0:(ay u8R 5).rd D [u0] a0) (S:Sat D w0 (Box b0 77 [u0,i_ a1,i_ a2] :: G0)) {N:Nat} {r:Int × Int × Int} (F:bD N a0 a1 a2 a3=some r): Calls Tryz.prog 23 #[.pointer (some ⟨b0,0,none⟩),i_ a3] w0 fun e w'=>e=.returned (i_ r.1)∧Sat D w' (Box b0 77 [u0,i_ r.2.1,i_ r.2.2] :: G0) := by
 unfold bD at F;refine aK Tryz.func23 rfl rfl dt ?_;refine sR fun _ AY=>pa (i_ 0) (en AY (sg fun _ AD=>sR fun _ AZ=>pm (i_ a3) (pe (.bool (decide (a3 ≤ 0))) (ik rfl rfl) (en AZ (oF F (fun J F=>?_) fun J F=>?_)))))
 ·refine ct J (sR fun _ A0=>pa (i_ 0) (en A0 (aj (tr AD (aJ rfl rfl ?_)))));have hr:=oI F;exact ⟨(cR hr fun r=>i_ r.1 :),Eq.mp (congrArg (fun (r:Int × Int × Int)=>Sat D w0 (Box b0 77 [u0,i_ r.2.1,i_ r.2.2] :: G0)) hr :) S⟩
 refine cf J (sn AD (sg fun _ AE=>sR fun _ A1=>pm (i_ a3) (pe (.bool (decide (a3 ≤ 256))) (ik rfl rfl) (en A1 (oF F (fun U F=>?_) fun U F=>?_)))))
 ·refine ct U (sR fun _ A2=>pm (pt b0 0) (oB F fun AF AK F=>?_));refine aU oY (iJ ha0 S AK) (ca (ai rfl rfl)) dt ?_;rintro _ AG ⟨rfl,S⟩;refine ⟨_,rfl,?_⟩;replace S:Sat D AG (Box b0 77 [u0,i_ AF.2.1,i_ AF.2.2] :: G0):=S;refine pm (i_ a3) (oB F fun AH AM F=>pe (i_ AH) (nx rfl rfl AM) (pa (i_ AH) (en A2 (aj (tr AE (aJ rfl rfl ?_))))));have hr:=oI F;exact ⟨(cR hr fun r=>i_ r.1 :),Eq.mp (congrArg (fun (r:Int × Int × Int)=>Sat D AG (Box b0 77 [u0,i_ r.2.1,i_ r.2.2] :: G0)) hr :) S⟩
 refine cf U (sn AE (sR fun _ A3=>pm (pt b0 0) (oB F fun Y AN F=>?_)));refine aU oY (iJ ha0 S AN) (ca (ai rfl rfl)) dt ?_;rintro _ A4 ⟨rfl,S⟩;refine ⟨_,rfl,?_⟩;replace S:Sat D A4 (Box b0 77 [u0,i_ Y.2.1,i_ Y.2.2] :: G0):=S;refine pa (i_ Y.1) (en A3 (sR fun _ A5=>pm (pt b0 0) (oB F fun Z AO F=>?_)));refine aU oY (iJ ha0 S AO) (ca (ai rfl rfl)) dt ?_;rintro _ A6 ⟨rfl,S⟩;refine ⟨_,rfl,?_⟩;replace S:Sat D A6 (Box b0 77 [u0,i_ Z.2.1,i_ Z.2.2] :: G0):=S;refine pa (i_ Z.1) (en A5 (sR fun _ A7=>pm (pt b0 0) (oB F fun AB AP F=>?_)));refine aU oY (iJ ha0 S AP) (ca (ai rfl rfl)) dt ?_;rintro _ A8 ⟨rfl,S⟩;refine ⟨_,rfl,?_⟩;replace S:Sat D A8 (Box b0 77 [u0,i_ AB.2.1,i_ AB.2.2] :: G0):=S;refine pa (i_ AB.1) (en A7 (sR fun _ A9=>pm (pt b0 0) (oB F fun AC AQ F=>?_)));refine aU oY (iJ ha0 S AQ) (ca (ai rfl rfl)) dt ?_;rintro _ AI ⟨rfl,S⟩;refine ⟨_,rfl,?_⟩;replace S:Sat D AI (Box b0 77 [u0,i_ AC.2.1,i_ AC.2.2] :: G0):=S;refine pa (i_ AC.1) (en A9 (sR fun _ Ba=>pm (i_ Y.1) (oB F fun Bb AR F=>pe (i_ Bb) (rx rfl rfl AR) (pm (i_ Z.1) (oB F fun Bc AS F=>pe (i_ Bc) (rx rfl rfl AS) (oB F fun Bd AT F=>pe (i_ Bd) (aE rfl rfl AT) (pm (i_ AB.1) (oB F fun Be AU F=>pe (i_ Be) (rx rfl rfl AU) (oB F fun Bf AV F=>pe (i_ Bf) (aE rfl rfl AV) (pm (i_ AC.1) (oB F fun Bg AW F=>pe (i_ Bg) (aE rfl rfl AW) (pm (i_ a3) (oB F fun AJ AX F=>pe (i_ AJ) (nx rfl rfl AX) (pa (i_ AJ) (en Ba (aj (aJ rfl rfl ?_)))))))))))))))));have hr:=oI F;exact ⟨(cR hr fun r=>i_ r.1 :),Eq.mp (congrArg (fun (r:Int × Int × Int)=>Sat D AI (Box b0 77 [u0,i_ r.2.1,i_ r.2.2] :: G0)) hr :) S⟩
theorem fX {w0:World} {J:World} {G0:List Asn} {b0:Nat} {u0:Value} {a0:List Int} {a1:Int} {a2:Int} {a3:Int} (ha0:(ay u8R 5).rd J [u0] a0) (S:Sat J w0 (Box b0 77 [u0,i_ a1,i_ a2] :: G0)) {N:Nat} {r:Bool × Int × Int} (F:eh N a0 a1 a2 a3=some r): Calls Tryz.prog 45 #[.pointer (some ⟨b0,0,none⟩),i_ a3] w0 fun e w'=>e=.returned (.bool r.1)∧Sat J w' (Box b0 77 [u0,i_ r.2.1,i_ r.2.2] :: G0) := by
 unfold eh at F;refine aK Tryz.func45 rfl rfl dt ?_;refine sR fun _ Z=>pa (.bool false) (en Z (sR fun _ AB=>pm (pt b0 0) (pm (i_ a3) (oB F fun D Y F=>?_))));refine aU dZ (bv ha0 S Y) (ca (ai rfl (ai rfl rfl))) dt ?_;rintro _ U ⟨rfl,S⟩;refine ⟨_,rfl,?_⟩;replace S:Sat J U (Box b0 77 [u0,i_ D.2.1,i_ D.2.2] :: G0):=S;refine pe (.bool (D.1 == 0)) (bu rfl rfl) (pa (.bool (D.1 == 0)) (en AB (aj (aJ rfl rfl ?_))));have hr:=oI F;exact ⟨(cR hr fun r=>.bool r.1 :),Eq.mp (congrArg (fun (r:Bool × Int × Int)=>Sat J U (Box b0 77 [u0,i_ r.2.1,i_ r.2.2] :: G0)) hr :) S⟩
theorem eG {w0:World} {J:World} {G0:List Asn} {b0:Nat} {u0:Value} {a0:List Int} {a1:Int} {a2:Int} {u3:Value} {a3:List Int} (ha0:(ay u8R 5).rd J [u0] a0) (S:Sat J w0 (Box b0 77 [u0,i_ a1,i_ a2] :: Own R0_ [u3] a3 :: G0)) {N:Nat} {r:Int × Int × Int} (F:dG N a0 a1 a2 a3=some r): Calls Tryz.prog 95 #[.pointer (some ⟨b0,0,none⟩),u3] w0 fun e w'=>e=.returned (i_ r.1)∧Sat J w' (Box b0 77 [u0,i_ r.2.1,i_ r.2.2] :: G0) := by
 unfold dG at F;refine aK Tryz.func95 rfl rfl dt ?_;refine sR fun _ AD=>pa (i_ 0) (en AD (sR fun _ AE=>pm u3 (pm (pt b0 0) (pm u3 (pe (i_ (a3.length:Int)) (au rfl (S.rdAt (R:=R0_) 1 rfl)) (oB F fun U AC F=>?_))))));refine aU dZ (bv ha0 S AC) (ca (ai rfl (ai rfl rfl))) dt ?_;rintro _ Z ⟨rfl,S⟩;refine ⟨_,rfl,?_⟩;replace S:Sat J Z (Box b0 77 [u0,i_ U.2.1,i_ U.2.2] :: Own R0_ [u3] a3 :: G0):=S;refine oB F fun AB D F=>?_;obtain ⟨AF,AG,Y⟩:=bH 1 S rfl D;refine pe (pt AF (U.1.toNat * 1)) (bA (v:=u3) rfl Y rfl D) (pe (i_ AB) (ac rfl (S.ownCell 1 rfl Y D)) (pa (i_ AB) (en AE (aj (aJ rfl rfl ?_)))));have hr:=oI F;replace S:=S.r1;exact ⟨(cR hr fun r=>i_ r.1 :),Eq.mp (congrArg (fun (r:Int × Int × Int)=>Sat J Z (Box b0 77 [u0,i_ r.2.1,i_ r.2.2] :: G0)) hr :) S⟩
theorem d9 {w0:World} {a0:Int} {a1:Int} {a2:Int}  {N:Nat} {r:Bool} (F:ef N a0 a1 a2=some r): Calls Tryz.prog 40 #[i_ a0,i_ a1,i_ a2] w0 fun e w'=>e=.returned (.bool r)∧Ext w0 w' := by
 unfold ef at F;refine aK Tryz.func40 rfl rfl dt ?_;have S:=Sat.start w0;refine sR fun _ U=>pa (.bool false) (en U (sR fun _ J=>pm (i_ a0) (pm (i_ a1) (pe (.bool (decide (a1 ≤ a0))) (dU rfl rfl) (pm (.bool (decide (a1 ≤ a0))) (oF F (fun D F=>?_) fun D F=>?_))))))
 ·refine ei D (pm (i_ a0) (ei D (pm (i_ a2) (ei D (pe (.bool (decide (a0 ≤ a2))) (ik rfl rfl) (pe (.bool (decide (a0 ≤ a2))) (av rfl D rfl) (pa (.bool (decide (a0 ≤ a2))) (en J (aj (aJ rfl rfl ?_))))))))));exact rB F S
 refine eo D (eo D (eo D (pe (.bool false) (aA rfl D rfl) (pa (.bool false) (en J (aj (aJ rfl rfl ?_)))))));exact rB F S
theorem j9 {w0:World} {u0:Value} {a0:List Int} (ha0:R0_.rd w0 [u0] a0) {N:Nat} {r:Bool} (F:eT N a0=some r): Calls Tryz.prog 39 #[u0] w0 fun e w'=>e=.returned (.bool r)∧Ext w0 w' := by
 unfold eT at F;refine aK Tryz.func39 rfl rfl dt ?_;have S:=Sat.start w0;refine sR fun _ AP=>pa (.bool false) (en AP (sg fun _ AE=>sR fun _ AQ=>pa (i_ 0) (en AQ (bg fun _ AF=>?_))));obtain ⟨AR,hL,AD⟩:=ob F;refine aH (fun k e w=>∃ (D:Int),e 0=u0∧e 3=i_ D∧Sat w0 w []∧c5 N k a0 D=some AR) N ?_ ?_ ?_
 ·exact ⟨0,rfl,rfl,S,hL⟩
 ·rintro e w ⟨_,_,_,_,hz⟩; exact nn hz
 rintro k A0 A1 ⟨D,J,U,S,F⟩;refine gn fun _ AB=>sg fun _ AG=>sR fun _ AS=>pM (i_ D) U (pM u0 J (pe (i_ (a0.length:Int)) (au rfl ha0) (pe (.bool (decide (D < (a0.length:Int)))) (aL rfl rfl) (en AS (oF F (fun Y F=>?_) fun Y F=>?_)))))
 ·refine ct Y (sn AG (sg fun _ AH=>bg fun _ AI=>sR fun _ AT=>pM u0 J (pM (i_ D) U (oB F fun AU AJ F=>?_))));refine aI (wA:=w0) rfl ha0 rfl dt rfl AJ dt ?_;intro A2 AY A3 AK AM;obtain rfl:=AK;refine pe (i_ AU) (ac rfl ((ak S.below AM) 0 _ rfl)) (oB F fun AV AN F=>?_);refine ec0 ju (d9 AN) (ca (ai rfl (ai rfl (ai rfl rfl)))) S fun A4 AZ S=>?_;refine pe (.bool (!AV)) (bb rfl) (en AT (oF F (fun Z F=>?_) fun Z F=>?_))
  ·refine cf (am Z) (aT (bn AI (tn AH (ag (pM (i_ D) U (oB F fun AC AO F=>pe (i_ AC) (aE rfl rfl AO) (pa (i_ AC) (en AB ?_))))))));replace S:=S.keep 0;exact ⟨AC,J,rfl,S,F⟩
  refine ct (an Z) (sR fun _ AW=>pa (.bool false) (en AW (aj (br AI (tr AH (tr AB (br AF (tr AE ?_))))))));replace F:=exL F AD;refine aJ rfl rfl ?_;exact rB F S
 refine cf Y (aG (tx AG (tx AB ?_)));replace F:=exA F AD;refine bS AF (tn AE (sR fun _ AX=>pa (.bool true) (en AX (aj (aJ rfl rfl ?_)))));exact rB F S
theorem nI {w0:World} {a0:Int} {u1:Value} {a1:List T0_} (ha1:R3_.rd w0 [u1] a1) {N:Nat} {r:Int × List T0_} (F:jh N a0 a1=some r): Calls Tryz.prog 59 #[.agg #[i_ a0,u1]] w0 fun e w'=>∃ (q0:Value),e=.returned (.agg #[i_ r.1,q0])∧Sat w0 w' [Own R3_ [q0] r.2] := by
 unfold jh at F;refine aK Tryz.func59 rfl rfl dt ?_;have S:=Sat.start w0;refine sR fun _ A0=>?_;refine bo [i_ a0,u1] rfl S dt ?_;intro Bn J S Bg;refine aR S dt ?_;intro Bo AB S Bh;refine en A0 (sR fun _ A1=>pe (pt J (0 + 0)) (ae rfl) (pe (i_ a0) (ac rfl ((S.boxAt 1 rfl) 0 _ rfl)) (pe (.agg #[i_ a0,n_]) (bi [(0,[i_ a0])] [i_ a0,n_] (cM rfl rfl) rfl) ?_)));refine aR S dt ?_;intro Bp U S Bi;refine aq (S.top 0 rfl) rfl [i_ a0,n_] rfl rfl dt (all_cons rfl (all_cons rfl rfl)) ?_;intro A2 S;replace S:Sat w0 A2 [Box U 39 [i_ a0,n_],Box AB 39 [i_ 0,n_],Box J 39 [i_ a0,u1]]:=S;refine en A1 (sg fun _ A3=>sR fun _ A4=>pa (i_ 0) (en A4 (bg fun _ A5=>?_)));replace S:=S.nil R0_ 28;obtain ⟨A6,hL,AR⟩:=ob F;refine aH (fun k e w=>∃ (D:Value),∃ (AC:List T0_),∃ (Y:Int),e 1=pt J 0∧e 2=pt AB 0∧e 3=pt U 0∧e 4=i_ Y∧Sat w0 w [Own R3_ [D] AC,Box U 39 [i_ a0,D],Box AB 39 [i_ 0,n_],Box J 39 [i_ a0,u1]]∧ez N k a0 a1 0 [] a0 AC Y=some A6) N ?_ ?_ ?_
 ·exact ⟨n_,[],0,rfl,rfl,rfl,rfl,S,hL⟩
 ·rintro e w ⟨_,_,_,_,_,_,_,_,hz⟩; exact nn hz
 rintro k Bq Br ⟨D,AC,Y,AD,AE,Z,AF,S,F⟩;refine gn fun _ AN=>sg fun _ AO=>sR fun _ A7=>pM (i_ Y) AF (pe (pt J (0 + 1)) (ae AD) (pe u1 (ac rfl ((S.boxAt 3 rfl) 1 _ rfl)) (pe (i_ (a1.length:Int)) (au rfl ha1) (pe (.bool (decide (Y < (a1.length:Int)))) (aL rfl rfl) (en A7 (oF F (fun AG F=>?_) fun AG F=>?_))))))
 ·refine ct AG (sn AO (sg fun _ A8=>bg fun _ A9=>?_));obtain ⟨C,hCd⟩:∃ C:World → Prop,∀ w,C w ↔ ∃ G,Sat w0 w ([Box U 39 [i_ a0,D],Box J 39 [i_ a0,u1]] ++ G):=⟨_,fun _=>Iff.rfl⟩;refine cr [0,1,2,3,4,5,6,7,8,9,10,11] C (by kernel_rfl) ?_;intro Bs AS;replace S:=S.ext AS;replace S:=S.t3.t2;have hC:=(hCd _).2 ⟨_,S⟩;refine aP (pt U (0 + 1)) 0 rfl rfl hC (aC rfl (fun w' hw'=>by obtain ⟨_,S⟩:=(hCd _).1 hw'; exact (ae Z))) ?_;refine aP D 1 rfl rfl hC (aC rfl (fun w' hw'=>by obtain ⟨_,S⟩:=(hCd _).1 hw'; exact (ac rfl ((S.boxAt 0 rfl) 1 _ rfl)))) ?_;refine aP (pt J (0 + 1)) 3 rfl rfl hC (aC rfl (fun w' hw'=>by obtain ⟨_,S⟩:=(hCd _).1 hw'; exact (ae AD))) ?_;refine aP u1 4 rfl rfl hC (aC rfl (fun w' hw'=>by obtain ⟨_,S⟩:=(hCd _).1 hw'; exact (ac rfl ((S.boxAt 1 rfl) 1 _ rfl)))) ?_;refine aP (i_ Y) 5 rfl rfl hC (aC rfl (fun w' hw'=>by obtain ⟨_,S⟩:=(hCd _).1 hw'; exact (aX AF))) ?_;refine oB F fun Ba AT F=>?_;refine kq (wA:=w0) (by kernel_rfl) 6 rfl hC (by kernel_rfl) (by kernel_rfl) rfl ha1 rfl dt rfl AT dt ?_;intro Bt Bj Bu AJ AU;obtain ⟨Bb,rfl⟩:=aw AJ;refine aP Bb 7 rfl rfl hC (aC rfl (fun w' hw'=>by obtain ⟨_,S⟩:=(hCd _).1 hw'; exact (ac rfl ((ak S.below AU) 0 _ rfl)))) ?_;refine aO 2 rfl ?_;refine aN bN S dt ?_;intro Bv Bw S Bk;refine ah ?_;replace S:=S.t2.t2;have hC:=(hCd _).2 ⟨_,S⟩;refine ⟨fun _=>hC,?_⟩;refine aO 8 rfl ?_;refine oB F fun Bx AV F=>?_;obtain ⟨Bl,By,AW,AX,AK⟩:=dq (S.up AJ);replace S:=S.t2;replace S:=S.ints (xs:=Ba);refine az rfl dt rfl dt S rfl (rfl.trans AW) rfl AX AK AV dt ?_;intro Bz AP S;refine ah ?_;replace S:=S.t2.t2;have hC:=(hCd _).2 ⟨_,S⟩;refine ⟨fun _=>hC,?_⟩;refine aO 9 rfl ?_;refine ap [AP] (aM rfl (oc (S.rdAt (R:=R0_) 2 rfl))) (by rfl) dt rfl dt S dt ?_;intro BA Bc S Bm;refine ah ?_;replace S:=S.t2.t2;have hC:=(hCd _).2 ⟨_,S⟩;refine ⟨fun _=>hC,?_⟩;refine aO 10 rfl ?_;refine oB F fun AQ AY F=>?_;have AM:=S.boxRow 2 rfl;replace S:=S.t4;replace S:=S.t4;replace S:=S.one;refine az rfl dt rfl dt S rfl rfl rfl (by simp) AM AY dt ?_;intro BB AH S;refine ah ?_;replace S:=S.t2.t2;have hC:=(hCd _).2 ⟨_,S⟩;refine ⟨fun _=>hC,?_⟩;refine aO 11 rfl ?_;refine pe (pt U (0 + 1)) (ae Z) (ah ?_);refine ⟨fun _=>hC,?_⟩;refine aO 12 rfl ?_;refine aq (S.top 0 rfl) rfl [AH] (aM rfl (oc (S.rdAt (R:=R3_) 2 rfl))) rfl dt (all_cons (oc (S.rdAt (R:=R3_) 2 rfl)) rfl) ?_;intro Bd S;replace S:Sat w0 Bd [Box U 39 [i_ a0,AH],Box J 39 [i_ a0,u1],Own R3_ [AH] AQ,Box Bc 28 [AP],Box AB 39 [i_ 0,n_]]:=S;refine ah ?_;refine ⟨fun h=>(nomatch (show false=true from h)),?_⟩;refine bI (by kernel_rfl) ?_;refine bn A9 (tn A8 ?_);replace S:=S.r3;refine ag (pM (i_ Y) AF (oB F fun AI AZ F=>pe (i_ AI) (aE rfl rfl AZ) (pa (i_ AI) (en AN ?_))));replace S:=S.t1.t3.t2.t3;replace S:=S.keep 4;exact ⟨AH,AQ,AI,AD,AE,Z,rfl,S,F⟩
 refine cf AG (aG (tx AO (tx AN ?_)));replace F:=exB F AR;refine bS A5 (tn A3 (sg fun _ Be=>?_));replace S:=S.r3;refine ag (pe (.agg #[i_ a0,D]) (ax (cs:=[i_ a0,D]) Z rfl (aB (S.boxAt 1 rfl))) ?_);refine aq (S.top 2 rfl) AE [i_ a0,D] rfl rfl dt (all_cons rfl (all_cons (oc (S.rdAt (R:=R3_) 0 rfl)) rfl)) ?_;intro Bf S;replace S:Sat w0 Bf [Box AB 39 [i_ a0,D],Own R3_ [D] AC,Box U 39 [i_ a0,D]]:=S;refine en Be (aj ?_);refine ee (cs:=[i_ a0,D]) rfl AE rfl (aB (S.boxAt 0 rfl))  ?_;replace S:=S.t1;have hr:=oI F;exact ⟨D,cR hr fun r=>.agg #[i_ r.1,D],sP hr (fun r=>[Own R3_ [D] r.2]) (S.keep 1)⟩
theorem bE {w0:World} {u0:Value} {a0:List Int} {u1:Value} {a1:List Int} (ha0:R0_.rd w0 [u0] a0) (ha1:R0_.rd w0 [u1] a1) {N:Nat} {r:Int} (F:bC N a0 a1=some r): Calls Tryz.prog 41 #[u0,u1] w0 fun e w'=>e=.returned (i_ r)∧Ext w0 w' := by
 unfold bC at F;refine aK Tryz.func41 rfl rfl dt ?_;have S:=Sat.start w0;refine sR fun _ Bg=>pa (i_ 0) (en Bg (sg fun _ AD=>sR fun _ Bh=>pa (i_ 0) (en Bh (bg fun _ AE=>?_))));obtain ⟨Bi,hL,AB⟩:=ob F;refine aH (fun k e w=>∃ (D:Int),e 0=u0∧e 1=u1∧e 5=i_ D∧Sat w0 w []∧fN N k a0 a1 D=some Bi) N ?_ ?_ ?_
 ·exact ⟨0,rfl,rfl,rfl,S,hL⟩
 ·rintro e w ⟨_,_,_,_,_,hz⟩; exact nn hz
 rintro k BB BC ⟨D,U,Y,Z,S,F⟩;refine gn fun _ AC=>sg fun _ AN=>sR fun _ AR=>pM (i_ D) Z (pM u0 U (pe (i_ (a0.length:Int)) (au rfl ha0) (pe (.bool (decide (D < (a0.length:Int)))) (aL rfl rfl) (pm (.bool (decide (D < (a0.length:Int)))) (oF F (fun J F=>?_) fun J F=>?_)))))
 ·refine ei J (pM (i_ D) Z (ei J (pM u1 Y (ei J (pe (i_ (a1.length:Int)) (au rfl ha1) (ei J (pe (.bool (decide (D < (a1.length:Int)))) (aL rfl rfl) (pe (.bool (decide (D < (a1.length:Int)))) (av rfl J rfl) (en AR (oF F (fun AF F=>?_) fun AF F=>?_))))))))))
  ·refine ct AF (sn AN (sg fun _ AO=>bg fun _ AP=>sg fun _ AS=>sg fun _ Bj=>?_));refine bM (by kernel_rfl) (by kernel_rfl) ?_;refine qM u0 U (qM (i_ D) Z (oB F fun AT A1 F=>?_));refine aZ (wA:=w0) rfl ha0 rfl dt rfl A1 dt ?_;intro BD Bx BE A2 A3;obtain rfl:=A2;refine qe (i_ AT) (ac rfl ((ak S.below A3) 0 _ rfl)) (qM u1 Y (qM (i_ D) Z (oB F fun AU A4 F=>?_)));refine aZ (wA:=w0) rfl ha1 rfl dt rfl A4 dt ?_;intro BF By BG A5 A6;obtain rfl:=A5;refine qe (i_ AU) (ac rfl ((ak S.below A6) 0 _ rfl)) (qe (.bool (decide (AT < AU))) (aL rfl rfl) (bc ?_));intro BH A7;replace S:=S.ext A7;refine tn Bj (oF F (fun AG F=>?_) fun AG F=>?_)
   ·refine ct AG (sR fun _ Bk=>pa (i_ (-1)) (en Bk (aj (tr AS (br AP (tr AO (tr AC (br AE (tr AD ?_)))))))));replace F:=exL F AB;refine aJ rfl rfl ?_;exact rI F S
   refine cf AG (sn AS (sg fun _ Bl=>?_));refine bM (by kernel_rfl) (by kernel_rfl) ?_;refine qM u0 U (qM (i_ D) Z (oB F fun AV A8 F=>?_));refine aZ (wA:=w0) rfl ha0 rfl dt rfl A8 dt ?_;intro BI Bz BJ A9 Ba;obtain rfl:=A9;refine qe (i_ AV) (ac rfl ((ak S.below Ba) 0 _ rfl)) (qM u1 Y (qM (i_ D) Z (oB F fun AW Bb F=>?_)));refine aZ (wA:=w0) rfl ha1 rfl dt rfl Bb dt ?_;intro BK BA BL Bc Bd;obtain rfl:=Bc;refine qe (i_ AW) (ac rfl ((ak S.below Bd) 0 _ rfl)) (qe (.bool (decide (AW < AV))) (bq rfl rfl) (bc ?_));intro BM Be;replace S:=S.ext Be;refine tn Bl (oF F (fun AH F=>?_) fun AH F=>?_)
   ·refine ct AH (sR fun _ Bm=>pa (i_ 1) (en Bm (aj (br AP (tr AO (tr AC (br AE (tr AD ?_))))))));replace F:=exL F AB;refine aJ rfl rfl ?_;exact rI F S
   refine cf AH (aT (bn AP (tn AO (ag (pM (i_ D) Z (oB F fun AQ Bf F=>pe (i_ AQ) (aE rfl rfl Bf) (pa (i_ AQ) (en AC ?_))))))));replace S:=S.keep 0;exact ⟨AQ,U,Y,rfl,S,F⟩
  refine cf AF (aG (tx AN (tx AC ?_)));replace F:=exA F AB;refine bS AE (tn AD (sg fun _ AX=>sR fun _ Bn=>pM u0 U (pe (i_ (a0.length:Int)) (au rfl ha0) (pM u1 Y (pe (i_ (a1.length:Int)) (au rfl ha1) (pe (.bool (decide ((a0.length:Int) < (a1.length:Int)))) (aL rfl rfl) (en Bn (oF F (fun AI F=>?_) fun AI F=>?_))))))))
  ·refine ct AI (sR fun _ Bo=>pa (i_ (-1)) (en Bo (aj (tr AX (aJ rfl rfl ?_)))));exact rI F S
  refine cf AI (sn AX (sg fun _ AY=>sR fun _ Bp=>pM u0 U (pe (i_ (a0.length:Int)) (au rfl ha0) (pM u1 Y (pe (i_ (a1.length:Int)) (au rfl ha1) (pe (.bool (decide ((a1.length:Int) < (a0.length:Int)))) (bq rfl rfl) (en Bp (oF F (fun AJ F=>?_) fun AJ F=>?_))))))))
  ·refine ct AJ (sR fun _ Bq=>pa (i_ 1) (en Bq (aj (tr AY (aJ rfl rfl ?_)))));exact rI F S
  refine cf AJ (sn AY (sR fun _ Br=>pa (i_ 0) (en Br (aj (aJ rfl rfl ?_)))));exact rI F S
 refine eo J (eo J (eo J (eo J (pe (.bool false) (aA rfl J rfl) (en AR (cf rfl (aG (tx AN (tx AC ?_)))))))));replace F:=exA F AB;refine bS AE (tn AD (sg fun _ AZ=>sR fun _ Bs=>pM u0 U (pe (i_ (a0.length:Int)) (au rfl ha0) (pM u1 Y (pe (i_ (a1.length:Int)) (au rfl ha1) (pe (.bool (decide ((a0.length:Int) < (a1.length:Int)))) (aL rfl rfl) (en Bs (oF F (fun AK F=>?_) fun AK F=>?_))))))))
 ·refine ct AK (sR fun _ Bt=>pa (i_ (-1)) (en Bt (aj (tr AZ (aJ rfl rfl ?_)))));exact rI F S
 refine cf AK (sn AZ (sg fun _ A0=>sR fun _ Bu=>pM u0 U (pe (i_ (a0.length:Int)) (au rfl ha0) (pM u1 Y (pe (i_ (a1.length:Int)) (au rfl ha1) (pe (.bool (decide ((a1.length:Int) < (a0.length:Int)))) (bq rfl rfl) (en Bu (oF F (fun AM F=>?_) fun AM F=>?_))))))))
 ·refine ct AM (sR fun _ Bv=>pa (i_ 1) (en Bv (aj (tr A0 (aJ rfl rfl ?_)))));exact rI F S
 refine cf AM (sn A0 (sR fun _ Bw=>pa (i_ 0) (en Bw (aj (aJ rfl rfl ?_)))));exact rI F S
theorem rH (N:Nat):∀ {w0:World} {u0:Value} {a0:List T0_} (_:R3_.rd w0 [u0] a0) {r:T1_} (_:fo N a0=some r), Calls Tryz.prog 60 #[u0] w0 fun e w'=>∃ (q0:Value),e=.returned (q0)∧Ext w0 w'∧R3_.rd w' [q0] r := by
 induction N with
 | zero=>intros; exact nomatch (show none=some _ by assumption)
 | succ N ih=>
  intro w0 u0 a0 ha0 r F;refine aK Tryz.func60 rfl rfl dt ?_;have S:=Sat.start w0;refine sR fun _ FY=>pa n_ (en FY (sg fun _ CY=>sR fun _ FZ=>pm u0 (pe (i_ (a0.length:Int)) (au rfl ha0) (pe (.bool (decide ((a0.length:Int) < 2))) (aL rfl rfl) (en FZ (oF F (fun BC F=>?_) fun BC F=>?_))))))
  ·refine ct BC (sR fun _ F0=>pm u0 (pa u0 (en F0 (aj (tr CY (aJ rfl rfl ?_))))));have hr:=oI F;exact ⟨u0,cR hr fun r=>u0,S.below,Eq.mp (congrArg (fun (r:T1_)=>R3_.rd w0 [u0] r) hr :) (S.up ha0)⟩
  refine cf BC (sn CY (sR fun _ F4=>pm u0 (pe (i_ (a0.length:Int)) (au rfl ha0) (oB F fun BD DT F=>pe (i_ BD) (tb rfl rfl DT) (pa (i_ BD) (en F4 (sR fun _ F5=>pm u0 (pm (i_ BD) (oB F fun Id DU F=>?_)))))))));refine dE (wA:=w0) rfl rfl ha0 (.inr ⟨rfl,rfl⟩) (.inl (congrArg some rfl)) DU dt ?_;intro Ie Cx;refine oB F fun F6 DV F=>?_;refine aU tZ (ih (S.up Cx) DV) (ca (ai rfl rfl)) dt ?_;rintro _ Cj ⟨CZ,rfl,DW,DX⟩;refine ⟨_,rfl,?_⟩;replace S:=S.ext DW;have DY:Ext w0 Cj:=S.below;have BE:=S.up ha0;have Hu:=S.up ha0;have Hv:=S.up Cx;replace S:=Sat.start Cj;refine pa CZ (en F5 (sR fun _ F7=>pm u0 (pm (i_ BD) (oB F fun If DZ F=>?_))));refine dE (wA:=Cj) rfl rfl BE (.inl (congrArg some rfl)) (.inr ⟨rfl,rfl⟩) DZ dt ?_;intro Ig Cy;refine oB F fun F8 D0 F=>?_;refine aU tZ (ih (S.up Cy) D0) (ca (ai rfl rfl)) dt ?_;rintro _ D ⟨C0,rfl,D1,D2⟩;refine ⟨_,rfl,?_⟩;replace S:=S.ext D1;have D3:Ext w0 D:=(S.rebase DY).below;have Hw:=S.up BE;have D4:=S.up DX;have Hx:=S.up BE;have Hy:=S.up Cy;replace S:=Sat.start D;refine pa C0 (en F7 (sR fun _ F9=>?_));refine aN (roR D R0_) S dt ?_;intro Ih C1 S Hz;refine pa C1 (en F9 (sg fun _ Ga=>bg fun _ Gb=>?_));obtain ⟨Gc,hL,D5⟩:=ob F;refine aH (fun k e w=>∃ (AE:Value),∃ (AH:List T0_),∃ (AF:Value),∃ (AI:List T0_),∃ (U:Value),∃ (Y:List T0_),e 4=AE∧e 5=AF∧e 6=U∧Sat D w [Own (ay (roR D R0_) 28) [U] Y]∧R3_.rd D [AE] AH∧R3_.rd D [AF] AI∧aQ (fo N) N k AH AI Y=some Gc) N ?_ ?_ ?_
  ·exact ⟨CZ,F6,C0,F8,C1,[],rfl,rfl,rfl,S,D4,D2,hL⟩
  ·rintro e w ⟨_,_,_,_,_,_,_,_,_,_,_,_,hz⟩; exact nn hz
  rintro k Ii Gd ⟨AE,AH,AF,AI,U,Y,Z,AB,J,S,AC,AD,F⟩;refine gn fun _ AG=>sg fun _ Ck=>sR fun _ C2=>pM AE Z (pe (i_ (AH.length:Int)) (au rfl AC) (pe (.bool (decide (0 < (AH.length:Int)))) (bq rfl rfl) (pm (.bool (decide (0 < (AH.length:Int)))) (oF F (fun AW F=>?_) fun AW F=>?_))))
  ·refine eo AW (eo AW (eo AW (pe (.bool true) (av rfl AW rfl) (en C2 (ct rfl (sn Ck (bg fun _ AU=>sR fun _ Ge=>pa (i_ 0) (en Ge (sg fun _ Cl=>bg fun _ Cm=>sR fun _ Gf=>pM AE Z (pe (i_ (AH.length:Int)) (au rfl AC) (pe (.bool ((AH.length:Int) == 0)) (bu rfl rfl) (pa (.bool ((AH.length:Int) == 0)) (en Gf (oF F (fun BF F=>?_) fun BF F=>?_))))))))))))))
   ·refine ct BF (ag (pa (i_ 1) (ah (bn Cm (tn Cl (sR fun _ Gg=>?_))))));refine aN bN S dt ?_;intro C3 Gh S HA;refine pa Gh (en Gg (sg fun _ C4=>sg fun _ Gi=>?_));replace S:=S.r0;refine ag (pm (i_ 1) (pe (.bool (decide (0 < (1:Int)))) (bq rfl rfl) (en Gi (oF F (fun BG F=>?_) fun BG F=>?_))))
    ·refine ct BG (sR fun _ Gj=>pM AF AB (oB F fun Ij D6 F=>?_));refine aI (wA:=D) rfl AD rfl dt rfl D6 dt ?_;intro Ik HB Il AX D7;obtain ⟨A7,rfl⟩:=aw AX;refine pe A7 (ac rfl ((ak S.below D7) 0 _ rfl)) (pa A7 (en Gj (ag (pM AF AB (oB F fun Cn D8 F=>?_)))));refine dE (wA:=D) rfl rfl AD (.inl (congrArg some rfl)) (.inr ⟨rfl,rfl⟩) D8 dt ?_;intro BH BI;refine pa BH (en C4 (sR fun _ C5=>pM U J (pe (i_ (Y.length:Int)) (au rfl (S.rdAt (R:=(ay (roR D R0_) 28)) 0 rfl)) (pe (.bool ((Y.length:Int) == 0)) (bu rfl rfl) (pm (.bool ((Y.length:Int) == 0)) (oF F (fun AJ F=>?_) fun AJ F=>?_))))))
     ·refine eo AJ (eo AJ (eo AJ (eo AJ (eo AJ (eo AJ (eo AJ (eo AJ (eo AJ (pe (.bool true) (av rfl AJ rfl) (en C5 (ct rfl (ag (pM U J (pm A7 ?_))))))))))))));refine ap [A7] (aM rfl (oc AX)) (by rfl) dt rfl dt S dt ?_;intro Im In S HC;refine oB F fun Gk D9 F=>?_;have CD:=S.boxRow 0 rfl;replace S:=S.t1;replace S:=S.roOne (R:=R0_) (W:=D) AX;replace S:=S.one;refine az rfl dt rfl dt S rfl rfl rfl (by simp) CD D9 dt ?_;intro Io C6 S;refine pa C6 (ah (bn AU (tn AG ?_)));replace S:=S.keep 1;exact ⟨AE,AH,BH,Cn,C6,Gk,Z,rfl,rfl,S,AC,BI,F⟩
     refine ei AJ (pM U J (ei AJ (pM U J (ei AJ (pe (i_ (Y.length:Int)) (au rfl (S.rdAt (R:=(ay (roR D R0_) 28)) 0 rfl)) (ei AJ (oB F fun Gl Ea F=>pe (i_ Gl) (cx rfl rfl Ea) (ei AJ (oB F fun Ip Eb F=>?_)))))))));refine aI (wA:=C3) rfl (S.rdAt (R:=(ay (roR D R0_) 28)) 0 rfl) rfl dt rfl Eb dt ?_;intro Iq HD Ir Br Bh;replace Br:R0_.rd D _ _:=Br;obtain ⟨Gm,rfl⟩:=aw Br;refine ei AJ (pe Gm (ac rfl (Bh 0 _ rfl)) (ei AJ (pm A7 (ei AJ (oB F fun C7 Ec F=>?_)))));refine ec0 gd (bE (S.up Br) (S.up AX) Ec) (ca (ai rfl (ai rfl rfl))) S fun Is Ed S=>?_;have Bh:=ak Ed Bh;refine ei AJ (pe (.bool (C7 != 0)) (dD rfl rfl) (pe (.bool (C7 != 0)) (aA rfl AJ rfl) (en C5 (oF F (fun BJ F=>?_) fun BJ F=>?_))))
     ·refine ct BJ (ag (pM U J (pm A7 ?_)));refine ap [A7] (aM rfl (oc AX)) (by rfl) dt rfl dt S dt ?_;intro It Iu S Ee;have Bh:=ak Ee Bh;refine oB F fun Gn Ef F=>?_;have CE:=S.boxRow 0 rfl;replace S:=S.t1;replace S:=S.roOne (R:=R0_) (W:=D) AX;replace S:=S.one;refine az rfl dt rfl dt S rfl rfl rfl (by simp) CE Ef dt ?_;intro Iv C8 S;refine pa C8 (ah (bn AU (tn AG ?_)));replace S:=S.keep 1;exact ⟨AE,AH,BH,Cn,C8,Gn,Z,rfl,rfl,S,AC,BI,F⟩
     refine cf BJ (aT (bn AU (tn AG ?_)));replace S:=S.keep 1;exact ⟨AE,AH,BH,Cn,U,Y,Z,rfl,J,S,AC,BI,F⟩
    refine cf BG (sR fun _ Gp=>pM AE Z (oB F fun Iw Eg F=>?_));refine aI (wA:=D) rfl AC rfl dt rfl Eg dt ?_;intro Ix HE Iy AY Eh;obtain ⟨A8,rfl⟩:=aw AY;refine pe A8 (ac rfl ((ak S.below Eh) 0 _ rfl)) (pa A8 (en Gp (ag (pM AE Z (oB F fun Co Ei F=>?_)))));refine dE (wA:=D) rfl rfl AC (.inl (congrArg some rfl)) (.inr ⟨rfl,rfl⟩) Ei dt ?_;intro BK BL;refine pa BK (en C4 (sR fun _ C9=>pM U J (pe (i_ (Y.length:Int)) (au rfl (S.rdAt (R:=(ay (roR D R0_) 28)) 0 rfl)) (pe (.bool ((Y.length:Int) == 0)) (bu rfl rfl) (pm (.bool ((Y.length:Int) == 0)) (oF F (fun AK F=>?_) fun AK F=>?_))))))
    ·refine eo AK (eo AK (eo AK (eo AK (eo AK (eo AK (eo AK (eo AK (eo AK (pe (.bool true) (av rfl AK rfl) (en C9 (ct rfl (ag (pM U J (pm A8 ?_))))))))))))));refine ap [A8] (aM rfl (oc AY)) (by rfl) dt rfl dt S dt ?_;intro Iz IA S HF;refine oB F fun Gq Ej F=>?_;have CF:=S.boxRow 0 rfl;replace S:=S.t1;replace S:=S.roOne (R:=R0_) (W:=D) AY;replace S:=S.one;refine az rfl dt rfl dt S rfl rfl rfl (by simp) CF Ej dt ?_;intro IB Da S;refine pa Da (ah (bn AU (tn AG ?_)));replace S:=S.keep 1;exact ⟨BK,Co,AF,AI,Da,Gq,rfl,AB,rfl,S,BL,AD,F⟩
    refine ei AK (pM U J (ei AK (pM U J (ei AK (pe (i_ (Y.length:Int)) (au rfl (S.rdAt (R:=(ay (roR D R0_) 28)) 0 rfl)) (ei AK (oB F fun Gr Ek F=>pe (i_ Gr) (cx rfl rfl Ek) (ei AK (oB F fun IC El F=>?_)))))))));refine aI (wA:=C3) rfl (S.rdAt (R:=(ay (roR D R0_) 28)) 0 rfl) rfl dt rfl El dt ?_;intro ID HG IE Bs Bi;replace Bs:R0_.rd D _ _:=Bs;obtain ⟨Gs,rfl⟩:=aw Bs;refine ei AK (pe Gs (ac rfl (Bi 0 _ rfl)) (ei AK (pm A8 (ei AK (oB F fun Db Em F=>?_)))));refine ec0 gd (bE (S.up Bs) (S.up AY) Em) (ca (ai rfl (ai rfl rfl))) S fun IF En S=>?_;have Bi:=ak En Bi;refine ei AK (pe (.bool (Db != 0)) (dD rfl rfl) (pe (.bool (Db != 0)) (aA rfl AK rfl) (en C9 (oF F (fun BM F=>?_) fun BM F=>?_))))
    ·refine ct BM (ag (pM U J (pm A8 ?_)));refine ap [A8] (aM rfl (oc AY)) (by rfl) dt rfl dt S dt ?_;intro IG IH S Eo;have Bi:=ak Eo Bi;refine oB F fun Gt Ep F=>?_;have CG:=S.boxRow 0 rfl;replace S:=S.t1;replace S:=S.roOne (R:=R0_) (W:=D) AY;replace S:=S.one;refine az rfl dt rfl dt S rfl rfl rfl (by simp) CG Ep dt ?_;intro II Dc S;refine pa Dc (ah (bn AU (tn AG ?_)));replace S:=S.keep 1;exact ⟨BK,Co,AF,AI,Dc,Gt,rfl,AB,rfl,S,BL,AD,F⟩
    refine cf BM (aT (bn AU (tn AG ?_)));replace S:=S.keep 1;exact ⟨BK,Co,AF,AI,U,Y,rfl,AB,J,S,BL,AD,F⟩
   refine cf BF (sR fun _ Gu=>pM AF AB (pe (i_ (AI.length:Int)) (au rfl AD) (pe (.bool (decide (0 < (AI.length:Int)))) (bq rfl rfl) (pa (.bool (decide (0 < (AI.length:Int)))) (en Gu (oF F (fun BN F=>?_) fun BN F=>?_))))))
   ·refine ct BN ?_;refine bM (by kernel_rfl) (by kernel_rfl) ?_;refine qM AE Z (oB F fun IJ Er F=>?_);refine aZ (wA:=D) rfl AC rfl dt rfl Er dt ?_;intro IK HH IL Cz Es;obtain ⟨Gv,rfl⟩:=aw Cz;refine qe Gv (ac rfl ((ak S.below Es) 0 _ rfl)) (qM AF AB (oB F fun IM Et F=>?_));refine aZ (wA:=D) rfl AD rfl dt rfl Et dt ?_;intro IN HI IP CA Eu;obtain ⟨Gw,rfl⟩:=aw CA;refine qe Gw (ac rfl ((ak S.below Eu) 0 _ rfl)) (oB F fun BO Ev F=>?_);refine cK (i_ BO) gd (fun w' hw'=>bE (bF (S.up Cz) hw') (bF (S.up CA) hw') Ev) (ca (ai rfl (ai rfl rfl))) dt ?_;refine qe (i_ BO) (cJ rfl) (bc ?_);intro IQ Ew;replace S:=S.ext Ew;refine bn Cm (tn Cl (sR fun _ Gx=>?_));refine aN bN S dt ?_;intro Dd Gy S HJ;refine pa Gy (en Gx (sg fun _ De=>sg fun _ Gz=>?_));replace S:=S.r0;refine ag (pm (i_ BO) (pe (.bool (decide (0 < BO))) (bq rfl rfl) (en Gz (oF F (fun BP F=>?_) fun BP F=>?_))))
    ·refine ct BP (sR fun _ GA=>pM AF AB (oB F fun IR Ex F=>?_));refine aI (wA:=D) rfl AD rfl dt rfl Ex dt ?_;intro IS HK IT AZ Ey;obtain ⟨A9,rfl⟩:=aw AZ;refine pe A9 (ac rfl ((ak S.below Ey) 0 _ rfl)) (pa A9 (en GA (ag (pM AF AB (oB F fun Cp Ez F=>?_)))));refine dE (wA:=D) rfl rfl AD (.inl (congrArg some rfl)) (.inr ⟨rfl,rfl⟩) Ez dt ?_;intro BQ BR;refine pa BQ (en De (sR fun _ Df=>pM U J (pe (i_ (Y.length:Int)) (au rfl (S.rdAt (R:=(ay (roR D R0_) 28)) 0 rfl)) (pe (.bool ((Y.length:Int) == 0)) (bu rfl rfl) (pm (.bool ((Y.length:Int) == 0)) (oF F (fun AM F=>?_) fun AM F=>?_))))))
     ·refine eo AM (eo AM (eo AM (eo AM (eo AM (eo AM (eo AM (eo AM (eo AM (pe (.bool true) (av rfl AM rfl) (en Df (ct rfl (ag (pM U J (pm A9 ?_))))))))))))));refine ap [A9] (aM rfl (oc AZ)) (by rfl) dt rfl dt S dt ?_;intro IU IV S HL;refine oB F fun GB EA F=>?_;have CH:=S.boxRow 0 rfl;replace S:=S.t1;replace S:=S.roOne (R:=R0_) (W:=D) AZ;replace S:=S.one;refine az rfl dt rfl dt S rfl rfl rfl (by simp) CH EA dt ?_;intro IW Dg S;refine pa Dg (ah (bn AU (tn AG ?_)));replace S:=S.keep 1;exact ⟨AE,AH,BQ,Cp,Dg,GB,Z,rfl,rfl,S,AC,BR,F⟩
     refine ei AM (pM U J (ei AM (pM U J (ei AM (pe (i_ (Y.length:Int)) (au rfl (S.rdAt (R:=(ay (roR D R0_) 28)) 0 rfl)) (ei AM (oB F fun GC EB F=>pe (i_ GC) (cx rfl rfl EB) (ei AM (oB F fun IX EC F=>?_)))))))));refine aI (wA:=Dd) rfl (S.rdAt (R:=(ay (roR D R0_) 28)) 0 rfl) rfl dt rfl EC dt ?_;intro IY HM IZ Bt Bj;replace Bt:R0_.rd D _ _:=Bt;obtain ⟨GD,rfl⟩:=aw Bt;refine ei AM (pe GD (ac rfl (Bj 0 _ rfl)) (ei AM (pm A9 (ei AM (oB F fun Dh ED F=>?_)))));refine ec0 gd (bE (S.up Bt) (S.up AZ) ED) (ca (ai rfl (ai rfl rfl))) S fun I0 EE S=>?_;have Bj:=ak EE Bj;refine ei AM (pe (.bool (Dh != 0)) (dD rfl rfl) (pe (.bool (Dh != 0)) (aA rfl AM rfl) (en Df (oF F (fun BS F=>?_) fun BS F=>?_))))
     ·refine ct BS (ag (pM U J (pm A9 ?_)));refine ap [A9] (aM rfl (oc AZ)) (by rfl) dt rfl dt S dt ?_;intro I1 I2 S EF;have Bj:=ak EF Bj;refine oB F fun GE EG F=>?_;have CI:=S.boxRow 0 rfl;replace S:=S.t1;replace S:=S.roOne (R:=R0_) (W:=D) AZ;replace S:=S.one;refine az rfl dt rfl dt S rfl rfl rfl (by simp) CI EG dt ?_;intro I3 Di S;refine pa Di (ah (bn AU (tn AG ?_)));replace S:=S.keep 1;exact ⟨AE,AH,BQ,Cp,Di,GE,Z,rfl,rfl,S,AC,BR,F⟩
     refine cf BS (aT (bn AU (tn AG ?_)));replace S:=S.keep 1;exact ⟨AE,AH,BQ,Cp,U,Y,Z,rfl,J,S,AC,BR,F⟩
    refine cf BP (sR fun _ GF=>pM AE Z (oB F fun I4 EH F=>?_));refine aI (wA:=D) rfl AC rfl dt rfl EH dt ?_;intro I5 HN I6 A0 EI;obtain ⟨Ba,rfl⟩:=aw A0;refine pe Ba (ac rfl ((ak S.below EI) 0 _ rfl)) (pa Ba (en GF (ag (pM AE Z (oB F fun Cq EJ F=>?_)))));refine dE (wA:=D) rfl rfl AC (.inl (congrArg some rfl)) (.inr ⟨rfl,rfl⟩) EJ dt ?_;intro BT BU;refine pa BT (en De (sR fun _ Dj=>pM U J (pe (i_ (Y.length:Int)) (au rfl (S.rdAt (R:=(ay (roR D R0_) 28)) 0 rfl)) (pe (.bool ((Y.length:Int) == 0)) (bu rfl rfl) (pm (.bool ((Y.length:Int) == 0)) (oF F (fun AN F=>?_) fun AN F=>?_))))))
    ·refine eo AN (eo AN (eo AN (eo AN (eo AN (eo AN (eo AN (eo AN (eo AN (pe (.bool true) (av rfl AN rfl) (en Dj (ct rfl (ag (pM U J (pm Ba ?_))))))))))))));refine ap [Ba] (aM rfl (oc A0)) (by rfl) dt rfl dt S dt ?_;intro I7 I8 S HO;refine oB F fun GG EK F=>?_;have CJ:=S.boxRow 0 rfl;replace S:=S.t1;replace S:=S.roOne (R:=R0_) (W:=D) A0;replace S:=S.one;refine az rfl dt rfl dt S rfl rfl rfl (by simp) CJ EK dt ?_;intro I9 Dk S;refine pa Dk (ah (bn AU (tn AG ?_)));replace S:=S.keep 1;exact ⟨BT,Cq,AF,AI,Dk,GG,rfl,AB,rfl,S,BU,AD,F⟩
    refine ei AN (pM U J (ei AN (pM U J (ei AN (pe (i_ (Y.length:Int)) (au rfl (S.rdAt (R:=(ay (roR D R0_) 28)) 0 rfl)) (ei AN (oB F fun GH EM F=>pe (i_ GH) (cx rfl rfl EM) (ei AN (oB F fun Ja EN F=>?_)))))))));refine aI (wA:=Dd) rfl (S.rdAt (R:=(ay (roR D R0_) 28)) 0 rfl) rfl dt rfl EN dt ?_;intro Jb HP Jc Bu Bk;replace Bu:R0_.rd D _ _:=Bu;obtain ⟨GI,rfl⟩:=aw Bu;refine ei AN (pe GI (ac rfl (Bk 0 _ rfl)) (ei AN (pm Ba (ei AN (oB F fun Dl EO F=>?_)))));refine ec0 gd (bE (S.up Bu) (S.up A0) EO) (ca (ai rfl (ai rfl rfl))) S fun Jd EP S=>?_;have Bk:=ak EP Bk;refine ei AN (pe (.bool (Dl != 0)) (dD rfl rfl) (pe (.bool (Dl != 0)) (aA rfl AN rfl) (en Dj (oF F (fun BV F=>?_) fun BV F=>?_))))
    ·refine ct BV (ag (pM U J (pm Ba ?_)));refine ap [Ba] (aM rfl (oc A0)) (by rfl) dt rfl dt S dt ?_;intro Je Jf S EQ;have Bk:=ak EQ Bk;refine oB F fun GJ ER F=>?_;have CK:=S.boxRow 0 rfl;replace S:=S.t1;replace S:=S.roOne (R:=R0_) (W:=D) A0;replace S:=S.one;refine az rfl dt rfl dt S rfl rfl rfl (by simp) CK ER dt ?_;intro Jg Dm S;refine pa Dm (ah (bn AU (tn AG ?_)));replace S:=S.keep 1;exact ⟨BT,Cq,AF,AI,Dm,GJ,rfl,AB,rfl,S,BU,AD,F⟩
    refine cf BV (aT (bn AU (tn AG ?_)));replace S:=S.keep 1;exact ⟨BT,Cq,AF,AI,U,Y,rfl,AB,J,S,BU,AD,F⟩
   refine cf BN (ag (pa (i_ (-1)) (ah (bn Cm (tn Cl (sR fun _ GK=>?_))))));refine aN bN S dt ?_;intro Dn GL S HQ;refine pa GL (en GK (sg fun _ Do=>sg fun _ GM=>?_));replace S:=S.r0;refine ag (pm (i_ (-1)) (pe (.bool (decide (0 < ((-1):Int)))) (bq rfl rfl) (en GM (oF F (fun BW F=>?_) fun BW F=>?_))))
   ·refine ct BW (sR fun _ GN=>pM AF AB (oB F fun Jh ES F=>?_));refine aI (wA:=D) rfl AD rfl dt rfl ES dt ?_;intro Ji HR Jj A1 ET;obtain ⟨Bb,rfl⟩:=aw A1;refine pe Bb (ac rfl ((ak S.below ET) 0 _ rfl)) (pa Bb (en GN (ag (pM AF AB (oB F fun Cr EU F=>?_)))));refine dE (wA:=D) rfl rfl AD (.inl (congrArg some rfl)) (.inr ⟨rfl,rfl⟩) EU dt ?_;intro BX BY;refine pa BX (en Do (sR fun _ Dp=>pM U J (pe (i_ (Y.length:Int)) (au rfl (S.rdAt (R:=(ay (roR D R0_) 28)) 0 rfl)) (pe (.bool ((Y.length:Int) == 0)) (bu rfl rfl) (pm (.bool ((Y.length:Int) == 0)) (oF F (fun AO F=>?_) fun AO F=>?_))))))
    ·refine eo AO (eo AO (eo AO (eo AO (eo AO (eo AO (eo AO (eo AO (eo AO (pe (.bool true) (av rfl AO rfl) (en Dp (ct rfl (ag (pM U J (pm Bb ?_))))))))))))));refine ap [Bb] (aM rfl (oc A1)) (by rfl) dt rfl dt S dt ?_;intro Jk Jl S HS;refine oB F fun GO EV F=>?_;have CL:=S.boxRow 0 rfl;replace S:=S.t1;replace S:=S.roOne (R:=R0_) (W:=D) A1;replace S:=S.one;refine az rfl dt rfl dt S rfl rfl rfl (by simp) CL EV dt ?_;intro Jm Dq S;refine pa Dq (ah (bn AU (tn AG ?_)));replace S:=S.keep 1;exact ⟨AE,AH,BX,Cr,Dq,GO,Z,rfl,rfl,S,AC,BY,F⟩
    refine ei AO (pM U J (ei AO (pM U J (ei AO (pe (i_ (Y.length:Int)) (au rfl (S.rdAt (R:=(ay (roR D R0_) 28)) 0 rfl)) (ei AO (oB F fun GP EW F=>pe (i_ GP) (cx rfl rfl EW) (ei AO (oB F fun Jn EX F=>?_)))))))));refine aI (wA:=Dn) rfl (S.rdAt (R:=(ay (roR D R0_) 28)) 0 rfl) rfl dt rfl EX dt ?_;intro Jo HT Jp Bv Bl;replace Bv:R0_.rd D _ _:=Bv;obtain ⟨GQ,rfl⟩:=aw Bv;refine ei AO (pe GQ (ac rfl (Bl 0 _ rfl)) (ei AO (pm Bb (ei AO (oB F fun Dr EY F=>?_)))));refine ec0 gd (bE (S.up Bv) (S.up A1) EY) (ca (ai rfl (ai rfl rfl))) S fun Jq EZ S=>?_;have Bl:=ak EZ Bl;refine ei AO (pe (.bool (Dr != 0)) (dD rfl rfl) (pe (.bool (Dr != 0)) (aA rfl AO rfl) (en Dp (oF F (fun BZ F=>?_) fun BZ F=>?_))))
    ·refine ct BZ (ag (pM U J (pm Bb ?_)));refine ap [Bb] (aM rfl (oc A1)) (by rfl) dt rfl dt S dt ?_;intro Jr Js S E0;have Bl:=ak E0 Bl;refine oB F fun GR E1 F=>?_;have CM:=S.boxRow 0 rfl;replace S:=S.t1;replace S:=S.roOne (R:=R0_) (W:=D) A1;replace S:=S.one;refine az rfl dt rfl dt S rfl rfl rfl (by simp) CM E1 dt ?_;intro Jt Ds S;refine pa Ds (ah (bn AU (tn AG ?_)));replace S:=S.keep 1;exact ⟨AE,AH,BX,Cr,Ds,GR,Z,rfl,rfl,S,AC,BY,F⟩
    refine cf BZ (aT (bn AU (tn AG ?_)));replace S:=S.keep 1;exact ⟨AE,AH,BX,Cr,U,Y,Z,rfl,J,S,AC,BY,F⟩
   refine cf BW (sR fun _ GS=>pM AE Z (oB F fun Ju E2 F=>?_));refine aI (wA:=D) rfl AC rfl dt rfl E2 dt ?_;intro Jv HU Jw A2 E4;obtain ⟨Bc,rfl⟩:=aw A2;refine pe Bc (ac rfl ((ak S.below E4) 0 _ rfl)) (pa Bc (en GS (ag (pM AE Z (oB F fun Cs E5 F=>?_)))));refine dE (wA:=D) rfl rfl AC (.inl (congrArg some rfl)) (.inr ⟨rfl,rfl⟩) E5 dt ?_;intro B0 B1;refine pa B0 (en Do (sR fun _ Dt=>pM U J (pe (i_ (Y.length:Int)) (au rfl (S.rdAt (R:=(ay (roR D R0_) 28)) 0 rfl)) (pe (.bool ((Y.length:Int) == 0)) (bu rfl rfl) (pm (.bool ((Y.length:Int) == 0)) (oF F (fun AP F=>?_) fun AP F=>?_))))))
   ·refine eo AP (eo AP (eo AP (eo AP (eo AP (eo AP (eo AP (eo AP (eo AP (pe (.bool true) (av rfl AP rfl) (en Dt (ct rfl (ag (pM U J (pm Bc ?_))))))))))))));refine ap [Bc] (aM rfl (oc A2)) (by rfl) dt rfl dt S dt ?_;intro Jx Jy S HV;refine oB F fun GT E6 F=>?_;have CN:=S.boxRow 0 rfl;replace S:=S.t1;replace S:=S.roOne (R:=R0_) (W:=D) A2;replace S:=S.one;refine az rfl dt rfl dt S rfl rfl rfl (by simp) CN E6 dt ?_;intro Jz Du S;refine pa Du (ah (bn AU (tn AG ?_)));replace S:=S.keep 1;exact ⟨B0,Cs,AF,AI,Du,GT,rfl,AB,rfl,S,B1,AD,F⟩
   refine ei AP (pM U J (ei AP (pM U J (ei AP (pe (i_ (Y.length:Int)) (au rfl (S.rdAt (R:=(ay (roR D R0_) 28)) 0 rfl)) (ei AP (oB F fun GU E7 F=>pe (i_ GU) (cx rfl rfl E7) (ei AP (oB F fun JA E8 F=>?_)))))))));refine aI (wA:=Dn) rfl (S.rdAt (R:=(ay (roR D R0_) 28)) 0 rfl) rfl dt rfl E8 dt ?_;intro JB HW JC Bw Bm;replace Bw:R0_.rd D _ _:=Bw;obtain ⟨GV,rfl⟩:=aw Bw;refine ei AP (pe GV (ac rfl (Bm 0 _ rfl)) (ei AP (pm Bc (ei AP (oB F fun Dv E9 F=>?_)))));refine ec0 gd (bE (S.up Bw) (S.up A2) E9) (ca (ai rfl (ai rfl rfl))) S fun JD Fa S=>?_;have Bm:=ak Fa Bm;refine ei AP (pe (.bool (Dv != 0)) (dD rfl rfl) (pe (.bool (Dv != 0)) (aA rfl AP rfl) (en Dt (oF F (fun B2 F=>?_) fun B2 F=>?_))))
   ·refine ct B2 (ag (pM U J (pm Bc ?_)));refine ap [Bc] (aM rfl (oc A2)) (by rfl) dt rfl dt S dt ?_;intro JE JF S Fb;have Bm:=ak Fb Bm;refine oB F fun GW Fc F=>?_;have CO:=S.boxRow 0 rfl;replace S:=S.t1;replace S:=S.roOne (R:=R0_) (W:=D) A2;replace S:=S.one;refine az rfl dt rfl dt S rfl rfl rfl (by simp) CO Fc dt ?_;intro JG Dw S;refine pa Dw (ah (bn AU (tn AG ?_)));replace S:=S.keep 1;exact ⟨B0,Cs,AF,AI,Dw,GW,rfl,AB,rfl,S,B1,AD,F⟩
   refine cf B2 (aT (bn AU (tn AG ?_)));replace S:=S.keep 1;exact ⟨B0,Cs,AF,AI,U,Y,rfl,AB,J,S,B1,AD,F⟩
  refine ei AW (pM AF AB (ei AW (pe (i_ (AI.length:Int)) (au rfl AD) (ei AW (pe (.bool (decide (0 < (AI.length:Int)))) (bq rfl rfl) (pe (.bool (decide (0 < (AI.length:Int)))) (aA rfl AW rfl) (en C2 (oF F (fun Bx F=>?_) fun Bx F=>?_))))))))
  ·refine ct Bx (sn Ck (bg fun _ AV=>sR fun _ GX=>pa (i_ 0) (en GX (sg fun _ Dx=>bg fun _ Dy=>sR fun _ GY=>pM AE Z (pe (i_ (AH.length:Int)) (au rfl AC) (pe (.bool ((AH.length:Int) == 0)) (bu rfl rfl) (pa (.bool ((AH.length:Int) == 0)) (en GY (oF F (fun B3 F=>?_) fun B3 F=>?_)))))))))
   ·refine ct B3 (ag (pa (i_ 1) (ah (bn Dy (tn Dx (sR fun _ GZ=>?_))))));refine aN bN S dt ?_;intro Dz G1 S HX;refine pa G1 (en GZ (sg fun _ DA=>sg fun _ G2=>?_));replace S:=S.r0;refine ag (pm (i_ 1) (pe (.bool (decide (0 < (1:Int)))) (bq rfl rfl) (en G2 (oF F (fun B4 F=>?_) fun B4 F=>?_))))
    ·refine ct B4 (sR fun _ G3=>pM AF AB (oB F fun JH Fd F=>?_));refine aI (wA:=D) rfl AD rfl dt rfl Fd dt ?_;intro JI HY JJ A3 Fe;obtain ⟨Bd,rfl⟩:=aw A3;refine pe Bd (ac rfl ((ak S.below Fe) 0 _ rfl)) (pa Bd (en G3 (ag (pM AF AB (oB F fun Ct Ff F=>?_)))));refine dE (wA:=D) rfl rfl AD (.inl (congrArg some rfl)) (.inr ⟨rfl,rfl⟩) Ff dt ?_;intro B5 B6;refine pa B5 (en DA (sR fun _ DB=>pM U J (pe (i_ (Y.length:Int)) (au rfl (S.rdAt (R:=(ay (roR D R0_) 28)) 0 rfl)) (pe (.bool ((Y.length:Int) == 0)) (bu rfl rfl) (pm (.bool ((Y.length:Int) == 0)) (oF F (fun AQ F=>?_) fun AQ F=>?_))))))
     ·refine eo AQ (eo AQ (eo AQ (eo AQ (eo AQ (eo AQ (eo AQ (eo AQ (eo AQ (pe (.bool true) (av rfl AQ rfl) (en DB (ct rfl (ag (pM U J (pm Bd ?_))))))))))))));refine ap [Bd] (aM rfl (oc A3)) (by rfl) dt rfl dt S dt ?_;intro JK JL S HZ;refine oB F fun G4 Fg F=>?_;have CP:=S.boxRow 0 rfl;replace S:=S.t1;replace S:=S.roOne (R:=R0_) (W:=D) A3;replace S:=S.one;refine az rfl dt rfl dt S rfl rfl rfl (by simp) CP Fg dt ?_;intro JM DC S;refine pa DC (ah (bn AV (tn AG ?_)));replace S:=S.keep 1;exact ⟨AE,AH,B5,Ct,DC,G4,Z,rfl,rfl,S,AC,B6,F⟩
     refine ei AQ (pM U J (ei AQ (pM U J (ei AQ (pe (i_ (Y.length:Int)) (au rfl (S.rdAt (R:=(ay (roR D R0_) 28)) 0 rfl)) (ei AQ (oB F fun G5 Fh F=>pe (i_ G5) (cx rfl rfl Fh) (ei AQ (oB F fun JN Fi F=>?_)))))))));refine aI (wA:=Dz) rfl (S.rdAt (R:=(ay (roR D R0_) 28)) 0 rfl) rfl dt rfl Fi dt ?_;intro JO H0 JP By Bn;replace By:R0_.rd D _ _:=By;obtain ⟨G6,rfl⟩:=aw By;refine ei AQ (pe G6 (ac rfl (Bn 0 _ rfl)) (ei AQ (pm Bd (ei AQ (oB F fun DD Fj F=>?_)))));refine ec0 gd (bE (S.up By) (S.up A3) Fj) (ca (ai rfl (ai rfl rfl))) S fun JQ Fk S=>?_;have Bn:=ak Fk Bn;refine ei AQ (pe (.bool (DD != 0)) (dD rfl rfl) (pe (.bool (DD != 0)) (aA rfl AQ rfl) (en DB (oF F (fun B7 F=>?_) fun B7 F=>?_))))
     ·refine ct B7 (ag (pM U J (pm Bd ?_)));refine ap [Bd] (aM rfl (oc A3)) (by rfl) dt rfl dt S dt ?_;intro JR JS S Fl;have Bn:=ak Fl Bn;refine oB F fun G7 Fm F=>?_;have CQ:=S.boxRow 0 rfl;replace S:=S.t1;replace S:=S.roOne (R:=R0_) (W:=D) A3;replace S:=S.one;refine az rfl dt rfl dt S rfl rfl rfl (by simp) CQ Fm dt ?_;intro JT DE S;refine pa DE (ah (bn AV (tn AG ?_)));replace S:=S.keep 1;exact ⟨AE,AH,B5,Ct,DE,G7,Z,rfl,rfl,S,AC,B6,F⟩
     refine cf B7 (aT (bn AV (tn AG ?_)));replace S:=S.keep 1;exact ⟨AE,AH,B5,Ct,U,Y,Z,rfl,J,S,AC,B6,F⟩
    refine cf B4 (sR fun _ G8=>pM AE Z (oB F fun JU Fn F=>?_));refine aI (wA:=D) rfl AC rfl dt rfl Fn dt ?_;intro JV H1 JW A4 Fo;obtain ⟨Be,rfl⟩:=aw A4;refine pe Be (ac rfl ((ak S.below Fo) 0 _ rfl)) (pa Be (en G8 (ag (pM AE Z (oB F fun Cu Fp F=>?_)))));refine dE (wA:=D) rfl rfl AC (.inl (congrArg some rfl)) (.inr ⟨rfl,rfl⟩) Fp dt ?_;intro B8 B9;refine pa B8 (en DA (sR fun _ DF=>pM U J (pe (i_ (Y.length:Int)) (au rfl (S.rdAt (R:=(ay (roR D R0_) 28)) 0 rfl)) (pe (.bool ((Y.length:Int) == 0)) (bu rfl rfl) (pm (.bool ((Y.length:Int) == 0)) (oF F (fun AR F=>?_) fun AR F=>?_))))))
    ·refine eo AR (eo AR (eo AR (eo AR (eo AR (eo AR (eo AR (eo AR (eo AR (pe (.bool true) (av rfl AR rfl) (en DF (ct rfl (ag (pM U J (pm Be ?_))))))))))))));refine ap [Be] (aM rfl (oc A4)) (by rfl) dt rfl dt S dt ?_;intro JX JY S H2;refine oB F fun G9 Fq F=>?_;have CR:=S.boxRow 0 rfl;replace S:=S.t1;replace S:=S.roOne (R:=R0_) (W:=D) A4;replace S:=S.one;refine az rfl dt rfl dt S rfl rfl rfl (by simp) CR Fq dt ?_;intro JZ DG S;refine pa DG (ah (bn AV (tn AG ?_)));replace S:=S.keep 1;exact ⟨B8,Cu,AF,AI,DG,G9,rfl,AB,rfl,S,B9,AD,F⟩
    refine ei AR (pM U J (ei AR (pM U J (ei AR (pe (i_ (Y.length:Int)) (au rfl (S.rdAt (R:=(ay (roR D R0_) 28)) 0 rfl)) (ei AR (oB F fun Ha Fr F=>pe (i_ Ha) (cx rfl rfl Fr) (ei AR (oB F fun J0 Fs F=>?_)))))))));refine aI (wA:=Dz) rfl (S.rdAt (R:=(ay (roR D R0_) 28)) 0 rfl) rfl dt rfl Fs dt ?_;intro J1 H3 J2 Bz Bo;replace Bz:R0_.rd D _ _:=Bz;obtain ⟨Hb,rfl⟩:=aw Bz;refine ei AR (pe Hb (ac rfl (Bo 0 _ rfl)) (ei AR (pm Be (ei AR (oB F fun DH Ft F=>?_)))));refine ec0 gd (bE (S.up Bz) (S.up A4) Ft) (ca (ai rfl (ai rfl rfl))) S fun J3 Fu S=>?_;have Bo:=ak Fu Bo;refine ei AR (pe (.bool (DH != 0)) (dD rfl rfl) (pe (.bool (DH != 0)) (aA rfl AR rfl) (en DF (oF F (fun Ca F=>?_) fun Ca F=>?_))))
    ·refine ct Ca (ag (pM U J (pm Be ?_)));refine ap [Be] (aM rfl (oc A4)) (by rfl) dt rfl dt S dt ?_;intro J4 J5 S Fv;have Bo:=ak Fv Bo;refine oB F fun Hc Fw F=>?_;have CS:=S.boxRow 0 rfl;replace S:=S.t1;replace S:=S.roOne (R:=R0_) (W:=D) A4;replace S:=S.one;refine az rfl dt rfl dt S rfl rfl rfl (by simp) CS Fw dt ?_;intro J6 DI S;refine pa DI (ah (bn AV (tn AG ?_)));replace S:=S.keep 1;exact ⟨B8,Cu,AF,AI,DI,Hc,rfl,AB,rfl,S,B9,AD,F⟩
    refine cf Ca (aT (bn AV (tn AG ?_)));replace S:=S.keep 1;exact ⟨B8,Cu,AF,AI,U,Y,rfl,AB,J,S,B9,AD,F⟩
   refine cf B3 (sR fun _ Hd=>pM AF AB (pe (i_ (AI.length:Int)) (au rfl AD) (pe (.bool (decide (0 < (AI.length:Int)))) (bq rfl rfl) (pa (.bool (decide (0 < (AI.length:Int)))) (en Hd (ct Bx ?_))))));refine bM (by kernel_rfl) (by kernel_rfl) ?_;refine qM AE Z (oB F fun J7 Fx F=>?_);refine aZ (wA:=D) rfl AC rfl dt rfl Fx dt ?_;intro J8 H4 J9 CB Fz;obtain ⟨He,rfl⟩:=aw CB;refine qe He (ac rfl ((ak S.below Fz) 0 _ rfl)) (qM AF AB (oB F fun Ka FA F=>?_));refine aZ (wA:=D) rfl AD rfl dt rfl FA dt ?_;intro Kb H5 Kc CC FB;obtain ⟨Hf,rfl⟩:=aw CC;refine qe Hf (ac rfl ((ak S.below FB) 0 _ rfl)) (oB F fun Cb FC F=>?_);refine cK (i_ Cb) gd (fun w' hw'=>bE (bF (S.up CB) hw') (bF (S.up CC) hw') FC) (ca (ai rfl (ai rfl rfl))) dt ?_;refine qe (i_ Cb) (cJ rfl) (bc ?_);intro Kd FD;replace S:=S.ext FD;refine bn Dy (tn Dx (sR fun _ Hg=>?_));refine aN bN S dt ?_;intro DJ Hh S H6;refine pa Hh (en Hg (sg fun _ DK=>sg fun _ Hi=>?_));replace S:=S.r0;refine ag (pm (i_ Cb) (pe (.bool (decide (0 < Cb))) (bq rfl rfl) (en Hi (oF F (fun Cc F=>?_) fun Cc F=>?_))))
   ·refine ct Cc (sR fun _ Hj=>pM AF AB (oB F fun Ke FE F=>?_));refine aI (wA:=D) rfl AD rfl dt rfl FE dt ?_;intro Kf H7 Kg A5 FF;obtain ⟨Bf,rfl⟩:=aw A5;refine pe Bf (ac rfl ((ak S.below FF) 0 _ rfl)) (pa Bf (en Hj (ag (pM AF AB (oB F fun Cv FG F=>?_)))));refine dE (wA:=D) rfl rfl AD (.inl (congrArg some rfl)) (.inr ⟨rfl,rfl⟩) FG dt ?_;intro Cd Ce;refine pa Cd (en DK (sR fun _ DL=>pM U J (pe (i_ (Y.length:Int)) (au rfl (S.rdAt (R:=(ay (roR D R0_) 28)) 0 rfl)) (pe (.bool ((Y.length:Int) == 0)) (bu rfl rfl) (pm (.bool ((Y.length:Int) == 0)) (oF F (fun AS F=>?_) fun AS F=>?_))))))
    ·refine eo AS (eo AS (eo AS (eo AS (eo AS (eo AS (eo AS (eo AS (eo AS (pe (.bool true) (av rfl AS rfl) (en DL (ct rfl (ag (pM U J (pm Bf ?_))))))))))))));refine ap [Bf] (aM rfl (oc A5)) (by rfl) dt rfl dt S dt ?_;intro Kh Ki S H8;refine oB F fun Hk FH F=>?_;have CT:=S.boxRow 0 rfl;replace S:=S.t1;replace S:=S.roOne (R:=R0_) (W:=D) A5;replace S:=S.one;refine az rfl dt rfl dt S rfl rfl rfl (by simp) CT FH dt ?_;intro Kj DM S;refine pa DM (ah (bn AV (tn AG ?_)));replace S:=S.keep 1;exact ⟨AE,AH,Cd,Cv,DM,Hk,Z,rfl,rfl,S,AC,Ce,F⟩
    refine ei AS (pM U J (ei AS (pM U J (ei AS (pe (i_ (Y.length:Int)) (au rfl (S.rdAt (R:=(ay (roR D R0_) 28)) 0 rfl)) (ei AS (oB F fun Hl FI F=>pe (i_ Hl) (cx rfl rfl FI) (ei AS (oB F fun Kk FJ F=>?_)))))))));refine aI (wA:=DJ) rfl (S.rdAt (R:=(ay (roR D R0_) 28)) 0 rfl) rfl dt rfl FJ dt ?_;intro Kl H9 Km BA Bp;replace BA:R0_.rd D _ _:=BA;obtain ⟨Hm,rfl⟩:=aw BA;refine ei AS (pe Hm (ac rfl (Bp 0 _ rfl)) (ei AS (pm Bf (ei AS (oB F fun DN FK F=>?_)))));refine ec0 gd (bE (S.up BA) (S.up A5) FK) (ca (ai rfl (ai rfl rfl))) S fun Kn FL S=>?_;have Bp:=ak FL Bp;refine ei AS (pe (.bool (DN != 0)) (dD rfl rfl) (pe (.bool (DN != 0)) (aA rfl AS rfl) (en DL (oF F (fun Cf F=>?_) fun Cf F=>?_))))
    ·refine ct Cf (ag (pM U J (pm Bf ?_)));refine ap [Bf] (aM rfl (oc A5)) (by rfl) dt rfl dt S dt ?_;intro Ko Kp S FM;have Bp:=ak FM Bp;refine oB F fun Hn FN F=>?_;have CU:=S.boxRow 0 rfl;replace S:=S.t1;replace S:=S.roOne (R:=R0_) (W:=D) A5;replace S:=S.one;refine az rfl dt rfl dt S rfl rfl rfl (by simp) CU FN dt ?_;intro Kq DO S;refine pa DO (ah (bn AV (tn AG ?_)));replace S:=S.keep 1;exact ⟨AE,AH,Cd,Cv,DO,Hn,Z,rfl,rfl,S,AC,Ce,F⟩
    refine cf Cf (aT (bn AV (tn AG ?_)));replace S:=S.keep 1;exact ⟨AE,AH,Cd,Cv,U,Y,Z,rfl,J,S,AC,Ce,F⟩
   refine cf Cc (sR fun _ Ho=>pM AE Z (oB F fun Kr FO F=>?_));refine aI (wA:=D) rfl AC rfl dt rfl FO dt ?_;intro Ks Ia Kt A6 FP;obtain ⟨Bg,rfl⟩:=aw A6;refine pe Bg (ac rfl ((ak S.below FP) 0 _ rfl)) (pa Bg (en Ho (ag (pM AE Z (oB F fun Cw FQ F=>?_)))));refine dE (wA:=D) rfl rfl AC (.inl (congrArg some rfl)) (.inr ⟨rfl,rfl⟩) FQ dt ?_;intro Cg Ch;refine pa Cg (en DK (sR fun _ DP=>pM U J (pe (i_ (Y.length:Int)) (au rfl (S.rdAt (R:=(ay (roR D R0_) 28)) 0 rfl)) (pe (.bool ((Y.length:Int) == 0)) (bu rfl rfl) (pm (.bool ((Y.length:Int) == 0)) (oF F (fun AT F=>?_) fun AT F=>?_))))))
   ·refine eo AT (eo AT (eo AT (eo AT (eo AT (eo AT (eo AT (eo AT (eo AT (pe (.bool true) (av rfl AT rfl) (en DP (ct rfl (ag (pM U J (pm Bg ?_))))))))))))));refine ap [Bg] (aM rfl (oc A6)) (by rfl) dt rfl dt S dt ?_;intro Ku Kv S Ib;refine oB F fun Hp FR F=>?_;have CV:=S.boxRow 0 rfl;replace S:=S.t1;replace S:=S.roOne (R:=R0_) (W:=D) A6;replace S:=S.one;refine az rfl dt rfl dt S rfl rfl rfl (by simp) CV FR dt ?_;intro Kw DQ S;refine pa DQ (ah (bn AV (tn AG ?_)));replace S:=S.keep 1;exact ⟨Cg,Cw,AF,AI,DQ,Hp,rfl,AB,rfl,S,Ch,AD,F⟩
   refine ei AT (pM U J (ei AT (pM U J (ei AT (pe (i_ (Y.length:Int)) (au rfl (S.rdAt (R:=(ay (roR D R0_) 28)) 0 rfl)) (ei AT (oB F fun Hq FS F=>pe (i_ Hq) (cx rfl rfl FS) (ei AT (oB F fun Kx FT F=>?_)))))))));refine aI (wA:=DJ) rfl (S.rdAt (R:=(ay (roR D R0_) 28)) 0 rfl) rfl dt rfl FT dt ?_;intro Ky Ic Kz BB Bq;replace BB:R0_.rd D _ _:=BB;obtain ⟨Hr,rfl⟩:=aw BB;refine ei AT (pe Hr (ac rfl (Bq 0 _ rfl)) (ei AT (pm Bg (ei AT (oB F fun DR FU F=>?_)))));refine ec0 gd (bE (S.up BB) (S.up A6) FU) (ca (ai rfl (ai rfl rfl))) S fun KA FV S=>?_;have Bq:=ak FV Bq;refine ei AT (pe (.bool (DR != 0)) (dD rfl rfl) (pe (.bool (DR != 0)) (aA rfl AT rfl) (en DP (oF F (fun Ci F=>?_) fun Ci F=>?_))))
   ·refine ct Ci (ag (pM U J (pm Bg ?_)));refine ap [Bg] (aM rfl (oc A6)) (by rfl) dt rfl dt S dt ?_;intro KB KC S FW;have Bq:=ak FW Bq;refine oB F fun Hs FX F=>?_;have CX:=S.boxRow 0 rfl;replace S:=S.t1;replace S:=S.roOne (R:=R0_) (W:=D) A6;replace S:=S.one;refine az rfl dt rfl dt S rfl rfl rfl (by simp) CX FX dt ?_;intro KD DS S;refine pa DS (ah (bn AV (tn AG ?_)));replace S:=S.keep 1;exact ⟨Cg,Cw,AF,AI,DS,Hs,rfl,AB,rfl,S,Ch,AD,F⟩
   refine cf Ci (aT (bn AV (tn AG ?_)));replace S:=S.keep 1;exact ⟨Cg,Cw,AF,AI,U,Y,rfl,AB,J,S,Ch,AD,F⟩
  refine cf Bx (aG (tx Ck (tx AG ?_)));replace F:=exB F D5;refine bS Gb (tn Ga (sR fun _ Ht=>pM U J (pa U (en Ht (aj (aJ rfl rfl ?_))))));have hr:=oI F;exact ⟨U,cR hr fun r=>U,(S.rebase D3).below,Eq.mp (congrArg (fun (r:T1_)=>R3_.rd Gd [U] r) hr :) (Au S.below (S.rdAt (R:=(ay (roR D R0_) 28)) 0 rfl))⟩
theorem rZ {w0 : World} {u0 : Value} {a0 : List T0_} (ha0 : R3_.rd w0 [u0] a0) {N : Nat} {r : T1_} (hF : fo N a0 = some r) :
    Calls Tryz.prog 60 #[u0] w0 fun e w' => ∃ (q0 : Value), e = .returned (q0) ∧ Ext w0 w' ∧ R3_.rd w' [q0] r := rH N ha0 hF
theorem eE {w0:World} {a0:Int} {u1:Value} {a1:List T0_} (ha1:R3_.rd w0 [u1] a1) {N:Nat} {r:Bool} (F:cy N a0 a1=some r): Calls Tryz.prog 61 #[.agg #[i_ a0,u1]] w0 fun e w'=>e=.returned (.bool r)∧Ext w0 w' := by
 unfold cy at F;refine aK Tryz.func61 rfl rfl dt ?_;have S:=Sat.start w0;refine sR fun _ Bk=>?_;refine bo [i_ a0,u1] rfl S dt ?_;intro BF AD S Bz;refine pa (.bool false) (en Bk (sg fun _ AR=>sR fun _ AZ=>pe (pt AD (0 + 0)) (ae rfl) (pe (i_ a0) (ac rfl ((S.boxAt 0 rfl) 0 _ rfl)) (oB F fun A0 A2 F=>?_))));refine ec0 ju (d9 A2) (ca (ai rfl (ai rfl (ai rfl rfl)))) S fun BG BA S=>?_;refine pe (.bool (!A0)) (bb rfl) (pm (.bool (!A0)) (oF F (fun Y F=>?_) fun Y F=>?_))
 ·refine ei (am Y) (pe (pt AD (0 + 1)) (ae rfl) (ei (am Y) (pe u1 (ac rfl ((S.boxAt 0 rfl) 1 _ rfl)) (ei (am Y) (pe (i_ (a1.length:Int)) (au rfl ha1) (ei (am Y) (pe (.bool (decide (4000 < (a1.length:Int)))) (bq rfl rfl) (pe (.bool (decide (4000 < (a1.length:Int)))) (aA rfl (am Y) rfl) (en AZ (oF F (fun AI F=>?_) fun AI F=>?_))))))))))
  ·refine ct AI (sg fun _ Bl=>?_);replace S:=S.r0;refine ag (pa (.bool false) (en Bl (aj (tr AR (aJ rfl rfl ?_)))));exact rB F S
  refine cf AI (sn AR (sg fun _ AJ=>sR fun _ Bm=>pa (i_ 0) (en Bm (bg fun _ AK=>?_))));obtain ⟨Bn,hL,AF⟩:=ob F;refine aH (fun k e w=>∃ (Z:Int),e 1=pt AD 0∧e 3=i_ Z∧Sat w0 w [Box AD 39 [i_ a0,u1]]∧cv N k a0 a1 Z=some Bn) N ?_ ?_ ?_
  ·exact ⟨0,rfl,rfl,S,hL⟩
  ·rintro e w ⟨_,_,_,_,hz⟩; exact nn hz
  rintro k BH BI ⟨Z,AB,AC,S,F⟩;refine gn fun _ AE=>sg fun _ A1=>sR fun _ Bo=>pM (i_ Z) AC (pe (pt AD (0 + 1)) (ae AB) (pe u1 (ac rfl ((S.boxAt 0 rfl) 1 _ rfl)) (pe (i_ (a1.length:Int)) (au rfl ha1) (pe (.bool (decide (Z < (a1.length:Int)))) (aL rfl rfl) (en Bo (oF F (fun AM F=>?_) fun AM F=>?_))))))
  ·refine ct AM (sn A1 (sg fun _ AG=>bg fun _ AH=>sg fun _ AN=>?_));refine bM (by kernel_rfl) (by kernel_rfl) ?_;refine qe (pt AD (0 + 1)) (ae AB) (qe u1 (ac rfl ((S.boxAt 0 rfl) 1 _ rfl)) (qM (i_ Z) AC (oB F fun AS A3 F=>?_)));refine aZ (wA:=w0) rfl ha1 rfl dt rfl A3 dt ?_;intro BJ BB BK AV A4;obtain ⟨Bp,rfl⟩:=aw AV;refine qe Bp (ac rfl ((ak S.below A4) 0 _ rfl)) (qe (i_ (AS.length:Int)) (au rfl AV) (qe (pt AD (0 + 0)) (ae AB) (qe (i_ a0) (ac rfl ((S.boxAt 0 rfl) 0 _ rfl)) (qe (.bool ((AS.length:Int) != a0)) (dD rfl rfl) (qm (.bool ((AS.length:Int) != a0)) (oF F (fun J F=>?_) fun J F=>?_))))))
   ·refine qo J (qo J (qo J (qo J (qo J (qo J (qo J (qe (.bool true) (av rfl J rfl) (qm (.bool true) (qo rfl (qo rfl (qo rfl ?_)))))))))));refine aV rfl dt ?_;refine aV rfl dt ?_;refine aV rfl dt ?_;refine aV rfl dt ?_;refine aV rfl dt ?_;refine aV rfl dt ?_;refine aV rfl dt ?_;refine aV rfl dt ?_;refine aV rfl dt ?_;refine aV rfl dt ?_;refine aV rfl dt ?_;refine aV rfl dt ?_;refine aV rfl dt ?_;refine qo rfl (qe (.bool true) (av rfl rfl rfl) (bc ?_));intro BL A5;replace S:=S.ext A5;refine tn AN (ct rfl (sg fun _ Bq=>?_));replace S:=S.r0;refine ag (pa (.bool false) (en Bq (aj (br AH (tr AG (tr AE (br AK (tr AJ ?_))))))));replace F:=exL F AF;refine aJ rfl rfl ?_;exact rB F S
   refine qi J (qe (pt AD (0 + 1)) (ae AB) (qi J (qe u1 (ac rfl ((S.boxAt 0 rfl) 1 _ rfl)) (qi J (qM (i_ Z) AC (qi J (oB F fun BM A6 F=>?_)))))));refine aZ (wA:=w0) rfl ha1 rfl dt rfl A6 dt ?_;intro BN BC BO AW A7;obtain ⟨Br,rfl⟩:=aw AW;refine qi J (qe Br (ac rfl ((ak S.below A7) 0 _ rfl)) (qi J (oB F fun AO A8 F=>?_)));refine cK (.bool AO) ww (fun w' hw'=>j9 (bF (S.up AW) hw') A8) (ca (ai rfl rfl)) dt ?_;refine qi J (qe (.bool (!AO)) (bb rfl) (qe (.bool (!AO)) (aA rfl J rfl) (qm (.bool (!AO)) (oF F (fun U F=>?_) fun U F=>?_))))
   ·refine qi (am U) (qM (i_ Z) AC (qi (am U) (qe (.bool (decide (0 < Z))) (bq rfl rfl) (qi (am U) (qm (.bool (decide (0 < Z))) (oF F (fun D F=>?_) fun D F=>?_))))))
    ·refine qi D (qe (pt AD (0 + 1)) (ae AB) (qi D (qe u1 (ac rfl ((S.boxAt 0 rfl) 1 _ rfl)) (qi D (qM (i_ Z) AC (qi D (oB F fun Bs A9 F=>qe (i_ Bs) (cx rfl rfl A9) (qi D (oB F fun BP Ba F=>?_)))))))));refine aZ (wA:=w0) rfl ha1 rfl dt rfl Ba dt ?_;intro BQ BD BR AX Bb;obtain ⟨Bt,rfl⟩:=aw AX;refine qi D (qe Bt (ac rfl ((ak S.below Bb) 0 _ rfl)) (qi D (qe (pt AD (0 + 1)) (ae AB) (qi D (qe u1 (ac rfl ((S.boxAt 0 rfl) 1 _ rfl)) (qi D (qM (i_ Z) AC (qi D (oB F fun BS Bc F=>?_)))))))));refine aZ (wA:=w0) rfl ha1 rfl dt rfl Bc dt ?_;intro BT BE BU AY Bd;obtain ⟨Bu,rfl⟩:=aw AY;refine qi D (qe Bu (ac rfl ((ak S.below Bd) 0 _ rfl)) (qi D (oB F fun AP Be F=>?_)));refine cK (i_ AP) gd (fun w' hw'=>bE (bF (S.up AX) hw') (bF (S.up AY) hw') Be) (ca (ai rfl (ai rfl rfl))) dt ?_;refine qi D (qe (.bool (decide (0 ≤ AP))) (dU rfl rfl) (qi (am U) (qe (.bool (decide (0 ≤ AP))) (av rfl D rfl) (qe (.bool (decide (0 ≤ AP))) (aA rfl (am U) rfl) (bc ?_)))));intro BV Bf;replace S:=S.ext Bf;refine tn AN (oF F (fun AQ F=>?_) fun AQ F=>?_)
     ·refine ct AQ (sg fun _ Bv=>?_);replace S:=S.r0;refine ag (pa (.bool false) (en Bv (aj (br AH (tr AG (tr AE (br AK (tr AJ ?_))))))));replace F:=exL F AF;refine aJ rfl rfl ?_;exact rB F S
     refine cf AQ (aT (bn AH (tn AG (ag (pM (i_ Z) AC (oB F fun AT Bg F=>pe (i_ AT) (aE rfl rfl Bg) (pa (i_ AT) (en AE ?_))))))));replace S:=S.keep 1;exact ⟨AT,AB,rfl,S,F⟩
    refine qo D (qo D (qo D (qo D (qo D (qo D (qo D (qo D (qo D (qo D (qo D (qo D (qo D (qi (am U) (qe (.bool false) (aA rfl D rfl) (qe (.bool false) (aA rfl (am U) rfl) (bc ?_))))))))))))))));intro BW Bh;replace S:=S.ext Bh;refine tn AN (cf rfl (aT (bn AH (tn AG (ag (pM (i_ Z) AC (oB F fun AU Bi F=>pe (i_ AU) (aE rfl rfl Bi) (pa (i_ AU) (en AE ?_)))))))));replace S:=S.keep 1;exact ⟨AU,AB,rfl,S,F⟩
   refine qo (an U) (qo (an U) (qo (an U) ?_));refine aV rfl dt ?_;refine aV rfl dt ?_;refine aV rfl dt ?_;refine aV rfl dt ?_;refine aV rfl dt ?_;refine aV rfl dt ?_;refine aV rfl dt ?_;refine aV rfl dt ?_;refine aV rfl dt ?_;refine aV rfl dt ?_;refine aV rfl dt ?_;refine aV rfl dt ?_;refine aV rfl dt ?_;refine qo (an U) (qe (.bool true) (av rfl (an U) rfl) (bc ?_));intro BX Bj;replace S:=S.ext Bj;refine tn AN (ct rfl (sg fun _ Bw=>?_));replace S:=S.r0;refine ag (pa (.bool false) (en Bw (aj (br AH (tr AG (tr AE (br AK (tr AJ ?_))))))));replace F:=exL F AF;refine aJ rfl rfl ?_;exact rB F S
  refine cf AM (aG (tx A1 (tx AE ?_)));replace F:=exA F AF;refine bS AK (tn AJ (sg fun _ Bx=>?_));replace S:=S.r0;refine ag (pa (.bool true) (en Bx (aj (aJ rfl rfl ?_))));exact rB F S
 refine eo (an Y) (eo (an Y) (eo (an Y) (eo (an Y) (pe (.bool true) (av rfl (an Y) rfl) (en AZ (ct rfl (sg fun _ By=>?_)))))));replace S:=S.r0;refine ag (pa (.bool false) (en By (aj (tr AR (aJ rfl rfl ?_)))));exact rB F S
end
section
set_option maxRecDepth 100000
set_option maxHeartbeats 4000000
theorem hD {w0:World} {a0:Int} {u1:Value} {a1:List T0_} (ha1:R3_.rd w0 [u1] a1) {N:Nat} {r:T4_ × Bool} (F:dr N a0 a1=some r): Calls Tryz.prog 30 #[i_ a0,u1] w0 fun e w'=>∃ (q0:Value),e=.returned (.tuple #[.agg #[i_ r.1.1,q0],.bool r.2])∧Sat w0 w' [Own R3_ [q0] r.1.2] := by
 unfold dr at F;refine aK Tryz.func30 rfl rfl dt ?_;have S:=Sat.start w0;refine sR fun _ Bc=>?_;refine aR S dt ?_;intro Bz AC S Bu;refine pa (.bool false) (en Bc (sg fun _ AM=>sR fun _ Bd=>pa (i_ 0) (en Bd (bg fun _ AN=>?_))));obtain ⟨Be,hL,AF⟩:=ob F;refine aH (fun k e w=>∃ (Z:Int),e 0=i_ a0∧e 1=u1∧e 4=pt AC 0∧e 6=i_ Z∧Sat w0 w [Box AC 39 [i_ 0,n_]]∧de N k a0 a1 0 [] Z=some Be) N ?_ ?_ ?_
 ·exact ⟨0,rfl,rfl,rfl,rfl,S,hL⟩
 ·rintro e w ⟨_,_,_,_,_,_,hz⟩; exact nn hz
 rintro k BA BB ⟨Z,AG,AD,Y,AE,S,F⟩;refine gn fun _ AH=>sg fun _ AV=>sR fun _ Bf=>pM (i_ Z) AE (pM u1 AD (pe (i_ (a1.length:Int)) (au rfl ha1) (pe (.bool (decide (Z < (a1.length:Int)))) (aL rfl rfl) (en Bf (oF F (fun AI F=>?_) fun AI F=>?_)))))
 ·refine ct AI (sn AV (sg fun _ AO=>bg fun _ AP=>sR fun _ AW=>pM u1 AD (pM (i_ Z) AE (oB F fun AQ A0 F=>?_))));refine aI (wA:=w0) rfl ha1 rfl dt rfl A0 dt ?_;intro BC Bv BD AT A1;obtain ⟨Bg,rfl⟩:=aw AT;refine pe Bg (ac rfl ((ak S.below A1) 0 _ rfl)) (pe (i_ (AQ.length:Int)) (au rfl AT) (pM (i_ a0) AG (pe (.bool ((AQ.length:Int) != a0)) (dD rfl rfl) (pm (.bool ((AQ.length:Int) != a0)) (oF F (fun D F=>?_) fun D F=>?_)))))
  ·refine eo D (eo D (eo D (eo D (eo D (eo D (pe (.bool true) (av rfl D rfl) (en AW (ct rfl (sR fun _ Bh=>pe (.agg #[i_ 0,n_]) (bi [] [i_ 0,n_] rfl rfl) ?_)))))))));refine aq (S.top 0 rfl) Y [i_ 0,n_] rfl rfl dt (all_cons rfl (all_cons rfl rfl)) ?_;intro Bi S;replace S:Sat w0 Bi [Box AC 39 [i_ 0,n_]]:=S;refine pa (.bool false) (en Bh (aj (br AP (tr AO (tr AH (br AN (tr AM ?_)))))));replace F:=exL F AF;replace S:=S.nil R0_ 28;refine dB (cs:=[i_ 0,n_]) rfl Y rfl (aB (S.boxAt 1 rfl)) rfl ?_;have hr:=oI F;exact ⟨n_,cR hr fun r=>.tuple #[.agg #[i_ r.1.1,n_],.bool r.2],sP hr (fun r=>[Own R3_ [n_] r.1.2]) (S.keep 1)⟩
  refine ei D (pM u1 AD (ei D (pM (i_ Z) AE (ei D (oB F fun BE A2 F=>?_)))));refine aI (wA:=w0) rfl ha1 rfl dt rfl A2 dt ?_;intro BF Bw BG AU A3;obtain ⟨Bj,rfl⟩:=aw AU;refine ei D (pe Bj (ac rfl ((ak S.below A3) 0 _ rfl)) (ei D (oB F fun AX A4 F=>?_)));refine ec0 ww (j9 (S.up AU) A4) (ca (ai rfl rfl)) S fun BH Bx S=>?_;refine ei D (pe (.bool (!AX)) (bb rfl) (pe (.bool (!AX)) (aA rfl D rfl) (en AW (oF F (fun AJ F=>?_) fun AJ F=>?_))))
  ·refine cf (am AJ) (aT (bn AP (tn AO (ag (pM (i_ Z) AE (oB F fun AR A5 F=>pe (i_ AR) (aE rfl rfl A5) (pa (i_ AR) (en AH ?_))))))));replace S:=S.keep 1;exact ⟨AR,AG,AD,Y,rfl,S,F⟩
  refine ct (an AJ) (sR fun _ Bk=>pe (.agg #[i_ 0,n_]) (bi [] [i_ 0,n_] rfl rfl) ?_);refine aq (S.top 0 rfl) Y [i_ 0,n_] rfl rfl dt (all_cons rfl (all_cons rfl rfl)) ?_;intro Bl S;replace S:Sat w0 Bl [Box AC 39 [i_ 0,n_]]:=S;refine pa (.bool false) (en Bk (aj (br AP (tr AO (tr AH (br AN (tr AM ?_)))))));replace F:=exL F AF;replace S:=S.nil R0_ 28;refine dB (cs:=[i_ 0,n_]) rfl Y rfl (aB (S.boxAt 1 rfl)) rfl ?_;have hr:=oI F;exact ⟨n_,cR hr fun r=>.tuple #[.agg #[i_ r.1.1,n_],.bool r.2],sP hr (fun r=>[Own R3_ [n_] r.1.2]) (S.keep 1)⟩
 refine cf AI (aG (tx AV (tx AH ?_)));replace F:=exA F AF;refine bS AN (tn AM (sR fun _ Bm=>pM (i_ a0) AG (pM u1 AD (oB F fun BI A6 F=>?_))));refine aU tZ (rZ (S.up ha1) A6) (ca (ai rfl rfl)) dt ?_;rintro _ BJ ⟨AS,rfl,A7,AB⟩;refine ⟨_,rfl,?_⟩;replace S:=S.ext A7;refine pe (.agg #[i_ a0,AS]) (bi [(0,[i_ a0]),(1,[AS])] [i_ a0,AS] (cM rfl (cM (aM rfl (oc AB)) rfl)) rfl) (oB F fun U A8 F=>?_);refine ec1 w5 (nI AB A8) (ca (ai rfl rfl)) S fun BK J A9 S=>?_;have AB:=bF AB A9;refine aR S dt ?_;intro BL AY S Ba;have AB:=bF AB Ba;refine aq (S.top 0 rfl) rfl [i_ U.1,J] rfl rfl dt (all_cons rfl (all_cons (oc (S.rdAt (R:=R3_) 1 rfl)) rfl)) ?_;intro Bn S;replace S:Sat w0 Bn [Box AY 39 [i_ U.1,J],Own R3_ [J] U.2,Box AC 39 [i_ 0,n_]]:=S;refine en Bm (sg fun _ AZ=>sR fun _ Bo=>pe (.agg #[i_ U.1,J]) (ax (cs:=[i_ U.1,J]) rfl rfl (aB (S.boxAt 0 rfl))) (oB F fun Bp Bb F=>?_));refine ec0 o7 (eE (S.rdAt (R:=R3_) 1 rfl) Bb) (ca (ai rfl rfl)) S fun BM By S=>?_;refine pe (.bool (!Bp)) (bb rfl) (en Bo (oF F (fun AK F=>?_) fun AK F=>?_))
 ·refine cf (am AK) (sn AZ (sR fun _ Bq=>pe (.agg #[i_ U.1,J]) (ax (cs:=[i_ U.1,J]) rfl rfl (aB (S.boxAt 0 rfl))) ?_));refine aq (S.top 2 rfl) Y [i_ U.1,J] rfl rfl dt (all_cons rfl (all_cons (oc (S.rdAt (R:=R3_) 1 rfl)) rfl)) ?_;intro Br S;replace S:Sat w0 Br [Box AC 39 [i_ U.1,J],Box AY 39 [i_ U.1,J],Own R3_ [J] U.2]:=S;refine pa (.bool true) (en Bq (aj ?_));refine dB (cs:=[i_ U.1,J]) rfl Y rfl (aB (S.boxAt 0 rfl)) rfl ?_;replace S:=S.t2;have hr:=oI F;exact ⟨J,cR hr fun r=>.tuple #[.agg #[i_ r.1.1,J],.bool r.2],sP hr (fun r=>[Own R3_ [J] r.1.2]) (S.keep 1)⟩
 refine ct (an AK) (sg fun _ Bs=>?_);replace S:=S.r1.r0;refine ag (pe (.agg #[i_ 0,n_]) (bi [] [i_ 0,n_] rfl rfl) ?_);refine aq (S.top 0 rfl) Y [i_ 0,n_] rfl rfl dt (all_cons rfl (all_cons rfl rfl)) ?_;intro Bt S;replace S:Sat w0 Bt [Box AC 39 [i_ 0,n_]]:=S;refine pa (.bool false) (en Bs (aj (tr AZ ?_)));replace S:=S.nil R0_ 28;refine dB (cs:=[i_ 0,n_]) rfl Y rfl (aB (S.boxAt 1 rfl)) rfl ?_;have hr:=oI F;exact ⟨n_,cR hr fun r=>.tuple #[.agg #[i_ r.1.1,n_],.bool r.2],sP hr (fun r=>[Own R3_ [n_] r.1.2]) (S.keep 1)⟩
theorem kj {w0:World} {Y:World} {G0:List Asn} {b0:Nat} {u0:Value} {a0:List Int} {a1:Int} {a2:Int} {a3:Int} {a4:Int} (ha0:(ay u8R 5).rd Y [u0] a0) (S:Sat Y w0 (Box b0 77 [u0,i_ a1,i_ a2] :: G0)) {N:Nat} {r:T0_ × Int × Int} (F:gG N a0 a1 a2 a3 a4=some r): Calls Tryz.prog 46 #[.pointer (some ⟨b0,0,none⟩),i_ a3,i_ a4] w0 fun e w'=>∃ (q0:Value),e=.returned (q0)∧Sat Y w' (Own R0_ [q0] r.1 :: Box b0 77 [u0,i_ r.2.1,i_ r.2.2] :: G0) := by
 unfold gG at F;refine aK Tryz.func46 rfl rfl dt ?_;refine sR fun _ AQ=>pa n_ (en AQ (sR fun _ AR=>?_));refine aN bN S dt ?_;intro A3 AI S A1;refine pa AI (en AR (sg fun _ AS=>bg fun _ AT=>?_));obtain ⟨AU,hL,AN⟩:=ob F;refine aH (fun k e w=>∃ (AC:Int),∃ (AD:Int),∃ (D:Value),∃ (J:List Int),e 0=pt b0 0∧e 1=i_ a3∧e 2=i_ a4∧e 7=D∧Sat Y w (Own R0_ [D] J :: Box b0 77 [u0,i_ AC,i_ AD] :: G0)∧hZ N k a0 AC AD a3 a4 J=some AU) N ?_ ?_ ?_
 ·exact ⟨a1,a2,AI,[],rfl,rfl,rfl,rfl,S,hL⟩
 ·rintro e w ⟨_,_,_,_,_,_,_,_,_,hz⟩; exact nn hz
 rintro k A4 AV ⟨AC,AD,D,J,AE,AF,AG,Z,S,F⟩;refine gn fun _ AJ=>sg fun _ AK=>sR fun _ AW=>pM D Z (pe (i_ (J.length:Int)) (au rfl (S.rdAt (R:=R0_) 0 rfl)) (pM (i_ a3) AF (pe (.bool (decide ((J.length:Int) < a3))) (aL rfl rfl) (en AW (oF F (fun AB F=>?_) fun AB F=>?_)))))
 ·refine ct AB (sn AK (bg fun _ AX=>ag (pM D Z (pM (pt b0 0) AE (pM (i_ a4) AG ?_)))));replace S:=S.t1;refine oB F fun U AO F=>?_;refine aU dZ (bv ha0 S AO) (ca (ai rfl (ai rfl rfl))) dt ?_;rintro _ AY ⟨rfl,S⟩;refine ⟨_,rfl,?_⟩;replace S:Sat Y AY (Box b0 77 [u0,i_ U.2.1,i_ U.2.2] :: Own R0_ [D] J :: G0):=S;refine ap [i_ U.1] rfl (by rfl) dt rfl dt S dt ?_;intro A5 A6 S A2;refine oB F fun AZ AP F=>?_;have AH:=S.boxRow 0 rfl;replace S:=S.t2;replace S:=S.int U.1;replace S:=S.one;refine az rfl dt rfl dt S rfl rfl rfl (by simp) AH AP dt ?_;intro A7 AM S;refine pa AM (ah (bn AX (tn AJ ?_)));replace S:=S.t2.t1;replace S:=S.r2;exact ⟨U.2.1,U.2.2,AM,AZ,AE,AF,AG,rfl,S,F⟩
 refine cf AB (aG (tx AK (tx AJ ?_)));replace F:=exB F AN;refine bS AT (tn AS (sR fun _ A0=>pM D Z (pa D (en A0 (aj (aJ rfl rfl ?_))))));have hr:=oI F;exact ⟨D,(cR hr fun r=>D :),Eq.mp (congrArg (fun (r:T0_ × Int × Int)=>Sat Y AV (Own R0_ [D] r.1 :: Box b0 77 [u0,i_ r.2.1,i_ r.2.2] :: G0)) hr :) S⟩
theorem me {w0:World} {Y:World} {G0:List Asn} {b0:Nat} {u0:Value} {a0:List Int} {a1:Int} {a2:Int} {a3:Int} {a4:Int} {a5:Int} (ha0:(ay u8R 5).rd Y [u0] a0) (S:Sat Y w0 (Box b0 77 [u0,i_ a1,i_ a2] :: G0)) {N:Nat} {r:T4_ × Int × Int} (F:iY N a0 a1 a2 a3 a4 a5=some r): Calls Tryz.prog 96 #[.pointer (some ⟨b0,0,none⟩),i_ a3,i_ a4,i_ a5] w0 fun e w'=>∃ (q0:Value),e=.returned (.agg #[i_ r.1.1,q0])∧Sat Y w' (Own R3_ [q0] r.1.2 :: Box b0 77 [u0,i_ r.2.1,i_ r.2.2] :: G0) := by
 unfold iY at F;refine aK Tryz.func96 rfl rfl dt ?_;refine sR fun _ A5=>?_;refine aR S dt ?_;intro Bq Z S Bl;refine en A5 (sR fun _ A6=>?_);refine aN R0_ S dt ?_;intro Br AK S Bm;refine pa AK (en A6 (sg fun _ A7=>sR fun _ A8=>pm (pt b0 0) (pm (i_ a4) (oB F fun A9 AY F=>pe (i_ A9) (aE rfl rfl AY) ?_))));replace S:=S.t2;refine oB F fun AB AZ F=>?_;refine aU dZ (bv ha0 S AZ) (ca (ai rfl (ai rfl rfl))) dt ?_;rintro _ Ba ⟨rfl,S⟩;refine ⟨_,rfl,?_⟩;replace S:Sat Y Ba (Box b0 77 [u0,i_ AB.2.1,i_ AB.2.2] :: Own R3_ [AK] [] :: Box Z 39 [i_ 0,n_] :: G0):=S;refine pa (i_ AB.1) (en A8 (bg fun _ Bb=>?_));obtain ⟨Bc,hL,A0⟩:=ob F;refine aH (fun k e w=>∃ (AD:Int),∃ (AE:Int),∃ (U:Value),∃ (AF:List T0_),∃ (AC:Int),e 0=pt b0 0∧e 1=i_ a3∧e 3=i_ a5∧e 8=pt Z 0∧e 9=U∧e 10=i_ AC∧Sat Y w (Box b0 77 [u0,i_ AD,i_ AE] :: Own R3_ [U] AF :: Box Z 39 [i_ 0,n_] :: G0)∧ic N k a0 AD AE a3 a5 0 [] AF AC=some Bc) N ?_ ?_ ?_
 ·exact ⟨AB.2.1,AB.2.2,AK,[],AB.1,rfl,rfl,rfl,rfl,rfl,rfl,S,hL⟩
 ·rintro e w ⟨_,_,_,_,_,_,_,_,_,_,_,_,hz⟩; exact nn hz
 rintro k Bs Bt ⟨AD,AE,U,AF,AC,AN,AH,AO,AI,AP,AQ,S,F⟩;refine gn fun _ AS=>sg fun _ AT=>sR fun _ Bd=>pM (i_ AC) AQ (pe (.bool (decide (0 < AC))) (bq rfl rfl) (en Bd (oF F (fun AJ F=>?_) fun AJ F=>?_)))
 ·refine ct AJ (sn AT (sg fun _ Be=>bg fun _ Bf=>ag (pM U AP (pM (pt b0 0) AN (pM (i_ a3) AH (pM (i_ a5) AO (oB F fun AG A1 F=>?_)))))));refine aU rF (kj ha0 S A1) (ca (ai rfl (ai rfl (ai rfl rfl)))) dt ?_;rintro _ Bg ⟨AU,rfl,S⟩;refine ⟨_,rfl,?_⟩;replace S:Sat Y Bg (Own R0_ [AU] AG.1 :: Box b0 77 [u0,i_ AG.2.1,i_ AG.2.2] :: Own R3_ [U] AF :: Box Z 39 [i_ 0,n_] :: G0):=S;refine ap [AU] (aM rfl (oc (S.rdAt (R:=R0_) 0 rfl))) (by rfl) dt rfl dt S dt ?_;intro Bu Bv S Bn;refine oB F fun Bh A2 F=>?_;have AR:=S.boxRow 0 rfl;replace S:=S.t3;replace S:=S.t2;replace S:=S.one;refine az rfl dt rfl dt S rfl rfl rfl (by simp) AR A2 dt ?_;intro Bw AV S;refine pa AV (ah (bn Bf (tn Be ?_)));replace S:=S.r1;refine ag (pM (i_ AC) AQ (oB F fun AM A3 F=>pe (i_ AM) (cx rfl rfl A3) (pa (i_ AM) (en AS ?_))));replace S:=S.t2.t1.t2;exact ⟨AG.2.1,AG.2.2,AV,Bh,AM,AN,AH,AO,AI,rfl,rfl,S,F⟩
 refine cf AJ (aG (tx AT (tx AS ?_)));replace F:=exB F A0;refine bS Bb (tn A7 (sR fun _ Bi=>pM (i_ a3) AH (pM U AP (oB F fun D A4 F=>?_))));refine ec1 ru (hD (S.rdAt (R:=R3_) 1 rfl) A4) (ca (ai rfl (ai rfl rfl))) S fun Bx J Bo S=>?_;refine pm (.tuple #[.agg #[i_ D.1.1,J],.bool D.2]) (pe (.agg #[i_ D.1.1,J]) (aD rfl rfl) (pe (.bool D.2) (aD rfl rfl) ?_));refine aR S dt ?_;intro By AW S Bp;refine aq (S.top 0 rfl) rfl [i_ D.1.1,J] rfl rfl dt (all_cons rfl (all_cons (oc (S.rdAt (R:=R3_) 1 rfl)) rfl)) ?_;intro Bj S;replace S:Sat Y Bj (Box AW 39 [i_ D.1.1,J] :: Own R3_ [J] D.1.2 :: Box b0 77 [u0,i_ AD,i_ AE] :: Own R3_ [U] AF :: Box Z 39 [i_ 0,n_] :: G0):=S;refine pa (.bool D.2) (en Bi (sg fun _ Bk=>?_));replace S:=S.r3;refine ag (pe (.agg #[i_ D.1.1,J]) (ax (cs:=[i_ D.1.1,J]) rfl rfl (aB (S.boxAt 0 rfl))) ?_);refine aq (S.top 3 rfl) AI [i_ D.1.1,J] rfl rfl dt (all_cons rfl (all_cons (oc (S.rdAt (R:=R3_) 1 rfl)) rfl)) ?_;intro AX S;replace S:Sat Y AX (Box Z 39 [i_ D.1.1,J] :: Box AW 39 [i_ D.1.1,J] :: Own R3_ [J] D.1.2 :: Box b0 77 [u0,i_ AD,i_ AE] :: G0):=S;refine en Bk (aj ?_);refine ee (cs:=[i_ D.1.1,J]) rfl AI rfl (aB (S.boxAt 0 rfl))  ?_;replace S:=S.t3.t3;have hr:=oI F;replace S:=S.r3.r2;exact ⟨J,(cR hr fun r=>.agg #[i_ r.1.1,J] :),Eq.mp (congrArg (fun (r:T4_ × Int × Int)=>Sat Y AX (Own R3_ [J] r.1.2 :: Box b0 77 [u0,i_ r.2.1,i_ r.2.2] :: G0)) hr :) S⟩
theorem o8 {w0:World} {AC:World} {G0:List Asn} {b0:Nat} {u0:Value} {a0:List Int} {a1:Int} {a2:Int} (ha0:(ay u8R 5).rd AC [u0] a0) (S:Sat AC w0 (Box b0 77 [u0,i_ a1,i_ a2] :: G0)) {N:Nat} {r:T7_ × Int × Int} (F:kB N a0 a1 a2=some r): Calls Tryz.prog 69 #[.pointer (some ⟨b0,0,none⟩)] w0 fun e w'=>∃ (q0:Value),e=.returned (.agg #[q0])∧Sat AC w' (Own bB [q0] r.1 :: Box b0 77 [u0,i_ r.2.1,i_ r.2.2] :: G0) := by
 unfold kB at F;refine aK Tryz.func69 rfl rfl dt ?_;refine sR fun _ BL=>?_;refine aR S dt ?_;intro Ct AB S Ch;refine en BL (sR fun _ BM=>pm (pt b0 0) ?_);refine c9 (R:=bN) (xs:=([2,3,4,6]:List Int)) [i_ 2,i_ 3,i_ 4,i_ 6] rfl rfl rfl rfl (by rfl) (kn ([2,3,4,6]:List Int)) S dt ?_;intro Cu Cv S Ci;replace S:=S.t2;refine oB F fun AH Bn F=>?_;refine aU mI (eG ha0 S Bn) (ca (ai rfl (ai rfl rfl))) dt ?_;rintro _ BN ⟨rfl,S⟩;refine ⟨_,rfl,?_⟩;replace S:Sat AC BN (Box b0 77 [u0,i_ AH.2.1,i_ AH.2.2] :: Box AB 26 [n_] :: G0):=S;refine pa (i_ AH.1) (en BM (sR fun _ BO=>pe (.agg #[n_]) (bi [] [n_] rfl rfl) ?_));refine aR S dt ?_;intro Cw J S Cj;refine aq (S.top 0 rfl) rfl [n_] rfl rfl dt (all_cons rfl rfl) ?_;intro BP S;replace S:Sat AC BP (Box J 26 [n_] :: Box b0 77 [u0,i_ AH.2.1,i_ AH.2.2] :: Box AB 26 [n_] :: G0):=S;refine en BO (sg fun _ BQ=>sR fun _ BR=>?_);refine c9 (R:=jj) (xs:=([(⟨#[114]⟩:ByteArray),(⟨#[115]⟩:ByteArray),(⟨#[116]⟩:ByteArray),(⟨#[117]⟩:ByteArray),(⟨#[118]⟩:ByteArray)]:List ByteArray)) [.string (⟨#[114]⟩:ByteArray),.string (⟨#[115]⟩:ByteArray),.string (⟨#[116]⟩:ByteArray),.string (⟨#[117]⟩:ByteArray),.string (⟨#[118]⟩:ByteArray)] rfl rfl rfl rfl (by rfl) (lF (xs:=[(⟨#[114]⟩:ByteArray),(⟨#[115]⟩:ByteArray),(⟨#[116]⟩:ByteArray),(⟨#[117]⟩:ByteArray),(⟨#[118]⟩:ByteArray)]) dt) S dt ?_;intro Cx AJ S Ck;refine pe (i_ (([(⟨#[114]⟩:ByteArray),(⟨#[115]⟩:ByteArray),(⟨#[116]⟩:ByteArray),(⟨#[117]⟩:ByteArray),(⟨#[118]⟩:ByteArray)]:List ByteArray).length:Int)) (au rfl (S.rdAt (R:=R1_) 0 rfl)) (pm (i_ 0) (en BR (bg fun _ BS=>?_)));replace S:=S.nil mJ 131;obtain ⟨BT,hL,Bo⟩:=ob F;refine aH (fun k e w=>∃ (AZ:Int),∃ (A0:Int),∃ (D:Value),∃ (AD:List T6_),∃ (AQ:Int),e 0=pt b0 0∧e 2=pt AB 0∧e 3=i_ AH.1∧e 4=pt J 0∧e 13=AJ∧e 14=i_ (([(⟨#[114]⟩:ByteArray),(⟨#[115]⟩:ByteArray),(⟨#[116]⟩:ByteArray),(⟨#[117]⟩:ByteArray),(⟨#[118]⟩:ByteArray)]:List ByteArray).length:Int)∧e 15=i_ AQ∧Sat AC w (Own bB [D] AD :: Own R1_ [AJ] ([(⟨#[114]⟩:ByteArray),(⟨#[115]⟩:ByteArray),(⟨#[116]⟩:ByteArray),(⟨#[117]⟩:ByteArray),(⟨#[118]⟩:ByteArray)]:List ByteArray) :: Box J 26 [D] :: Box b0 77 [u0,i_ AZ,i_ A0] :: Box AB 26 [n_] :: G0)∧ga N k a0 AZ A0 [] AH.1 AD ([(⟨#[114]⟩:ByteArray),(⟨#[115]⟩:ByteArray),(⟨#[116]⟩:ByteArray),(⟨#[117]⟩:ByteArray),(⟨#[118]⟩:ByteArray)]:List ByteArray) (([(⟨#[114]⟩:ByteArray),(⟨#[115]⟩:ByteArray),(⟨#[116]⟩:ByteArray),(⟨#[117]⟩:ByteArray),(⟨#[118]⟩:ByteArray)]:List ByteArray).length:Int) AQ=some BT) N ?_ ?_ ?_
 ·exact ⟨AH.2.1,AH.2.2,n_,[],0,rfl,rfl,rfl,rfl,rfl,rfl,rfl,S,hL⟩
 ·rintro e w ⟨_,_,_,_,_,_,_,_,_,_,_,_,_,hz⟩; exact nn hz
 rintro k Cy BU ⟨AZ,A0,D,AD,AQ,AI,AK,AO,AG,AR,AS,AP,S,F⟩;refine gn fun _ A1=>sR fun _ BV=>pe (.bool (decide (AQ < (([(⟨#[114]⟩:ByteArray),(⟨#[115]⟩:ByteArray),(⟨#[116]⟩:ByteArray),(⟨#[117]⟩:ByteArray),(⟨#[118]⟩:ByteArray)]:List ByteArray).length:Int)))) (aL AP AS) (en BV (sg fun _ A8=>oF F (fun AT F=>?_) fun AT F=>?_))
 ·refine ct AT (sn A8 (sg fun _ A9=>bg fun _ Ba=>sR fun _ BW=>oB F fun Z Bp F=>?_));refine aI (wA:=BU) AR (S.rdAt (R:=R1_) 1 rfl) rfl dt AP Bp dt ?_;intro Cz Cl CA Bq AM;obtain ⟨rfl,A4⟩:=Bq;refine pe (.string Z) (ac rfl (AM 0 _ rfl)) (pa (.string Z) (en BW (sR fun _ BX=>pa (i_ 2) (en BX (sg fun _ Bb=>sR fun _ BY=>pm (.string Z) (pe (.bool (eqS Z (⟨#[118]⟩:ByteArray))) (mw rfl rfl) (en BY (oF F (fun AU F=>?_) fun AU F=>?_))))))))
  ·refine ct AU (ag (pa (i_ 3) (en Bb (sR fun _ BZ=>pM (pt b0 0) AI (pm (i_ 3) (pM (pt b0 0) AI ?_))))));refine c9 (R:=bN) (xs:=([3,6,9]:List Int)) [i_ 3,i_ 6,i_ 9] rfl rfl rfl rfl (by rfl) (kn ([3,6,9]:List Int)) S dt ?_;intro CB CC S Br;have AM:=ak Br AM;replace S:=S.t4;refine oB F fun Bc Bs F=>?_;refine aU mI (eG ha0 S Bs) (ca (ai rfl (ai rfl rfl))) dt ?_;rintro _ B0 ⟨rfl,S⟩;refine ⟨_,rfl,?_⟩;replace S:Sat AC B0 (Box b0 77 [u0,i_ Bc.2.1,i_ Bc.2.2] :: Own bB [D] AD :: Own R1_ [AJ] ([(⟨#[114]⟩:ByteArray),(⟨#[115]⟩:ByteArray),(⟨#[116]⟩:ByteArray),(⟨#[117]⟩:ByteArray),(⟨#[118]⟩:ByteArray)]:List ByteArray) :: Box J 26 [D] :: Box AB 26 [n_] :: G0):=S;refine pM (i_ AH.1) AO (oB F fun U Bt F=>?_);refine aU tu (me ha0 S Bt) (ca (ai rfl (ai rfl (ai rfl (ai rfl rfl))))) dt ?_;rintro _ B1 ⟨AE,rfl,S⟩;refine ⟨_,rfl,?_⟩;replace S:Sat AC B1 (Own R3_ [AE] U.1.2 :: Box b0 77 [u0,i_ U.2.1,i_ U.2.2] :: Own bB [D] AD :: Own R1_ [AJ] ([(⟨#[114]⟩:ByteArray),(⟨#[115]⟩:ByteArray),(⟨#[116]⟩:ByteArray),(⟨#[117]⟩:ByteArray),(⟨#[118]⟩:ByteArray)]:List ByteArray) :: Box J 26 [D] :: Box AB 26 [n_] :: G0):=S;refine aR S dt ?_;intro CD Bd S Cm;refine aq (S.top 0 rfl) rfl [i_ U.1.1,AE] rfl rfl dt (all_cons rfl (all_cons (oc (S.rdAt (R:=R3_) 1 rfl)) rfl)) ?_;intro B2 S;replace S:Sat AC B2 (Box Bd 39 [i_ U.1.1,AE] :: Own R3_ [AE] U.1.2 :: Box b0 77 [u0,i_ U.2.1,i_ U.2.2] :: Own bB [D] AD :: Own R1_ [AJ] ([(⟨#[114]⟩:ByteArray),(⟨#[115]⟩:ByteArray),(⟨#[116]⟩:ByteArray),(⟨#[117]⟩:ByteArray),(⟨#[118]⟩:ByteArray)]:List ByteArray) :: Box J 26 [D] :: Box AB 26 [n_] :: G0):=S;refine en BZ (ag (pe (pt J (0 + 0)) (ae AG) (pe D (ac rfl ((S.boxAt 5 rfl) 0 _ rfl)) (pm (.string Z) (pe (.agg #[i_ U.1.1,AE]) (ax (cs:=[i_ U.1.1,AE]) rfl rfl (aB (S.boxAt 0 rfl))) (pe (.agg #[.string Z,i_ U.1.1,AE]) (bi [(0,[.string Z]),(1,[i_ U.1.1,AE])] [.string Z,i_ U.1.1,AE] (cM rfl (cM rfl rfl)) rfl) ?_))))));refine ap [.string Z,i_ U.1.1,AE] rfl (by rfl) dt rfl dt S dt ?_;intro CE B3 S Cn;refine oB F fun Be Bu F=>?_;have A6:=S.boxRow 0 rfl;replace S:=S.t4;replace S:=S.t3;replace S:=S.int U.1.1;replace S:=S.pair;replace S:=S.str Z A4;replace S:=S.pair;replace S:=S.one;refine az rfl dt rfl dt S rfl rfl rfl (by simp) A6 Bu dt ?_;intro CF AV S;refine pe (pt J (0 + 0)) (ae AG) ?_;refine aq (S.top 5 rfl) rfl [AV] (aM rfl (oc (S.rdAt (R:=bB) 0 rfl))) rfl dt (all_cons (oc (S.rdAt (R:=bB) 0 rfl)) rfl) ?_;intro B4 S;replace S:Sat AC B4 (Box J 26 [AV] :: Own bB [AV] Be :: Box B3 131 [.string Z,i_ U.1.1,AE] :: Box Bd 39 [i_ U.1.1,AE] :: Box b0 77 [u0,i_ U.2.1,i_ U.2.2] :: Own R1_ [AJ] ([(⟨#[114]⟩:ByteArray),(⟨#[115]⟩:ByteArray),(⟨#[116]⟩:ByteArray),(⟨#[117]⟩:ByteArray),(⟨#[118]⟩:ByteArray)]:List ByteArray) :: Box AB 26 [n_] :: G0):=S;refine ah (bn Ba (tn A9 ?_));replace S:=S.r3.r2;refine ag (oB F fun A2 Bv F=>pe (i_ A2) (aE AP rfl Bv) (pm (i_ A2) (en A1 ?_)));replace S:=S.t4.t3.t2.t4.t4;exact ⟨U.2.1,U.2.2,AV,Be,A2,AI,AK,AO,AG,AR,AS,rfl,S,F⟩
  refine cf AU (sn Bb (sR fun _ B5=>pM (pt b0 0) AI (pm (i_ 2) (pM (pt b0 0) AI ?_))));refine c9 (R:=bN) (xs:=([3,6,9]:List Int)) [i_ 3,i_ 6,i_ 9] rfl rfl rfl rfl (by rfl) (kn ([3,6,9]:List Int)) S dt ?_;intro CG CH S Bw;have AM:=ak Bw AM;replace S:=S.t4;refine oB F fun Bf Bx F=>?_;refine aU mI (eG ha0 S Bx) (ca (ai rfl (ai rfl rfl))) dt ?_;rintro _ B6 ⟨rfl,S⟩;refine ⟨_,rfl,?_⟩;replace S:Sat AC B6 (Box b0 77 [u0,i_ Bf.2.1,i_ Bf.2.2] :: Own bB [D] AD :: Own R1_ [AJ] ([(⟨#[114]⟩:ByteArray),(⟨#[115]⟩:ByteArray),(⟨#[116]⟩:ByteArray),(⟨#[117]⟩:ByteArray),(⟨#[118]⟩:ByteArray)]:List ByteArray) :: Box J 26 [D] :: Box AB 26 [n_] :: G0):=S;refine pM (i_ AH.1) AO (oB F fun Y By F=>?_);refine aU tu (me ha0 S By) (ca (ai rfl (ai rfl (ai rfl (ai rfl rfl))))) dt ?_;rintro _ B7 ⟨AF,rfl,S⟩;refine ⟨_,rfl,?_⟩;replace S:Sat AC B7 (Own R3_ [AF] Y.1.2 :: Box b0 77 [u0,i_ Y.2.1,i_ Y.2.2] :: Own bB [D] AD :: Own R1_ [AJ] ([(⟨#[114]⟩:ByteArray),(⟨#[115]⟩:ByteArray),(⟨#[116]⟩:ByteArray),(⟨#[117]⟩:ByteArray),(⟨#[118]⟩:ByteArray)]:List ByteArray) :: Box J 26 [D] :: Box AB 26 [n_] :: G0):=S;refine aR S dt ?_;intro CI Bg S Co;refine aq (S.top 0 rfl) rfl [i_ Y.1.1,AF] rfl rfl dt (all_cons rfl (all_cons (oc (S.rdAt (R:=R3_) 1 rfl)) rfl)) ?_;intro B8 S;replace S:Sat AC B8 (Box Bg 39 [i_ Y.1.1,AF] :: Own R3_ [AF] Y.1.2 :: Box b0 77 [u0,i_ Y.2.1,i_ Y.2.2] :: Own bB [D] AD :: Own R1_ [AJ] ([(⟨#[114]⟩:ByteArray),(⟨#[115]⟩:ByteArray),(⟨#[116]⟩:ByteArray),(⟨#[117]⟩:ByteArray),(⟨#[118]⟩:ByteArray)]:List ByteArray) :: Box J 26 [D] :: Box AB 26 [n_] :: G0):=S;refine en B5 (ag (pe (pt J (0 + 0)) (ae AG) (pe D (ac rfl ((S.boxAt 5 rfl) 0 _ rfl)) (pm (.string Z) (pe (.agg #[i_ Y.1.1,AF]) (ax (cs:=[i_ Y.1.1,AF]) rfl rfl (aB (S.boxAt 0 rfl))) (pe (.agg #[.string Z,i_ Y.1.1,AF]) (bi [(0,[.string Z]),(1,[i_ Y.1.1,AF])] [.string Z,i_ Y.1.1,AF] (cM rfl (cM rfl rfl)) rfl) ?_))))));refine ap [.string Z,i_ Y.1.1,AF] rfl (by rfl) dt rfl dt S dt ?_;intro CJ B9 S Cp;refine oB F fun Bh Bz F=>?_;have A7:=S.boxRow 0 rfl;replace S:=S.t4;replace S:=S.t3;replace S:=S.int Y.1.1;replace S:=S.pair;replace S:=S.str Z A4;replace S:=S.pair;replace S:=S.one;refine az rfl dt rfl dt S rfl rfl rfl (by simp) A7 Bz dt ?_;intro CK AW S;refine pe (pt J (0 + 0)) (ae AG) ?_;refine aq (S.top 5 rfl) rfl [AW] (aM rfl (oc (S.rdAt (R:=bB) 0 rfl))) rfl dt (all_cons (oc (S.rdAt (R:=bB) 0 rfl)) rfl) ?_;intro Ca S;replace S:Sat AC Ca (Box J 26 [AW] :: Own bB [AW] Bh :: Box B9 131 [.string Z,i_ Y.1.1,AF] :: Box Bg 39 [i_ Y.1.1,AF] :: Box b0 77 [u0,i_ Y.2.1,i_ Y.2.2] :: Own R1_ [AJ] ([(⟨#[114]⟩:ByteArray),(⟨#[115]⟩:ByteArray),(⟨#[116]⟩:ByteArray),(⟨#[117]⟩:ByteArray),(⟨#[118]⟩:ByteArray)]:List ByteArray) :: Box AB 26 [n_] :: G0):=S;refine ah (bn Ba (tn A9 ?_));replace S:=S.r3.r2;refine ag (oB F fun A3 BA F=>pe (i_ A3) (aE AP rfl BA) (pm (i_ A3) (en A1 ?_)));replace S:=S.t4.t3.t2.t4.t4;exact ⟨Y.2.1,Y.2.2,AW,Bh,A3,AI,AK,AO,AG,AR,AS,rfl,S,F⟩
 refine cf AT (aG (tx A8 (tx A1 ?_)));replace F:=exB F Bo;refine bS BS (tn BQ (sg fun _ Bi=>sg fun _ Cb=>?_));replace S:=S.r1;refine ag (pM (pt b0 0) AI ?_);replace S:=S.t2;refine oB F fun AX BB F=>?_;refine aU mG (fX ha0 S BB) (ca (ai rfl (ai rfl rfl))) dt ?_;rintro _ Cc ⟨rfl,S⟩;refine ⟨_,rfl,?_⟩;replace S:Sat AC Cc (Box b0 77 [u0,i_ AX.2.1,i_ AX.2.2] :: Own bB [D] AD :: Box J 26 [D] :: Box AB 26 [n_] :: G0):=S;refine en Cb (oF F (fun AY F=>?_) fun AY F=>?_)
 ·refine ct AY ?_;obtain ⟨C,hCd⟩:∃ C:World → Prop,∀ w,C w ↔ ∃ G,Sat AC w ([Box J 26 [D]] ++ G):=⟨_,fun _=>Iff.rfl⟩;refine cr [0,1,2,3,4,5,6] C (by kernel_rfl) ?_;intro CL BC;replace S:=S.ext BC;replace S:=S.t2;have hC:=(hCd _).2 ⟨_,S⟩;refine aP (pt J (0 + 0)) 0 rfl rfl hC (aC rfl (fun w' hw'=>by obtain ⟨_,S⟩:=(hCd _).1 hw'; exact (ae AG))) ?_;refine aP D 1 rfl rfl hC (aC rfl (fun w' hw'=>by obtain ⟨_,S⟩:=(hCd _).1 hw'; exact (ac rfl ((S.boxAt 0 rfl) 0 _ rfl)))) ?_;refine aO 2 rfl ?_;refine pM (pt b0 0) AI (ah ?_);refine ⟨fun _=>hC,?_⟩;refine aO 3 rfl ?_;replace S:=S.t1;refine oB F fun AN BD F=>?_;refine aU dZ (bv ha0 S BD) (ca (ai rfl (ai rfl rfl))) dt ?_;rintro _ Cd ⟨rfl,S⟩;refine ⟨_,rfl,?_⟩;replace S:Sat AC Cd (Box b0 77 [u0,i_ AN.2.1,i_ AN.2.2] :: Box J 26 [D] :: Own bB [D] AD :: Box AB 26 [n_] :: G0):=S;refine ah ?_;replace S:=S.t1;have hC:=(hCd _).2 ⟨_,S⟩;refine ⟨fun _=>hC,?_⟩;refine aO 4 rfl ?_;refine oB F fun CM A5 F=>?_;replace S:=S.t2;refine iV S rfl rfl dt rfl A5 dt ?_;intro Bj Cq CN BE BF Cr;obtain ⟨_,_,rfl,BG,BH⟩:=BF;obtain ⟨rfl,Cs⟩:=BG;obtain ⟨_,_,rfl,BI,BJ⟩:=BH;obtain rfl:=BI;obtain ⟨CO,rfl⟩:=aw BJ;refine ah ?_;refine ⟨fun _=>hC,?_⟩;refine aO 5 rfl ?_;refine pe (pt Bj (AN.1.toNat * 3 + 1)) (ae rfl) (ah ?_);refine ⟨fun _=>hC,?_⟩;refine aO 6 rfl ?_;refine pe (pt Bj (AN.1.toNat * 3 + 1 + 1)) (ae rfl) (ah ?_);refine ⟨fun _=>hC,?_⟩;refine aO 7 rfl ?_;refine oB F fun Ce BK F=>?_;have Bk:Value.oneCell' n_=true:=rfl;replace S:=S.nil R0_ 28;refine pg (m:=3) (j:=2) BE S A5 BK rfl rfl (by omega) rfl (aM rfl Bk) (rD (rD (rR _ _) (by rfl)) (by rfl)) ?_;intro CP S;refine ah ?_;refine ⟨fun h=>(nomatch (show false=true from h)),?_⟩;refine bI (by kernel_rfl) ?_;refine tn Bi (sR fun _ Cf=>pe (.agg #[D]) (ax (cs:=[D]) AG rfl (aB (S.boxAt 1 rfl))) ?_);refine aq (S.top 3 rfl) AK [D] rfl rfl dt (all_cons (oc (S.rdAt (R:=bB) 0 rfl)) rfl) ?_;intro Bl S;replace S:Sat AC Bl (Box AB 26 [D] :: Own bB [D] Ce :: Box J 26 [D] :: Box b0 77 [u0,i_ AN.2.1,i_ AN.2.2] :: G0):=S;refine en Cf (aj ?_);refine ee (cs:=[D]) rfl AK rfl (aB (S.boxAt 0 rfl))  ?_;replace S:=S.t3.t2;have hr:=oI F;replace S:=S.r3.r2;exact ⟨D,(cR hr fun r=>.agg #[D] :),Eq.mp (congrArg (fun (r:T7_ × Int × Int)=>Sat AC Bl (Own bB [D] r.1 :: Box b0 77 [u0,i_ r.2.1,i_ r.2.2] :: G0)) hr :) S⟩
 refine cf AY (sn Bi (sR fun _ Cg=>pe (.agg #[D]) (ax (cs:=[D]) AG rfl (aB (S.boxAt 2 rfl))) ?_));refine aq (S.top 3 rfl) AK [D] rfl rfl dt (all_cons (oc (S.rdAt (R:=bB) 1 rfl)) rfl) ?_;intro Bm S;replace S:Sat AC Bm (Box AB 26 [D] :: Box b0 77 [u0,i_ AX.2.1,i_ AX.2.2] :: Own bB [D] AD :: Box J 26 [D] :: G0):=S;refine en Cg (aj ?_);refine ee (cs:=[D]) rfl AK rfl (aB (S.boxAt 0 rfl))  ?_;replace S:=S.t1.t2;have hr:=oI F;replace S:=S.r3.r2;exact ⟨D,(cR hr fun r=>.agg #[D] :),Eq.mp (congrArg (fun (r:T7_ × Int × Int)=>Sat AC Bm (Own bB [D] r.1 :: Box b0 77 [u0,i_ r.2.1,i_ r.2.2] :: G0)) hr :) S⟩
theorem fY {w0:World} {u0:Value} {a0:List Int} {a1:Int} (ha0:R0_.rd w0 [u0] a0) {N:Nat} {r:Int} (F:eW N a0 a1=some r): Calls Tryz.prog 68 #[u0,i_ a1] w0 fun e w'=>e=.returned (i_ r)∧Ext w0 w' := by
 unfold eW at F;refine aK Tryz.func68 rfl rfl dt ?_;have S:=Sat.start w0;refine sR fun _ AQ=>pa (i_ 0) (en AQ (sg fun _ AF=>sR fun _ AR=>pa (i_ 0) (en AR (bg fun _ AG=>?_))));obtain ⟨AS,hL,AD⟩:=ob F;refine aH (fun k e w=>∃ (D:Int),e 0=u0∧e 1=i_ a1∧e 5=i_ D∧Sat w0 w []∧iQ N k a0 a1 D=some AS) N ?_ ?_ ?_
 ·exact ⟨0,rfl,rfl,rfl,S,hL⟩
 ·rintro e w ⟨_,_,_,_,_,hz⟩; exact nn hz
 rintro k AY AZ ⟨D,U,AE,J,S,F⟩;refine gn fun _ AB=>sg fun _ AH=>sR fun _ AT=>pM (i_ D) J (pM u0 U (pe (i_ (a0.length:Int)) (au rfl ha0) (pe (.bool (decide (D < (a0.length:Int)))) (aL rfl rfl) (en AT (oF F (fun Y F=>?_) fun Y F=>?_)))))
 ·refine ct Y (sn AH (sg fun _ AI=>bg fun _ AJ=>sR fun _ AU=>pM u0 U (pM (i_ D) J (oB F fun AK AM F=>?_))));refine aI (wA:=w0) rfl ha0 rfl dt rfl AM dt ?_;intro A0 AX A1 AN AO;obtain rfl:=AN;refine pe (i_ AK) (ac rfl ((ak S.below AO) 0 _ rfl)) (pM (i_ a1) AE (pe (.bool (AK == a1)) (bu rfl rfl) (en AU (oF F (fun Z F=>?_) fun Z F=>?_))))
  ·refine ct Z (sR fun _ AV=>pM (i_ D) J (pa (i_ D) (en AV (aj (br AJ (tr AI (tr AB (br AG (tr AF ?_)))))))));replace F:=exL F AD;refine aJ rfl rfl ?_;exact rI F S
  refine cf Z (aT (bn AJ (tn AI (ag (pM (i_ D) J (oB F fun AC AP F=>pe (i_ AC) (aE rfl rfl AP) (pa (i_ AC) (en AB ?_))))))));replace S:=S.keep 0;exact ⟨AC,U,AE,rfl,S,F⟩
 refine cf Y (aG (tx AH (tx AB ?_)));replace F:=exA F AD;refine bS AG (tn AF (sR fun _ AW=>pa (i_ (-1)) (en AW (aj (aJ rfl rfl ?_)))));exact rI F S
theorem lr {w0:World} {a0:ByteArray} (_:a0.size ≤ 9223372036854775807) {N:Nat} {r:Bool} (F:f6 N a0=some r): Calls Tryz.prog 111 #[.string a0] w0 fun e w'=>e=.returned (.bool r)∧Ext w0 w' := by
 unfold f6 at F;refine aK Tryz.func111 rfl rfl dt ?_;have S:=Sat.start w0;refine sR fun _ AS=>pa (.bool false) (en AS (sg fun _ AE=>sR fun _ AT=>pa (i_ 0) (en AT (bg fun _ AF=>?_))));obtain ⟨AU,hL,Z⟩:=ob F;refine aH (fun k e w=>∃ (J:Int),e 0=.string a0∧e 3=i_ J∧Sat w0 w []∧eM N k a0 J=some AU) N ?_ ?_ ?_
 ·exact ⟨0,rfl,rfl,S,hL⟩
 ·rintro e w ⟨_,_,_,_,hz⟩; exact nn hz
 rintro k A1 A2 ⟨J,U,Y,S,F⟩;refine gn fun _ AB=>sg fun _ AM=>sR fun _ AV=>pM (i_ J) Y (pM (.string a0) U (pe (i_ (a0.size:Int)) (kC Tryz.underlying9 rfl) (pe (.bool (decide (J < (a0.size:Int)))) (aL rfl rfl) (en AV (oF F (fun AC F=>?_) fun AC F=>?_)))))
 ·refine ct AC (sn AM (sg fun _ AG=>bg fun _ AH=>sR fun _ AN=>pM (.string a0) U (pM (i_ J) Y (oB F fun AI AO F=>pe (.int .u8 AI) (rf Tryz.underlying9 rfl rfl AO) (pe (.bool (decide (AI < 97))) (aL rfl rfl) (pm (.bool (decide (AI < 97))) (oF F (fun D F=>?_) fun D F=>?_)))))))
  ·refine eo D (eo D (eo D (eo D (pe (.bool true) (av rfl D rfl) (en AN (ct rfl (sR fun _ AW=>pa (.bool false) (en AW (aj (br AH (tr AG (tr AB (br AF (tr AE ?_))))))))))))));replace F:=exL F Z;refine aJ rfl rfl ?_;exact rB F S
  refine ei D (pM (.string a0) U (ei D (pM (i_ J) Y (ei D (oB F fun AJ AP F=>pe (.int .u8 AJ) (rf Tryz.underlying9 rfl rfl AP) (ei D (pe (.bool (decide (122 < AJ))) (bq rfl rfl) (pe (.bool (decide (122 < AJ))) (aA rfl D rfl) (en AN (oF F (fun AD F=>?_) fun AD F=>?_))))))))))
  ·refine ct AD (sR fun _ AX=>pa (.bool false) (en AX (aj (br AH (tr AG (tr AB (br AF (tr AE ?_))))))));replace F:=exL F Z;refine aJ rfl rfl ?_;exact rB F S
  refine cf AD (aT (bn AH (tn AG (ag (pM (i_ J) Y (oB F fun AK AQ F=>pe (i_ AK) (aE rfl rfl AQ) (pa (i_ AK) (en AB ?_))))))));replace S:=S.keep 0;exact ⟨AK,U,rfl,S,F⟩
 refine cf AC (aG (tx AM (tx AB ?_)));replace F:=exA F Z;refine bS AF (tn AE (sR fun _ AY=>pM (.string a0) U (pe (i_ (a0.size:Int)) (kC Tryz.underlying9 rfl) (oB F fun AZ AR F=>?_))));refine ec0 ju (d9 AR) (ca (ai rfl (ai rfl (ai rfl rfl)))) S fun A3 A0 S=>?_;refine pa (.bool AZ) (en AY (aj (aJ rfl rfl ?_)));exact rB F S
theorem fv {w0:World} {a0:ByteArray} {u1:Value} {a1:List Int} {a2:Int} (_:a0.size ≤ 9223372036854775807) (ha1:R0_.rd w0 [u1] a1) {N:Nat} {r:Bool} (F:dg N a0 a1 a2=some r): Calls Tryz.prog 112 #[.agg #[.string a0,u1],i_ a2] w0 fun e w'=>e=.returned (.bool r)∧Ext w0 w' := by
 unfold dg at F;refine aK Tryz.func112 rfl rfl dt ?_;have S:=Sat.start w0;refine sR fun _ AR=>?_;refine bo [.string a0,u1] rfl S dt ?_;intro A0 J S AY;refine pa (.bool false) (en AR (sg fun _ AG=>sR fun _ AS=>pa (i_ 0) (en AS (bg fun _ AH=>?_))));obtain ⟨AT,hL,AE⟩:=ob F;refine aH (fun k e w=>∃ (D:Int),e 1=i_ a2∧e 2=pt J 0∧e 5=i_ D∧Sat w0 w [Box J 95 [.string a0,u1]]∧cm N k a2 a0 a1 D=some AT) N ?_ ?_ ?_
 ·exact ⟨0,rfl,rfl,rfl,S,hL⟩
 ·rintro e w ⟨_,_,_,_,_,hz⟩; exact nn hz
 rintro k A1 A2 ⟨D,AF,U,Y,S,F⟩;refine gn fun _ AC=>sg fun _ AI=>sR fun _ AU=>pM (i_ D) Y (pe (pt J (0 + 1)) (ae U) (pe u1 (ac rfl ((S.boxAt 0 rfl) 1 _ rfl)) (pe (i_ (a1.length:Int)) (au rfl ha1) (pe (.bool (decide (D < (a1.length:Int)))) (aL rfl rfl) (en AU (oF F (fun Z F=>?_) fun Z F=>?_))))))
 ·refine ct Z (sn AI (sg fun _ AJ=>bg fun _ AK=>sR fun _ AV=>pe (pt J (0 + 1)) (ae U) (pe u1 (ac rfl ((S.boxAt 0 rfl) 1 _ rfl)) (pM (i_ D) Y (oB F fun AM AN F=>?_)))));refine aI (wA:=w0) rfl ha1 rfl dt rfl AN dt ?_;intro A3 AZ A4 AO AP;obtain rfl:=AO;refine pe (i_ AM) (ac rfl ((ak S.below AP) 0 _ rfl)) (pM (i_ a2) AF (pe (.bool (AM == a2)) (bu rfl rfl) (en AV (oF F (fun AB F=>?_) fun AB F=>?_))))
  ·refine ct AB (sg fun _ AW=>?_);replace S:=S.r0;refine ag (pa (.bool true) (en AW (aj (br AK (tr AJ (tr AC (br AH (tr AG ?_))))))));replace F:=exL F AE;refine aJ rfl rfl ?_;exact rB F S
  refine cf AB (aT (bn AK (tn AJ (ag (pM (i_ D) Y (oB F fun AD AQ F=>pe (i_ AD) (aE rfl rfl AQ) (pa (i_ AD) (en AC ?_))))))));replace S:=S.keep 1;exact ⟨AD,AF,U,rfl,S,F⟩
 refine cf Z (aG (tx AI (tx AC ?_)));replace F:=exA F AE;refine bS AH (tn AG (sg fun _ AX=>?_));replace S:=S.r0;refine ag (pa (.bool false) (en AX (aj (aJ rfl rfl ?_))));exact rB F S
theorem fA {w0:World} {a0:Int} {u1:Value} {a1:List T3_} {u2:Value} {a2:List Int} (ha1:R7_.rd w0 [u1] a1) (ha2:R0_.rd w0 [u2] a2) {N:Nat} {r:Bool} (F:dz N a0 a1 a2=some r): Calls Tryz.prog 84 #[.agg #[i_ a0,u1,u2]] w0 fun e w'=>e=.returned (.bool r)∧Ext w0 w' := by
 unfold dz at F;refine aK Tryz.func84 rfl rfl dt ?_;have S:=Sat.start w0;refine sR fun _ CY=>?_;refine bo [i_ a0,u1,u2] rfl S dt ?_;intro DU J S DH;refine pa (.bool false) (en CY (sg fun _ AU=>sR fun _ Bd=>pe (pt J (0 + 0)) (ae rfl) (pe (i_ a0) (ac rfl ((S.boxAt 0 rfl) 0 _ rfl)) (oB F fun BE B1 F=>?_))));refine ec0 ju (d9 B1) (ca (ai rfl (ai rfl (ai rfl rfl)))) S fun DV DI S=>?_;refine pe (.bool (!BE)) (bb rfl) (pm (.bool (!BE)) (oF F (fun AB F=>?_) fun AB F=>?_))
 ·refine ei (am AB) (pe (pt J (0 + 1)) (ae rfl) (ei (am AB) (pe u1 (ac rfl ((S.boxAt 0 rfl) 1 _ rfl)) (ei (am AB) (pe (i_ (a1.length:Int)) (au rfl ha1) (ei (am AB) (oB F fun Be B2 F=>?_)))))));refine ec0 ju (d9 B2) (ca (ai rfl (ai rfl (ai rfl rfl)))) S fun DW DJ S=>?_;refine ei (am AB) (pe (.bool (!Be)) (bb rfl) (pe (.bool (!Be)) (aA rfl (am AB) rfl) (pm (.bool (!Be)) (oF F (fun Z F=>?_) fun Z F=>?_))))
  ·refine ei (am Z) (pe (pt J (0 + 2)) (ae rfl) (ei (am Z) (pe u2 (ac rfl ((S.boxAt 0 rfl) 2 _ rfl)) (ei (am Z) (pe (i_ (a2.length:Int)) (au rfl ha2) (ei (am Z) (pe (pt J (0 + 0)) (ae rfl) (ei (am Z) (pe (i_ a0) (ac rfl ((S.boxAt 0 rfl) 0 _ rfl)) (ei (am Z) (pe (.bool (decide (a0 < (a2.length:Int)))) (bq rfl rfl) (pe (.bool (decide (a0 < (a2.length:Int)))) (aA rfl (am Z) rfl) (en Bd (oF F (fun AV F=>?_) fun AV F=>?_))))))))))))))
   ·refine ct AV (sg fun _ CZ=>?_);replace S:=S.r0;refine ag (pa (.bool false) (en CZ (aj (tr AU (aJ rfl rfl ?_)))));exact rB F S
   refine cf AV (sn AU (sg fun _ AW=>sR fun _ C0=>pa (i_ 0) (en C0 (bg fun _ AX=>?_))));obtain ⟨C1,hL,AO⟩:=ob F;refine aH (fun k e w=>∃ (AC:Int),e 1=pt J 0∧e 3=i_ AC∧Sat w0 w [Box J 30 [i_ a0,u1,u2]]∧cY N k a0 a1 a2 AC=some C1) N ?_ ?_ ?_
   ·exact ⟨0,rfl,rfl,S,hL⟩
   ·rintro e w ⟨_,_,_,_,hz⟩; exact nn hz
   rintro k DX DY ⟨AC,AJ,AP,S,F⟩;refine gn fun _ AT=>sg fun _ BF=>sR fun _ C2=>pM (i_ AC) AP (pe (pt J (0 + 1)) (ae AJ) (pe u1 (ac rfl ((S.boxAt 0 rfl) 1 _ rfl)) (pe (i_ (a1.length:Int)) (au rfl ha1) (pe (.bool (decide (AC < (a1.length:Int)))) (aL rfl rfl) (en C2 (oF F (fun AY F=>?_) fun AY F=>?_))))))
   ·refine ct AY (sn BF (sg fun _ AZ=>bg fun _ A0=>sg fun _ Bf=>sR fun _ BG=>pe (pt J (0 + 1)) (ae AJ) (pe u1 (ac rfl ((S.boxAt 0 rfl) 1 _ rfl)) (pM (i_ AC) AP (oB F fun C3 B3 F=>?_)))));refine aI (wA:=w0) rfl ha1 rfl dt rfl B3 dt ?_;intro C4 B4 DZ B5 B6;obtain ⟨_,_,rfl,B7,B8⟩:=B5;obtain ⟨rfl,B9⟩:=B7;obtain ⟨D0,rfl⟩:=aw B8;refine pe (pt C4 (B4 + 0)) (ae rfl) (pe (.string C3.1) (ac rfl ((ak S.below B6) 0 _ rfl)) (oB F fun BH Ca F=>?_));refine ec0 vo (lr B9 Ca) (ca (ai rfl rfl)) S fun D1 DK S=>?_;refine pe (.bool (!BH)) (bb rfl) (pm (.bool (!BH)) (oF F (fun U F=>?_) fun U F=>?_))
    ·refine ei (am U) (pe (pt J (0 + 1)) (ae AJ) (ei (am U) (pe u1 (ac rfl ((S.boxAt 0 rfl) 1 _ rfl)) (ei (am U) (pM (i_ AC) AP (ei (am U) (oB F fun C5 Cb F=>?_)))))));refine aI (wA:=w0) rfl ha1 rfl dt rfl Cb dt ?_;intro C6 Cc D2 Cd Ce;obtain ⟨_,_,rfl,Cf,Bw⟩:=Cd;obtain ⟨rfl,DL⟩:=Cf;obtain ⟨C7,rfl⟩:=aw Bw;refine ei (am U) (pe (pt C6 (Cc + 1)) (ae rfl) (ei (am U) (pe C7 (ac rfl ((ak S.below Ce) 1 _ rfl)) (ei (am U) (pe (i_ (C5.2.length:Int)) (au rfl Bw) (ei (am U) (oB F fun BI Cg F=>?_)))))));refine ec0 ju (d9 Cg) (ca (ai rfl (ai rfl (ai rfl rfl)))) S fun D3 DM S=>?_;refine ei (am U) (pe (.bool (!BI)) (bb rfl) (pe (.bool (!BI)) (aA rfl (am U) rfl) (en BG (oF F (fun A1 F=>?_) fun A1 F=>?_))))
     ·refine cf (am A1) (sn Bf (sR fun _ C8=>pa (i_ 0) (en C8 (bg fun _ BJ=>?_))));obtain ⟨C9,hL,Bx⟩:=ob F;refine aH (fun k e w=>∃ (AH:Int),e 1=pt J 0∧e 3=i_ AC∧e 4=i_ AH∧Sat w0 w [Box J 30 [i_ a0,u1,u2]]∧cU N k a0 a1 a2 AC AH=some C9) N ?_ ?_ ?_
      ·exact ⟨0,AJ,AP,rfl,S,hL⟩
      ·rintro e w ⟨_,_,_,_,_,hz⟩; exact nn hz
      rintro k D4 D5 ⟨AH,AK,AQ,A2,S,F⟩;refine gn fun _ Bg=>sg fun _ BK=>sR fun _ Da=>pM (i_ AH) A2 (pe (pt J (0 + 1)) (ae AK) (pe u1 (ac rfl ((S.boxAt 0 rfl) 1 _ rfl)) (pM (i_ AC) AQ (oB F fun BL Ch F=>?_))));refine aI (wA:=w0) rfl ha1 rfl dt rfl Ch dt ?_;intro Db Ci D6 Cj Ck;obtain ⟨_,_,rfl,Cl,By⟩:=Cj;obtain ⟨rfl,DN⟩:=Cl;obtain ⟨Dc,rfl⟩:=aw By;refine pe (pt Db (Ci + 1)) (ae rfl) (pe Dc (ac rfl ((ak S.below Ck) 1 _ rfl)) (pe (i_ (BL.2.length:Int)) (au rfl By) (pe (.bool (decide (AH < (BL.2.length:Int)))) (aL rfl rfl) (en Da (oF F (fun A3 F=>?_) fun A3 F=>?_)))))
      ·refine ct A3 (sn BK (sg fun _ BM=>bg fun _ BN=>sg fun _ Dd=>?_));refine bM (by kernel_rfl) (by kernel_rfl) ?_;refine qe (pt J (0 + 1)) (ae AK) (qe u1 (ac rfl ((S.boxAt 0 rfl) 1 _ rfl)) (qM (i_ AC) AQ (oB F fun D7 Cm F=>?_)));refine aZ (wA:=w0) rfl ha1 rfl dt rfl Cm dt ?_;intro De Cn D8 Co Cp;obtain ⟨_,_,rfl,Cq,Bz⟩:=Co;obtain ⟨rfl,DO⟩:=Cq;obtain ⟨Df,rfl⟩:=aw Bz;refine qe (pt De (Cn + 1)) (ae rfl) (qe Df (ac rfl ((ak S.below Cp) 1 _ rfl)) (qM (i_ AH) A2 (oB F fun Dg Cr F=>?_)));refine aZ (wA:=w0) rfl Bz rfl dt rfl Cr dt ?_;intro D9 DP Ea Cs Ct;obtain rfl:=Cs;refine qe (i_ Dg) (ac rfl ((ak S.below Ct) 0 _ rfl)) (qe (pt J (0 + 0)) (ae AK) (qe (i_ a0) (ac rfl ((S.boxAt 0 rfl) 0 _ rfl)) (oB F fun Dh Cu F=>qe (i_ Dh) (cx rfl rfl Cu) (oB F fun BO Cv F=>?_))));refine cK (.bool BO) ju (fun w' hw'=>d9 Cv) (ca (ai rfl (ai rfl (ai rfl rfl)))) dt ?_;refine qe (.bool (!BO)) (bb rfl) (bc ?_);intro Eb Cw;replace S:=S.ext Cw;refine tn Dd (oF F (fun A4 F=>?_) fun A4 F=>?_)
       ·refine cf (am A4) (aT (bn BN (tn BM (ag (pM (i_ AH) A2 (oB F fun Bh Cx F=>pe (i_ Bh) (aE rfl rfl Cx) (pa (i_ Bh) (en Bg ?_))))))));replace S:=S.keep 1;exact ⟨Bh,AK,AQ,rfl,S,F⟩
       refine ct (an A4) (sg fun _ Di=>?_);replace S:=S.r0;refine ag (pa (.bool false) (en Di (aj (br BN (tr BM (tr Bg (br BJ (br A0 (tr AZ (tr AT (br AX (tr AW ?_))))))))))));replace F:=exL F Bx;replace F:=exL F AO;refine aJ rfl rfl ?_;exact rB F S
      refine cf A3 (aG (tx BK (tx Bg ?_)));replace F:=exA F Bx;refine bS BJ (bn A0 (tn AZ (ag (pM (i_ AC) AQ (oB F fun Bi Cy F=>pe (i_ Bi) (aE rfl rfl Cy) (pa (i_ Bi) (en AT ?_)))))));replace S:=S.keep 1;exact ⟨Bi,AK,rfl,S,F⟩
     refine ct (an A1) (sg fun _ Dj=>?_);replace S:=S.r0;refine ag (pa (.bool false) (en Dj (aj (tr Bf (br A0 (tr AZ (tr AT (br AX (tr AW ?_)))))))));replace F:=exL F AO;refine aJ rfl rfl ?_;exact rB F S
    refine eo (an U) (eo (an U) (eo (an U) (eo (an U) (eo (an U) (eo (an U) (eo (an U) (eo (an U) (eo (an U) (pe (.bool true) (av rfl (an U) rfl) (en BG (ct rfl (sg fun _ Dk=>?_))))))))))));replace S:=S.r0;refine ag (pa (.bool false) (en Dk (aj (tr Bf (br A0 (tr AZ (tr AT (br AX (tr AW ?_)))))))));replace F:=exL F AO;refine aJ rfl rfl ?_;exact rB F S
   refine cf AY (aG (tx BF (tx AT ?_)));replace F:=exA F AO;refine bS AX (tn AW (sg fun _ BP=>sR fun _ Dl=>pa (i_ 0) (en Dl (bg fun _ BQ=>?_))));obtain ⟨Dm,hL,BA⟩:=ob F;refine aH (fun k e w=>∃ (AD:Int),e 1=pt J 0∧e 5=i_ AD∧Sat w0 w [Box J 30 [i_ a0,u1,u2]]∧c4 N k a0 a1 a2 AD=some Dm) N ?_ ?_ ?_
   ·exact ⟨0,AJ,rfl,S,hL⟩
   ·rintro e w ⟨_,_,_,_,hz⟩; exact nn hz
   rintro k Ec Ed ⟨AD,A5,BB,S,F⟩;refine gn fun _ Bj=>sg fun _ BR=>sR fun _ Dn=>pM (i_ AD) BB (pe (pt J (0 + 0)) (ae A5) (pe (i_ a0) (ac rfl ((S.boxAt 0 rfl) 0 _ rfl)) (pe (.bool (decide (AD < a0))) (aL rfl rfl) (en Dn (oF F (fun A6 F=>?_) fun A6 F=>?_)))))
   ·refine ct A6 (sn BR (sg fun _ BS=>bg fun _ BT=>sR fun _ Do=>pa (.bool false) (en Do (sg fun _ Dp=>sR fun _ Dq=>pa (i_ 0) (en Dq (bg fun _ Dr=>?_))))));obtain ⟨Ds,hL,Cz⟩:=ob F;refine aH (fun k e w=>∃ (AI:Bool),∃ (AF:Int),e 1=pt J 0∧e 5=i_ AD∧e 6=.bool AI∧e 7=i_ AF∧Sat w0 w [Box J 30 [i_ a0,u1,u2]]∧cG N k a0 a1 a2 AD AI AF=some Ds) N ?_ ?_ ?_
    ·exact ⟨false,0,A5,BB,rfl,rfl,S,hL⟩
    ·rintro e w ⟨_,_,_,_,_,_,_,hz⟩; exact nn hz
    rintro k Ee Ef ⟨AI,AF,AM,AR,BC,AS,S,F⟩;refine gn fun _ Bk=>sg fun _ BU=>sR fun _ Dt=>pM (i_ AF) AS (pe (pt J (0 + 1)) (ae AM) (pe u1 (ac rfl ((S.boxAt 0 rfl) 1 _ rfl)) (pe (i_ (a1.length:Int)) (au rfl ha1) (pe (.bool (decide (AF < (a1.length:Int)))) (aL rfl rfl) (en Dt (oF F (fun A7 F=>?_) fun A7 F=>?_))))))
    ·refine ct A7 (sn BU (sg fun _ BV=>bg fun _ BW=>ag (pM (.bool AI) BC (pm (.bool AI) (oF F (fun Y F=>?_) fun Y F=>?_)))))
     ·refine eo Y (eo Y (eo Y (eo Y (eo Y (eo Y (eo Y (pe (.bool true) (av rfl Y rfl) (pa (.bool true) (ah (bn BW (tn BV (ag (pM (i_ AF) AS (oB F fun Bl CA F=>pe (i_ Bl) (aE rfl rfl CA) (pa (i_ Bl) (en Bk ?_))))))))))))))));replace S:=S.keep 1;exact ⟨true,Bl,AM,AR,rfl,rfl,S,F⟩
     refine ei Y (pe (pt J (0 + 1)) (ae AM) (ei Y (pe u1 (ac rfl ((S.boxAt 0 rfl) 1 _ rfl)) (ei Y (pM (i_ AF) AS (ei Y (oB F fun BX CB F=>?_)))))));refine aI (wA:=w0) rfl ha1 rfl dt rfl CB dt ?_;intro Eg DQ Eh CC CD;obtain ⟨_,_,rfl,CE,BD⟩:=CC;obtain ⟨rfl,CF⟩:=CE;obtain ⟨BY,rfl⟩:=aw BD;refine ei Y (pe (.agg #[.string BX.1,BY]) (ax (cs:=[.string BX.1,BY]) rfl rfl (ak S.below CD)) (ei Y (pM (i_ AD) AR (ei Y (oB F fun Bm CG F=>?_)))));refine ec0 pN (fv CF (S.up BD) CG) (ca (ai rfl (ai rfl rfl))) S fun Ei DR S=>?_;refine pe (.bool Bm) (aA rfl Y rfl) (pa (.bool Bm) (ah (bn BW (tn BV (ag (pM (i_ AF) AS (oB F fun Bn CH F=>pe (i_ Bn) (aE rfl rfl CH) (pa (i_ Bn) (en Bk ?_)))))))));replace S:=S.keep 1;exact ⟨Bm,Bn,AM,AR,rfl,rfl,S,F⟩
    refine cf A7 (aG (tx BU (tx Bk ?_)));replace F:=exB F Cz;refine bS Dr (tn Dp (sR fun _ Du=>pM (.bool AI) BC (pe (.bool (!AI)) (bb rfl) (en Du (oF F (fun A8 F=>?_) fun A8 F=>?_)))))
    ·refine cf (am A8) (aT (bn BT (tn BS (ag (pM (i_ AD) AR (oB F fun Bo CI F=>pe (i_ Bo) (aE rfl rfl CI) (pa (i_ Bo) (en Bj ?_))))))));replace S:=S.keep 1;exact ⟨Bo,AM,rfl,S,F⟩
    refine ct (an A8) (sg fun _ Dv=>?_);replace S:=S.r0;refine ag (pa (.bool false) (en Dv (aj (br BT (tr BS (tr Bj (br BQ (tr BP ?_))))))));replace F:=exL F BA;refine aJ rfl rfl ?_;exact rB F S
   refine cf A6 (aG (tx BR (tx Bj ?_)));replace F:=exA F BA;refine bS BQ (tn BP (sg fun _ Bp=>sR fun _ Dw=>pa (i_ 0) (en Dw (bg fun _ Bq=>?_))));obtain ⟨Dx,hL,A9⟩:=ob F;refine aH (fun k e w=>∃ (AE:Int),e 1=pt J 0∧e 8=i_ AE∧Sat w0 w [Box J 30 [i_ a0,u1,u2]]∧cV N k a0 a1 a2 AE=some Dx) N ?_ ?_ ?_
   ·exact ⟨0,A5,rfl,S,hL⟩
   ·rintro e w ⟨_,_,_,_,hz⟩; exact nn hz
   rintro k Ej Ek ⟨AE,AG,AN,S,F⟩;refine gn fun _ Ba=>sg fun _ BZ=>sR fun _ Dy=>pM (i_ AE) AN (pe (pt J (0 + 2)) (ae AG) (pe u2 (ac rfl ((S.boxAt 0 rfl) 2 _ rfl)) (pe (i_ (a2.length:Int)) (au rfl ha2) (pe (.bool (decide (AE < (a2.length:Int)))) (aL rfl rfl) (en Dy (oF F (fun Bb F=>?_) fun Bb F=>?_))))))
   ·refine ct Bb (sn BZ (sg fun _ Br=>bg fun _ Bs=>sg fun _ B0=>?_));refine bM (by kernel_rfl) (by kernel_rfl) ?_;refine qe (pt J (0 + 2)) (ae AG) (qe u2 (ac rfl ((S.boxAt 0 rfl) 2 _ rfl)) (qM (i_ AE) AN (oB F fun Dz CJ F=>?_)));refine aZ (wA:=w0) rfl ha2 rfl dt rfl CJ dt ?_;intro El DS Em CK CL;obtain rfl:=CK;refine qe (i_ Dz) (ac rfl ((ak S.below CL) 0 _ rfl)) (qe (pt J (0 + 0)) (ae AG) (qe (i_ a0) (ac rfl ((S.boxAt 0 rfl) 0 _ rfl)) (oB F fun DA CM F=>qe (i_ DA) (cx rfl rfl CM) (oB F fun Bt CN F=>?_))));refine cK (.bool Bt) ju (fun w' hw'=>d9 CN) (ca (ai rfl (ai rfl (ai rfl rfl)))) dt ?_;refine qe (.bool (!Bt)) (bb rfl) (qm (.bool (!Bt)) (oF F (fun D F=>?_) fun D F=>?_))
    ·refine qi (am D) (qe (pt J (0 + 2)) (ae AG) (qi (am D) (qe u2 (ac rfl ((S.boxAt 0 rfl) 2 _ rfl)) (qi (am D) (qM (i_ AE) AN (qi (am D) (oB F fun En CO F=>?_)))))));refine tU (wA:=w0) rfl rfl ha2 (.inr ⟨rfl,rfl⟩) (.inl (congrArg some rfl)) CO dt ?_;intro Eo CP;refine qi (am D) (qe (pt J (0 + 2)) (ae AG) (qi (am D) (qe u2 (ac rfl ((S.boxAt 0 rfl) 2 _ rfl)) (qi (am D) (qM (i_ AE) AN (qi (am D) (oB F fun DB CQ F=>?_)))))));refine aZ (wA:=w0) rfl ha2 rfl dt rfl CQ dt ?_;intro Ep DT Er CR CS;obtain rfl:=CR;refine qi (am D) (qe (i_ DB) (ac rfl ((ak S.below CS) 0 _ rfl)) (qi (am D) (oB F fun Bu CT F=>?_)));refine cK (i_ Bu) mN (fun w' hw'=>fY (bF (S.up CP) hw') CT) (ca (ai rfl (ai rfl rfl))) dt ?_;refine qi (am D) (qe (.bool (decide (0 ≤ Bu))) (dU rfl rfl) (qe (.bool (decide (0 ≤ Bu))) (aA rfl (am D) rfl) (bc ?_)));intro Es CU;replace S:=S.ext CU;refine tn B0 (oF F (fun Bc F=>?_) fun Bc F=>?_)
     ·refine ct Bc (sg fun _ DC=>?_);replace S:=S.r0;refine ag (pa (.bool false) (en DC (aj (br Bs (tr Br (tr Ba (br Bq (tr Bp ?_))))))));replace F:=exL F A9;refine aJ rfl rfl ?_;exact rB F S
     refine cf Bc (aT (bn Bs (tn Br (ag (pM (i_ AE) AN (oB F fun Bv CV F=>pe (i_ Bv) (aE rfl rfl CV) (pa (i_ Bv) (en Ba ?_))))))));replace S:=S.keep 1;exact ⟨Bv,AG,rfl,S,F⟩
    refine qo (an D) (qo (an D) (qo (an D) (qo (an D) (qo (an D) (qo (an D) (qo (an D) (qo (an D) (qo (an D) (qo (an D) (qo (an D) (qe (.bool true) (av rfl (an D) rfl) (bc ?_))))))))))));intro Et CX;replace S:=S.ext CX;refine tn B0 (ct rfl (sg fun _ DD=>?_));replace S:=S.r0;refine ag (pa (.bool false) (en DD (aj (br Bs (tr Br (tr Ba (br Bq (tr Bp ?_))))))));replace F:=exL F A9;refine aJ rfl rfl ?_;exact rB F S
   refine cf Bb (aG (tx BZ (tx Ba ?_)));replace F:=exA F A9;refine bS Bq (tn Bp (sg fun _ DE=>?_));replace S:=S.r0;refine ag (pa (.bool true) (en DE (aj (aJ rfl rfl ?_))));exact rB F S
  refine eo (an Z) (eo (an Z) (eo (an Z) (eo (an Z) (eo (an Z) (eo (an Z) (pe (.bool true) (av rfl (an Z) rfl) (en Bd (ct rfl (sg fun _ DF=>?_)))))))));replace S:=S.r0;refine ag (pa (.bool false) (en DF (aj (tr AU (aJ rfl rfl ?_)))));exact rB F S
 refine eo (an AB) (eo (an AB) (eo (an AB) (eo (an AB) (eo (an AB) (pe (.bool true) (av rfl (an AB) rfl) (pm (.bool true) (eo rfl (eo rfl (eo rfl (eo rfl (eo rfl (eo rfl (pe (.bool true) (av rfl rfl rfl) (en Bd (ct rfl (sg fun _ DG=>?_))))))))))))))));replace S:=S.r0;refine ag (pa (.bool false) (en DG (aj (tr AU (aJ rfl rfl ?_)))));exact rB F S
theorem mc {w0:World} {a0:ByteArray} {a1:Int} (ha0:a0.size ≤ 9223372036854775807) {N:Nat} {r:(List ByteArray)} (F:ld N a0 a1=some r): Calls Tryz.prog 119 #[.string a0,.int .u8 a1] w0 fun e w'=>∃ (q0:Value),e=.returned (q0)∧Sat w0 w' [Own R1_ [q0] r] := by
 unfold ld at F;refine aK Tryz.func119 rfl rfl dt ?_;have S:=Sat.start w0;refine sR fun _ A6=>pa n_ (en A6 (sR fun _ A7=>?_));refine aN jj S dt ?_;intro Bl AT S Bi;refine pa AT (en A7 (sR fun _ A8=>pa (i_ 0) (en A8 (sg fun _ A9=>sR fun _ Ba=>pa (i_ 0) (en Ba (bg fun _ Bb=>?_))))));obtain ⟨Bc,hL,AZ⟩:=ob F;refine aH (fun k e w=>∃ (Z:Value),∃ (AB:List ByteArray),∃ (J:Int),∃ (D:Int),e 0=.string a0∧e 1=.int .u8 a1∧e 5=Z∧e 6=i_ J∧e 7=i_ D∧Sat w0 w [Own R1_ [Z] AB]∧kh N k a0 a1 AB J D=some Bc) N ?_ ?_ ?_
 ·exact ⟨AT,[],0,0,rfl,rfl,rfl,rfl,rfl,S,hL⟩
 ·rintro e w ⟨_,_,_,_,_,_,_,_,_,_,hz⟩; exact nn hz
 rintro k Bm Bn ⟨Z,AB,J,D,U,AC,AD,AE,Y,S,F⟩;refine gn fun _ AI=>sg fun _ AU=>sR fun _ Bd=>pM (i_ D) Y (pM (.string a0) U (pe (i_ (a0.size:Int)) (kC Tryz.underlying9 rfl) (pe (.bool (decide (D < (a0.size:Int)))) (aL rfl rfl) (en Bd (oF F (fun AF F=>?_) fun AF F=>?_)))))
 ·refine ct AF (sn AU (sg fun _ AV=>bg fun _ AW=>sR fun _ Be=>pM (.string a0) U (pM (i_ D) Y (oB F fun AX A0 F=>pe (.int .u8 AX) (rf Tryz.underlying9 rfl rfl A0) (pM (.int .u8 a1) AC (pe (.bool (AX == a1)) (bu rfl rfl) (en Be (oF F (fun AG F=>?_) fun AG F=>?_))))))))
  ·refine ct AG (sR fun _ Bf=>pM Z AD (pM (.string a0) U (pM (i_ J) AE (pM (i_ D) Y (oB F fun AJ AP F=>pe (.string AJ) (pu (l:=J) (h:=D) Tryz.underlying9 rfl (.inl (congrArg some rfl)) (.inl (congrArg some rfl)) AP) ?_)))));refine ap [.string AJ] rfl (by rfl) dt rfl dt S dt ?_;intro Bo Bp S Bj;refine oB F fun Bg A1 F=>?_;have AR:=S.boxRow 0 rfl;replace S:=S.t1;replace S:=S.str AJ (qJ ha0 AP);replace S:=S.one;refine az rfl dt rfl dt S rfl rfl rfl (by simp) AR A1 dt ?_;intro Bq AY S;refine pa AY (en Bf ?_);replace S:=S.r1;refine ag (pM (i_ D) Y (oB F fun AK A2 F=>pe (i_ AK) (aE rfl rfl A2) (pa (i_ AK) (ah (bn AW (tn AV (ag (pM (i_ D) Y (oB F fun AM A3 F=>pe (i_ AM) (aE rfl rfl A3) (pa (i_ AM) (en AI ?_)))))))))));replace S:=S.keep 1;exact ⟨AY,Bg,AK,AM,U,AC,rfl,rfl,rfl,S,F⟩
  refine cf AG (aT (bn AW (tn AV (ag (pM (i_ D) Y (oB F fun AN A4 F=>pe (i_ AN) (aE rfl rfl A4) (pa (i_ AN) (en AI ?_))))))));replace S:=S.keep 1;exact ⟨Z,AB,J,AN,U,AC,AD,AE,rfl,S,F⟩
 refine cf AF (aG (tx AU (tx AI ?_)));replace F:=exB F AZ;refine bS Bb (tn A9 (sR fun _ Bh=>pM Z AD (pM (.string a0) U (pM (i_ J) AE (oB F fun AO AQ F=>pe (.string AO) (pu (l:=J) (h:=(a0.size:Int)) Tryz.underlying9 rfl (.inl (congrArg some rfl)) (.inr ⟨rfl,rfl⟩) AQ) ?_)))));refine ap [.string AO] rfl (by rfl) dt rfl dt S dt ?_;intro Br Bs S Bk;refine oB F fun Bt A5 F=>?_;have AS:=S.boxRow 0 rfl;replace S:=S.t1;replace S:=S.str AO (qJ ha0 AQ);replace S:=S.one;refine az rfl dt rfl dt S rfl rfl rfl (by simp) AS A5 dt ?_;intro Bu AH S;refine pa AH (en Bh (aj (aJ rfl rfl ?_)));have hr:=oI F;exact ⟨AH,cR hr fun r=>AH,sP hr (fun r=>[Own R1_ [AH] r]) (S.keep 1)⟩
theorem iX {w0:World} {a0:Int}  {N:Nat} {r:ByteArray} (F:gw N a0=some r): Calls Tryz.prog 121 #[i_ a0] w0 fun e w'=>e=.returned (.string r)∧Ext w0 w'∧r.size ≤ 9223372036854775807 := by
 unfold gw at F;refine aK Tryz.func121 rfl rfl dt ?_;have S:=Sat.start w0;refine sR fun _ AD=>pa (.string ByteArray.empty) (en AD (sg fun _ U=>sR fun _ AE=>pm (i_ a0) (oB F fun AF AB F=>?_)));refine ec0 ju (d9 AB) (ca (ai rfl (ai rfl (ai rfl rfl)))) S fun AJ AI S=>?_;refine pe (.bool (!AF)) (bb rfl) (en AE (oF F (fun D F=>?_) fun D F=>?_))
 ·refine cf (am D) (sn U (sR fun _ AG=>pm (i_ a0) (pm (i_ a0) (oB F fun Y AC F=>pe (i_ Y) (aE rfl rfl AC) (oB F fun Z J F=>pe (.string Z) (pu (l:=a0) (h:=Y) Tryz.underlying9 rfl (.inl (congrArg some rfl)) (.inl (congrArg some rfl)) J) (pa (.string Z) (en AG (aj (aJ rfl rfl ?_)))))))));have hr:=oI F;exact ⟨cR hr fun r=>.string r,S.below,Eq.mp (congrArg (fun (r:ByteArray)=>r.size ≤ 9223372036854775807) hr :) (qJ dt J)⟩
 refine ct (an D) (sR fun _ AH=>pa (.string ByteArray.empty) (en AH (aj (tr U (aJ rfl rfl ?_)))));have hr:=oI F;exact ⟨cR hr fun r=>.string r,S.below,Eq.mp (congrArg (fun (r:ByteArray)=>r.size ≤ 9223372036854775807) hr :) dt⟩
theorem nA {w0:World} {a0:ByteArray} (_:a0.size ≤ 9223372036854775807) {N:Nat} {r:T0_} (F:lH N a0=some r): Calls Tryz.prog 120 #[.string a0] w0 fun e w'=>∃ (q0:Value),e=.returned (q0)∧Sat w0 w' [Own R0_ [q0] r] := by
 unfold lH at F;refine aK Tryz.func120 rfl rfl dt ?_;have S:=Sat.start w0;refine sR fun _ Bc=>pa n_ (en Bc (sR fun _ Bd=>?_));refine aN bN S dt ?_;intro Bu AS S Bs;refine pa AS (en Bd (sg fun _ Be=>sR fun _ Bf=>pa (i_ 0) (en Bf (bg fun _ Bg=>?_))));obtain ⟨Bh,hL,A2⟩:=ob F;refine aH (fun k e w=>∃ (U:Value),∃ (AE:List Int),∃ (D:Int),e 0=.string a0∧e 3=U∧e 4=i_ D∧Sat w0 w [Own R0_ [U] AE]∧lE N k a0 AE D=some Bh) N ?_ ?_ ?_
 ·exact ⟨AS,[],0,rfl,rfl,rfl,S,hL⟩
 ·rintro e w ⟨_,_,_,_,_,_,_,hz⟩; exact nn hz
 rintro k Bv Bw ⟨U,AE,D,AO,AP,AQ,S,F⟩;refine gn fun _ AT=>sg fun _ AU=>sR fun _ Bi=>pM (i_ D) AQ (pM (.string a0) AO (pe (i_ (a0.size:Int)) (kC Tryz.underlying9 rfl) (pe (.bool (decide (D < (a0.size:Int)))) (aL rfl rfl) (en Bi (oF F (fun AF F=>?_) fun AF F=>?_)))))
 ·refine ct AF (sn AU (sg fun _ Bj=>bg fun _ Bk=>sR fun _ Bl=>pa (i_ 0) (en Bl (bg fun _ Bm=>?_))));obtain ⟨Bn,hL,A3⟩:=ob F;refine aH (fun k e w=>∃ (AB:Value),∃ (AD:List Int),∃ (J:Int),e 0=.string a0∧e 3=AB∧e 4=i_ D∧e 5=i_ J∧Sat w0 w [Own R0_ [AB] AD]∧jL N k a0 AD D J=some Bn) N ?_ ?_ ?_
  ·exact ⟨U,AE,0,AO,AP,AQ,rfl,S,hL⟩
  ·rintro e w ⟨_,_,_,_,_,_,_,_,hz⟩; exact nn hz
  rintro k Bx By ⟨AB,AD,J,AC,AG,Y,Z,S,F⟩;refine gn fun _ AJ=>sg fun _ AV=>sR fun _ Bo=>pM (i_ J) Z (pe (.bool (decide (J < 5))) (aL rfl rfl) (en Bo (oF F (fun AH F=>?_) fun AH F=>?_)))
  ·refine ct AH (sn AV (sg fun _ AW=>bg fun _ AX=>sg fun _ Bp=>?_));refine bM (by kernel_rfl) (by kernel_rfl) ?_;refine qM (i_ J) Z (oB F fun AY A4 F=>?_);refine cK (.string AY) rQ (fun w' hw'=>(iX A4).mono (fun _ _ h=>⟨h.1,h.2.1⟩)) (ca (ai rfl rfl)) dt ?_;refine qM (.string a0) AC (qM (i_ D) Y (qM (i_ D) Y (oB F fun AZ A5 F=>qe (i_ AZ) (aE rfl rfl A5) (oB F fun A0 A6 F=>qe (.string A0) (pu (l:=D) (h:=AZ) Tryz.underlying9 rfl (.inl (congrArg some rfl)) (.inl (congrArg some rfl)) A6) (qe (.bool (eqS AY A0)) (mw rfl rfl) (bc ?_))))));intro Bz A7;replace S:=S.ext A7;refine tn Bp (oF F (fun AI F=>?_) fun AI F=>?_)
   ·refine ct AI (ag (pM AB AG (pM (i_ J) Z ?_)));refine ap [i_ J] rfl (by rfl) dt rfl dt S dt ?_;intro BA BB S Bt;refine oB F fun Bq A8 F=>?_;have AR:=S.boxRow 0 rfl;replace S:=S.t1;replace S:=S.int J;replace S:=S.one;refine az rfl dt rfl dt S rfl rfl rfl (by simp) AR A8 dt ?_;intro BC A1 S;refine pa A1 (ah (bn AX (tn AW ?_)));replace S:=S.r1;refine ag (pM (i_ J) Z (oB F fun AK A9 F=>pe (i_ AK) (aE rfl rfl A9) (pa (i_ AK) (en AJ ?_))));replace S:=S.keep 1;exact ⟨A1,Bq,AK,AC,rfl,Y,rfl,S,F⟩
   refine cf AI (aT (bn AX (tn AW (ag (pM (i_ J) Z (oB F fun AM Ba F=>pe (i_ AM) (aE rfl rfl Ba) (pa (i_ AM) (en AJ ?_))))))));replace S:=S.keep 1;exact ⟨AB,AD,AM,AC,AG,Y,rfl,S,F⟩
  refine cf AH (aG (tx AV (tx AJ ?_)));replace F:=exB F A3;refine bS Bm (bn Bk (tn Bj (ag (pM (i_ D) Y (oB F fun AN Bb F=>pe (i_ AN) (aE rfl rfl Bb) (pa (i_ AN) (en AT ?_)))))));replace S:=S.keep 1;exact ⟨AB,AD,AN,AC,AG,rfl,S,F⟩
 refine cf AF (aG (tx AU (tx AT ?_)));replace F:=exB F A2;refine bS Bg (tn Be (sR fun _ Br=>pM U AP (pa U (en Br (aj (aJ rfl rfl ?_))))));have hr:=oI F;exact ⟨U,cR hr fun r=>U,sP hr (fun r=>[Own R0_ [U] r]) (S.keep 1)⟩
theorem ly {w0:World} {u0:Value} {a0:List Int} (ha0:R0_.rd w0 [u0] a0) {N:Nat} {r:ByteArray} (F:j6 N a0=some r): Calls Tryz.prog 131 #[u0] w0 fun e w'=>e=.returned (.string r)∧Ext w0 w'∧r.size ≤ 9223372036854775807 := by
 unfold j6 at F;refine aK Tryz.func131 rfl rfl dt ?_;have S:=Sat.start w0;refine sR fun _ AR=>pa (.string ByteArray.empty) (en AR (sR fun _ AS=>pa (.string (⟨#[40]⟩:ByteArray)) (en AS (sg fun _ AT=>sR fun _ AU=>pa (i_ 0) (en AU (bg fun _ AV=>?_))))));obtain ⟨AW,hL,AJ⟩:=ob F;refine aH (fun k e w=>∃ (J:ByteArray),∃ (D:Int),e 0=u0∧e 3=.string J∧e 4=i_ D∧Sat w0 w []∧J.size ≤ 9223372036854775807∧lu N k a0 J D=some AW) N ?_ ?_ ?_
 ·exact ⟨(⟨#[40]⟩:ByteArray),0,rfl,rfl,rfl,S,dt,hL⟩
 ·rintro e w ⟨_,_,_,_,_,_,_,hz⟩; exact nn hz
 rintro k A5 A6 ⟨J,D,U,AD,Y,S,A2,F⟩;refine gn fun _ AG=>sg fun _ AH=>sR fun _ AX=>pM (i_ D) Y (pM u0 U (pe (i_ (a0.length:Int)) (au rfl ha0) (pe (.bool (decide (D < (a0.length:Int)))) (aL rfl rfl) (en AX (oF F (fun Z F=>?_) fun Z F=>?_)))))
 ·refine ct Z (sn AH (sg fun _ AY=>bg fun _ AZ=>ag (pM (.string J) AD (pM u0 U (pM (i_ D) Y (oB F fun A0 AK F=>?_))))));refine aI (wA:=w0) rfl ha0 rfl dt rfl AK dt ?_;intro A7 A3 A8 AM AN;obtain rfl:=AM;refine pe (i_ A0) (ac rfl ((ak S.below AN) 0 _ rfl)) (oB F fun A9 AO F=>?_);refine aU rQ (iX AO) (ca (ai rfl rfl)) dt ?_;rintro _ Ba ⟨rfl,AP,A4⟩;refine ⟨_,rfl,?_⟩;replace S:=S.ext AP;refine oB F fun AB AE F=>pe (.string AB) (kH rfl rfl AE) (pa (.string AB) (ah (bn AZ (tn AY (ag (pM (i_ D) Y (oB F fun AC AQ F=>pe (i_ AC) (aE rfl rfl AQ) (pa (i_ AC) (en AG ?_)))))))));replace S:=S.keep 0;exact ⟨AB,AC,U,rfl,rfl,S,(l0 AE),F⟩
 refine cf Z (aG (tx AH (tx AG ?_)));replace F:=exB F AJ;refine bS AV (tn AT (sR fun _ A1=>pM (.string J) AD (oB F fun AI AF F=>pe (.string AI) (kH rfl rfl AF) (pa (.string AI) (en A1 (aj (aJ rfl rfl ?_)))))));have hr:=oI F;exact ⟨cR hr fun r=>.string r,S.below,Eq.mp (congrArg (fun (r:ByteArray)=>r.size ≤ 9223372036854775807) hr :) (l0 AF)⟩
end
end Go.Proofs.YtnipkopfefkojaaGreat
