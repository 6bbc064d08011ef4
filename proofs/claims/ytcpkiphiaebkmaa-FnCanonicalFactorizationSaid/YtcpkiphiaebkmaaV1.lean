/- Plain laws: drawing numbers out of a code. -/
import Derived.Test.YtcpkiphiaebkmaaV0
namespace Go.Proofs.Ytcpkiphiaebkmaa
open Go.RowKit

theorem iF (a:Int) {m:Nat} (hm:m≤4611686018427387904):0≤cE a (m:Int)∧cE a (m:Int)≤(m:Int):=by
 have h1:(BitVec.ofInt IntKind.i64.bits a &&& BitVec.ofInt IntKind.i64.bits (m:Int)).toNat≤m:=by
  rw [BitVec.toNat_and]
  refine Nat.le_trans Nat.and_le_right ?_
  rw [BitVec.toNat_ofInt]
  have:IntKind.i64.bits=64:=rfl
  rw [this]
  omega
 unfold cE
 rw [eg (fX (by omega) (by omega))]
 omega
theorem kr (a:Int) {b:Nat}:∃ v,sr a (b:Int)=some v:=by unfold sr;rw [if_pos (by omega)];exact ⟨_,rfl⟩
abbrev eb (a:List Int):Prop:=a.length≤1048576∧∀ v∈a,0≤v∧v≤255
def dl (a:List Int) (p:Int):Prop:=0≤p∧p≤(a.length:Int)
section
variable {N:Nat}
theorem mB (a:List Int) (ha:eb a):∀ (m i k:Nat) (h:Int),i+m=4000→m<k→0≤h→h≤1073741823→∃ v,cP N k a h (i:Int)=some v:=by
 intro m
 induction m with
 | zero =>
  intro i k h hi hk _ _
  obtain ⟨k,rfl⟩:∃ g,k=g+1:=⟨k-1,by omega⟩
  rw [cP,decide_eq_false (show ¬ (i:Int)<4000 by omega)]
  cases decide ((i:Int)<(a.length:Int)) <;> exact ⟨_,rfl⟩
 | succ m ih =>
  intro i k h hi hk h0 h1
  obtain ⟨k,rfl⟩:∃ g,k=g+1:=⟨k-1,by omega⟩
  rw [cP]
  by_cases hl:i<a.length
  ·have hb:=ha.2 _ (List.getElem_mem hl)
   rw [dlt hl,cond_true,decide_eq_true (show (i:Int)<4000 by omega),cond_true,jd (by omega) (by omega),bs,aU hl,bs,eg (fX (by omega) (by omega)),et (by omega) (by omega),bs,et (by omega) (by omega),bs,ad1 (by omega),bs]
   have hi':=iF (h*131+a[i]+7) (m:=1073741823) (by decide)
   exact ih (i+1) k _ (by omega) (by omega) hi'.1 hi'.2
  ·rw [dge hl,cond_false];exact ⟨_,rfl⟩
theorem kB (hN:1073741824≤N) {a:List Int} (ha:eb a):∃ h,eq N a=some (0,h):=by
 have hl:=ha.1
 obtain ⟨v,hv⟩:=mB (N:=N) a ha 4000 0 N (10101+(a.length:Int)) (by omega) (by omega) (by omega) (by omega)
 unfold eq
 rw [et (by omega) (by omega),bs]
 have hv':cP N N a (10101+(a.length:Int)) 0=some v:=hv
 rw [hv',bs]
 exact ⟨_,rfl⟩
theorem dY {a:List Int} (ha:eb a) {p h:Int} (hc:dl a p):∃ x q g,cH N a p h=some (x,q,g)∧0≤x∧x≤255∧dl a q:=by
 have hl:=ha.1
 have h0:=hc.1;have h1:=hc.2
 unfold cH
 obtain ⟨x1,e1⟩:=kr (IntKind.i64.wrap ((IntKind.i64.wrap (h*6364136223846793005))+1442695040888963407)) (b:=33)
 obtain ⟨x2,e2⟩:=kr (IntKind.i64.wrap ((IntKind.i64.wrap (h*6364136223846793005))+1442695040888963407)) (b:=45)
 have e1':sr (IntKind.i64.wrap ((IntKind.i64.wrap (h*6364136223846793005))+1442695040888963407)) 33=some x1:=e1
 have e2':sr (IntKind.i64.wrap ((IntKind.i64.wrap (h*6364136223846793005))+1442695040888963407)) 45=some x2:=e2
 rw [e1',bs,e2',bs]
 by_cases hp:p<(a.length:Int)
 ·rw [decide_eq_true hp,cond_true,gw h0 hp,bs]
  have hb:=iF (IntKind.i64.wrap ((cE (dH x1 x2) 255)+(IntKind.i64.wrap a[p.toNat]))) (m:=255) (by decide)
  refine ⟨_,_,_,rfl,hb.1,hb.2,?_⟩
  rw [eg (fX (by omega) (by omega))]
  exact ⟨by omega,by omega⟩
 ·rw [decide_eq_false hp,cond_false]
  have hb:=iF (dH x1 x2) (m:=255) (by decide)
  exact ⟨_,_,_,rfl,hb.1,hb.2,hc⟩
theorem dm {a:List Int} (ha:eb a) {p h n:Int} (hc:dl a p):∃ x q g,cb N a p h n=some (x,q,g)∧0≤x∧(0<n→x<n)∧(n≤0→x=0)∧dl a q:=by
 unfold cb
 by_cases h0:n≤0
 ·rw [decide_eq_true h0,cond_true]
  exact ⟨_,_,_,rfl,Int.le_refl _,fun h=>by omega,fun _=>rfl,hc⟩
 ·rw [decide_eq_false h0,cond_false]
  by_cases h1:n≤256
  ·obtain ⟨x,q,g,e,b0,b1,hc'⟩:=dY (N:=N) ha (h:=h) hc
   rw [decide_eq_true h1,cond_true,e,bs,mw (by omega),bs]
   have:=kn b0 (show 0<n by omega)
   exact ⟨_,_,_,rfl,this.1,fun _=>this.2,fun h=>by omega,hc'⟩
  ·rw [decide_eq_false h1,cond_false]
   obtain ⟨x,q,g,e,b0,b1,hc1⟩:=dY (N:=N) ha (h:=h) hc
   rw [e,bs]
   obtain ⟨y,q2,g2,e2,c0,c1,hc2⟩:=dY (N:=N) ha (h:=g) hc1
   dsimp only
   rw [e2,bs]
   obtain ⟨z,q3,g3,e3,d0,d1,hc3⟩:=dY (N:=N) ha (h:=g2) hc2
   dsimp only
   rw [e3,bs]
   obtain ⟨w,q4,g4,e4,f0,f1,hc4⟩:=dY (N:=N) ha (h:=g3) hc3
   dsimp only
   rw [e4,bs]
   dsimp only
   rw [jd (by omega) (by omega),bs,jd (by omega) (by omega),bs,et (by omega) (by omega),bs,jd (by omega) (by omega),bs,et (by omega) (by omega),bs,et (by omega) (by omega),bs,mw (by omega),bs]
   have:=kn (show 0≤x*16777216+y*65536+z*256+w by omega) (show 0<n by omega)
   exact ⟨_,_,_,rfl,this.1,fun _=>this.2,fun h=>by omega,hc4⟩
theorem f4 {a l:List Int} (ha:eb a) {p h:Int} (hc:dl a p) (hl:0<l.length):∃ x q g,cS N a p h l=some (x,q,g)∧x∈l∧dl a q:=by
 obtain ⟨x,q,g,e,b0,b1,_,hc'⟩:=dm (N:=N) ha (h:=h) (n:=(l.length:Int)) hc
 have b2:=b1 (by omega)
 unfold cS
 rw [e,bs]
 dsimp only
 rw [gw b0 b2,bs]
 exact ⟨_,_,_,rfl,List.getElem_mem _,hc'⟩
end
end Go.Proofs.Ytcpkiphiaebkmaa
namespace Go.Proofs.Ytcpkiphiaebkmaa
open Go.RowKit

section
variable {N:Nat}
theorem mD {a:List Int} (ha:eb a) {n m:Int} (hm:0<m):∀ (d k:Nat) (acc:List Int) (p h:Int),dl a p→acc.length+d=n.toNat→d<k→n≤1048576→(∀ v∈acc,0≤v∧v<m) →
  ∃ q g row,c8 N k a p h n m acc=some (q,g,row)∧dl a q∧row.length=n.toNat∧∀ v∈row,0≤v∧v<m:=by
 intro d
 induction d with
 | zero =>
  intro k acc p h hc hd hk _ hv
  obtain ⟨k,rfl⟩:∃ g,k=g+1:=⟨k-1,by omega⟩
  rw [c8,decide_eq_false (show ¬ (acc.length:Int)<n by omega),cond_false]
  exact ⟨_,_,_,rfl,hc,by omega,hv⟩
 | succ d ih =>
  intro k acc p h hc hd hk hn hv
  obtain ⟨k,rfl⟩:∃ g,k=g+1:=⟨k-1,by omega⟩
  obtain ⟨x,q,g,e,b0,b1,_,hc'⟩:=dm (N:=N) ha (h:=h) (n:=m) hc
  rw [c8,decide_eq_true (show (acc.length:Int)<n by omega),cond_true,e,bs]
  dsimp only
  rw [da (by decide) (by simp;omega),bs]
  refine ih k _ q g hc' (by simp;omega) (by omega) hn fun v hv'=>?_
  rcases List.mem_append.1 hv' with h | h
  ·exact hv v h
  ·rw [List.mem_singleton] at h;rw [h];exact ⟨b0,b1 hm⟩
theorem ii (hN:1073741824≤N) {a:List Int} (ha:eb a) {p h n m:Int} (hc:dl a p) (hm:0<m) (hn:n≤1048576) :
  ∃ row q g,dU N a p h n m=some (row,q,g)∧dl a q∧row.length=n.toNat∧∀ v∈row,0≤v∧v<m:=by
 obtain ⟨q,g,row,e,h1,h2,h3⟩:=mD (N:=N) ha (n:=n) hm n.toNat N [] p h hc (by simp) (by omega) hn (by simp)
 unfold dU
 rw [e]
 exact ⟨row,q,g,rfl,h1,h2,h3⟩
theorem mC (hN:1073741824≤N) {a:List Int} (ha:eb a) {n m y:Int} {z:a9} (hm:0<m) (hn:n≤1048576):∀ (d k:Nat) (acc:a9) (p h c:Int),dl a p→c.toNat=d→c≤1048576→d<k→acc.length+d≤1048576→(∀ r∈acc,r.length=n.toNat∧∀ v∈r,0≤v∧v<m) →
  ∃ q g rows c',c9 N k a p h n m y z acc c=some (q,g,rows,c')∧dl a q∧rows.length≤acc.length+d∧∀ r∈rows,r.length=n.toNat∧∀ v∈r,0≤v∧v<m:=by
 intro d
 induction d with
 | zero =>
  intro k acc p h c hc hd _ hk hl hv
  obtain ⟨k,rfl⟩:∃ g,k=g+1:=⟨k-1,by omega⟩
  rw [c9,decide_eq_false (show ¬ 0<c by omega),cond_false]
  exact ⟨_,_,_,_,rfl,hc,by omega,hv⟩
 | succ d ih =>
  intro k acc p h c hc hd hcc hk hl hv
  obtain ⟨k,rfl⟩:∃ g,k=g+1:=⟨k-1,by omega⟩
  obtain ⟨row,q,g,e,hc',h2,h3⟩:=ii hN ha (h:=h) (n:=n) hc hm hn
  rw [c9,decide_eq_true (show 0<c by omega),cond_true,e,bs]
  dsimp only
  rw [da (by decide) (by simp;omega),bs,ea (by omega) (by omega),bs]
  obtain ⟨q',g',rows,c',e',k1,k2,k3⟩:=ih k (acc++[row]) q g (c-1) hc' (by omega) (by omega) (by omega) (by simp;omega) fun r hr=>by
   rcases List.mem_append.1 hr with h | h
   ·exact hv r h
   ·rw [List.mem_singleton] at h;rw [h];exact ⟨h2,h3⟩
  exact ⟨q',g',rows,c',e',k1,by simp at k2;omega,k3⟩
theorem kw (hM:1073742848≤N) {a:List Int} (ha:eb a) {p h n m y:Int} (hc:dl a p) (hm:0<m∧m≤100) (hn:0≤n∧n≤5) (hy:0≤y∧y≤100) :
  ∃ rows q g,ep N a p h n y m=some ((n,rows),q,g)∧dl a q∧(rows.length:Int)≤y∧∀ r∈rows,(r.length:Int)=n∧∀ v∈r,0≤v∧v<m:=by
 have hN:1073741824≤N:=by omega
 obtain ⟨x,q,g,e,b0,b1,_,hc'⟩:=dm (N:=N) ha (h:=h) (n:=y+1) hc
 have b1:=b1 (by omega)
 obtain ⟨q',g',rows,c',e',k1,k2,k3⟩:=mC hN ha (n:=n) (m:=m) (y:=0) (z:=[]) hm.1 (by omega) x.toNat N [] q g x hc' rfl (by omega) (by omega) (by simp;omega) (by simp)
 unfold ep
 rw [et (by omega) (by omega),bs,e,bs]
 dsimp only
 rw [e']
 simp only [List.length_nil,Nat.zero_add] at k2
 have hf:∀ r∈rows,(r.length:Int)=n∧aM r=true:=fun r hr=>by
  have:=k3 r hr
  refine ⟨by omega,?_⟩
  unfold aM
  refine List.all_eq_true.2 fun v hv=>?_
  have:=this.2 v hv
  unfold inR
  simp only [Bool.and_eq_true,decide_eq_true_eq]
  omega
 have hok:c4 rows:=⟨by omega,fun r hr=>⟨by have:=(k3 r hr).1;omega,fun _ _=>trivial⟩⟩
 rw [bs]
 unfold lpB
 dsimp only
 rw [gp hM hok,bs,jk hn (by omega) hf]
 have hsl:=eQ 20 rows
 refine ⟨ce 20 rows,q',g',rfl,k1,by omega,fun r hr=>?_⟩
 have hr':=eP 20 rows r hr
 exact ⟨(hf r hr').1,(k3 r hr').2⟩
def iv (r:Int × a9):Prop:=(-1≤r.1∧r.1≤6)∧r.2.length≤7∧∀ w∈r.2,w.length≤6∧∀ v∈w,-1≤v∧v≤100
theorem h8 (hM:1073742848≤N) {a:List Int} (ha:eb a) {p h:Int} (hc:dl a p):∃ r q g,dR N a p h=some (r,q,g)∧dl a q∧iv r:=by
 have hN:1073741824≤N:=by omega
 obtain ⟨n,q,g,e,b0,b1,_,hc1⟩:=dm (N:=N) ha (h:=h) (n:=4) hc
 have b1:=b1 (by decide)
 obtain ⟨rows,q2,g2,e2,hc2,hl,hr⟩:=kw hM ha (h:=g) (n:=n) (m:=4) (y:=6) hc1 (by decide) (by omega) (by decide)
 obtain ⟨s,q3,g3,e3,_,_,_,hc3⟩:=dm (N:=N) ha (h:=g2) (n:=14) hc2
 have hsm:∀ w∈rows,w.length≤6∧∀ v∈w,-1≤v∧v≤100:=fun w hw=>by
  have:=hr w hw
  exact ⟨by omega,fun v hv=>by have:=this.2 v hv;omega⟩
 have base:iv (n,rows):=⟨⟨by show -1≤n;omega,by show n≤6;omega⟩,by show rows.length≤7;omega,hsm⟩
 unfold dR
 rw [e,bs]
 dsimp only
 rw [e2,bs]
 dsimp only
 rw [e3,bs]
 dsimp only
 cases h0:(s == 0)
 ·rw [cond_false]
  cases h1:(s == 1)
  ·rw [cond_false]
   cases h2:(s == 2)
   ·exact ⟨_,_,_,rfl,hc3,base⟩
   ·rw [cond_true]
    by_cases hp:0<rows.length
    ·rw [decide_eq_true (show (0:Int)<(rows.length:Int) by omega),cond_true]
     by_cases hn:0<n
     ·have hm0:=hr _ (List.getElem_mem hp)
      have hm1:=hsm _ (List.getElem_mem hp)
      have hp0:0<rows[0].length:=by omega
      obtain ⟨x,q4,g4,e4,hx,hc4⟩:=f4 (N:=N) ha (h:=g3) hc3 (l:=[(-1),100,99]) (by decide)
      have i0:ix rows 0=some rows[0]:=aU hp
      have i1:ix rows[0] 0=some rows[0][0]:=aU hp0
      have s1:sto rows[0] 0 x=some (rows[0].set 0 x):=fR hp0
      have s2:sto rows 0 (rows[0].set 0 x)=some (rows.set 0 (rows[0].set 0 x)):=fR hp
      have hxb:-1≤x∧x≤100:=by
       simp only [List.mem_cons,List.not_mem_nil,or_false] at hx
       omega
      rw [decide_eq_true hn,cond_true,i0,bs,e4,bs,i1,bs,s1,bs,s2,bs]
      refine ⟨_,_,_,rfl,hc4,⟨base.1,by show (rows.set 0 _).length≤7;rw [List.length_set];omega,fun w hw=>?_⟩⟩
      rcases List.mem_or_eq_of_mem_set hw with h | h
      ·exact hsm w h
      ·subst h
       refine ⟨by rw [List.length_set];exact hm1.1,fun v hv=>?_⟩
       rcases List.mem_or_eq_of_mem_set hv with h | h
       ·exact hm1.2 v h
       ·rw [h];exact hxb
     ·rw [decide_eq_false hn,cond_false]
      exact ⟨_,_,_,rfl,hc3,base⟩
    ·rw [decide_eq_false (show ¬ (0:Int)<(rows.length:Int) by omega),cond_false]
     exact ⟨_,_,_,rfl,hc3,base⟩
  ·rw [cond_true]
   have hi:imx 0 n=n:=by unfold imx;split <;> omega
   obtain ⟨w,q4,g4,e4,hc4,hw1,hw2⟩:=ii hN ha (h:=g3) (n:=n) (m:=4) hc3 (by decide) (by omega)
   rw [hi,e4,bs]
   dsimp only
   rw [da (by decide) (by simp;omega),bs]
   refine ⟨_,_,_,rfl,hc4,base.1,by show (rows++[w]).length≤7;simp;omega,fun v hv=>?_⟩
   rcases List.mem_append.1 hv with h | h
   ·exact hsm v h
   ·rw [List.mem_singleton] at h;subst h
    exact ⟨by omega,fun v hv=>by have:=hw2 v hv;omega⟩
 ·obtain ⟨x,q4,g4,e4,hx,hc4⟩:=f4 (N:=N) ha (h:=g3) hc3 (l:=[(-1),6,n+1]) (Nat.zero_lt_succ _)
  rw [cond_true,et (by omega) (by omega),bs,e4,bs]
  refine ⟨_,_,_,rfl,hc4,⟨?_,base.2⟩⟩
  simp only [List.mem_cons,List.not_mem_nil,or_false] at hx
  show -1≤x∧x≤6
  omega
end
end Go.Proofs.Ytcpkiphiaebkmaa
namespace Go.Proofs.Ytcpkiphiaebkmaa
open Go.RowKit

def cD (F:Nat→List (List Int)):Nat→List (List Int)
 | 0=>[]
 | j+1=>cD F j++F j
def bh (nodes:List aq):Nat→Int→List Int→List (List Int)
 | 0,_,_=>[]
 | f+1,nd,pre=>if nd=0 then [pre] else
   cD (fun j=>bh nodes f ((nodes.getD nd.toNat ([],[])).2.getD j 0) (pre++[(nodes.getD nd.toNat ([],[])).1.getD j 0])) (nodes.getD nd.toNat ([],[])).1.length
theorem fz {c:List Int}:∀ (l:List Int) (j:Nat),j<l.length→cJ c (l.take (j+1))=cJ c (l.take j)+c.getD (l.getD j 0).toNat 0
 | [],j,h=>by simp at h
 | x :: l,0,h=>by simp [cJ]
 | x :: l,j+1,h=>by
  have:=fz (c:=c) l j (by simpa using h)
  rw [List.take_succ_cons,List.take_succ_cons,cJ,cJ,this,List.getD_cons_succ];omega
theorem d3 {c:List Int} (hc:fC c):∀ (l:List Int),0≤cJ c l
 | []=>by simp [cJ]
 | x :: l=>by
  have:=d3 hc l
  have:=gL hc x.toNat
  unfold cJ;omega
theorem kq {c:List Int} (hc:fC c):∀ (l:List Int) (j:Nat),cJ c (l.take j)≤cJ c l
 | [],j=>by simp
 | x :: l,0=>by have:=d3 hc (x :: l);simpa [cJ] using this
 | x :: l,j+1=>by
  have:=kq hc l j
  rw [List.take_succ_cons,cJ,cJ];omega
theorem k6 {c:List Int} (hc:fC c) (l:List Int):∀ s:Int,0≤s∧s≤1000000000→l.foldl (db c) s<1000000000→l.foldl (db c) s=s+cJ c l:=by
 induction l with
 | nil=>intro s _ _;simp [cJ]
 | cons x l ih =>
  intro s hs h
  rw [List.foldl_cons] at h ⊢
  have hb:=hQ hc (ch:=x) hs
  have hx:=gL hc x.toNat
  have h1:=ih _ hb h
  have h0:=d3 hc l
  have h2:db c s x=s+c.getD x.toNat 0:=by
   have h3:db c s x<1000000000:=by omega
   unfold db at h3 ⊢;rw [ll] at h3 ⊢
   by_cases h4:s+c.getD x.toNat 0<1000000000
   ·rw [if_pos h4]
   ·rw [if_neg h4] at h3;omega
  rw [h1,h2,cJ];omega
def wN (nodes:List aq) (nd:Int):Int:=(cW nodes nodes.length).getD nd.toNat 0
theorem lM {olen:Nat} {nodes:List aq} {far:List Int} (V:VF olen nodes far) {nd:Int} (h:inN nodes nd) (h0:nd≠0) (hw:wN nodes nd<1000000000) :
  cJ (cW nodes nodes.length) (nodes.getD nd.toNat ([],[])).2=wN nodes nd:=by
 have h1:=h.1;have h2:=h.2
 have hi:nd.toNat<nodes.length:=by omega
 unfold wN at hw ⊢
 rw [gh nodes nodes.length nd.toNat (by omega) hi] at hw ⊢
 rw [k6 (dX nodes nd.toNat (by omega)).2 _ 0 (by omega) hw,Int.zero_add]
 exact (ig _ fun j hj=>by
  have:=V.ch hi hj
  exact (jS nodes nodes.length nd.toNat _ (by omega) (by omega) (by omega)).symm).symm
theorem nU (nodes:List aq) (hp:1≤nodes.length) (nd:Int):0≤wN nodes nd∧wN nodes nd≤1000000000:=gL (dX nodes nodes.length hp).2 nd.toNat
theorem iU {olen:Nat} {nodes:List aq} {far:List Int} (V:VF olen nodes far) {nd:Int} (h:inN nodes nd) (h0:nd≠0) (hw:wN nodes nd<1000000000) {j:Nat} (hj:j<(nodes.getD nd.toNat ([],[])).2.length) :
  cJ (cW nodes nodes.length) ((nodes.getD nd.toNat ([],[])).2.take j)+wN nodes ((nodes.getD nd.toNat ([],[])).2.getD j 0)≤wN nodes nd:=by
 have h1:=fz (c:=cW nodes nodes.length) _ j hj
 have h2:=kq (dX nodes nodes.length V.pos).2 (nodes.getD nd.toNat ([],[])).2 (j+1)
 rw [lM V h h0 hw] at h2
 unfold wN;unfold wN at h2;omega
theorem jf {olen:Nat} {nodes:List aq} {far:List Int} (V:VF olen nodes far) {nd:Int} (h:inN nodes nd) {j:Nat} (hj:j<(nodes.getD nd.toNat ([],[])).2.length) :
  inN nodes ((nodes.getD nd.toNat ([],[])).2.getD j 0)∧(nodes.getD nd.toNat ([],[])).2.getD j 0<nd:=by
 have h1:=h.1;have h2:=h.2
 have:=V.ch (i:=nd.toNat) (by omega) hj
 exact ⟨⟨this.1,by omega⟩,by omega⟩
theorem kA {olen:Nat} {nodes:List aq} {far:List Int} (V:VF olen nodes far):∀ (f:Nat) (nd:Int) (pre:List Int),inN nodes nd→nd<f→wN nodes nd<1000000000→((bh nodes f nd pre).length:Int)≤wN nodes nd:=by
 intro f
 induction f with
 | zero=>intro nd pre h hf;have:=h.1;omega
 | succ f ih =>
  intro nd pre h hf hw
  unfold bh
  by_cases h0:nd=0
  ·subst h0
   rw [if_pos rfl];unfold wN;rw [show (0:Int).toNat=0 from rfl,ij nodes _ V.pos];simp
  ·rw [if_neg h0]
   have hl:=V.lens (i:=nd.toNat) (by have:=h.1;have:=h.2;omega)
   have key:∀ m,m≤(nodes.getD nd.toNat ([],[])).1.length→((cD (fun j=>bh nodes f ((nodes.getD nd.toNat ([],[])).2.getD j 0) (pre++[(nodes.getD nd.toNat ([],[])).1.getD j 0])) m).length:Int)≤cJ (cW nodes nodes.length) ((nodes.getD nd.toNat ([],[])).2.take m):=by
    intro m
    induction m with
    | zero=>intro _;simp [cD,cJ]
    | succ m ihm =>
     intro hm
     have h1:=ihm (by omega)
     have hj:m<(nodes.getD nd.toNat ([],[])).2.length:=by omega
     obtain ⟨c1,c2⟩:=jf V h hj
     have h2:=iU V h h0 hw hj
     have h3:=d3 (dX nodes nodes.length V.pos).2 ((nodes.getD nd.toNat ([],[])).2.take m)
     have h4:=ih _ (pre++[(nodes.getD nd.toNat ([],[])).1.getD m 0]) c1 (by omega) (by omega)
     rw [cD,List.length_append,fz _ m hj]
     unfold wN at h4
     omega
   have:=key _ (Nat.le_refl _)
   rw [hl,List.take_length,lM V h h0 hw] at this
   rw [hl];exact this
theorem lS {olen:Nat} {nodes:List aq} {far:List Int} (V:VF olen nodes far) {nd:Int} (h:inN nodes nd) (h0:nd≠0) (hw:wN nodes nd<1000000000) {f:Nat} (hf:nd≤f) (pre:List Int) :
  ∀ m,m≤(nodes.getD nd.toNat ([],[])).1.length→((cD (fun j=>bh nodes f ((nodes.getD nd.toNat ([],[])).2.getD j 0) (pre++[(nodes.getD nd.toNat ([],[])).1.getD j 0])) m).length:Int)≤cJ (cW nodes nodes.length) ((nodes.getD nd.toNat ([],[])).2.take m):=by
 have hl:=V.lens (i:=nd.toNat) (by have:=h.1;have:=h.2;omega)
 intro m
 induction m with
 | zero=>intro _;simp [cD,cJ]
 | succ m ihm =>
  intro hm
  have h1:=ihm (by omega)
  have hj:m<(nodes.getD nd.toNat ([],[])).2.length:=by omega
  obtain ⟨c1,c2⟩:=jf V h hj
  have h2:=iU V h h0 hw hj
  have h3:=d3 (dX nodes nodes.length V.pos).2 ((nodes.getD nd.toNat ([],[])).2.take m)
  have h4:=kA V f _ (pre++[(nodes.getD nd.toNat ([],[])).1.getD m 0]) c1 (by omega) (by omega)
  rw [cD,List.length_append,fz _ m hj]
  unfold wN at h4
  omega
section
variable {N:Nat}
theorem lO {order:List Int} {nodes:List aq} {far:List Int} (V:VF order.length nodes far) (hn:okN nodes):∀ (f:Nat) (nd:Int) (M:Nat) (pre:List Int) (out:List (List Int)),inN nodes nd→nd<f→nd+1048580≤(M:Int)→pre.length+nd≤1048576→out.length+wN nodes nd≤4000 →
  b9 M order nodes nd pre out=some (out++bh nodes f nd pre):=by
 intro f
 induction f with
 | zero=>intro nd M pre out h hf;have:=h.1;omega
 | succ f ih =>
  intro nd M pre out h hf hM hp hw
  have g1:=h.1;have g2:=h.2
  obtain ⟨M,rfl⟩:∃ M',M=M'+1:=⟨M-1,by omega⟩
  have wb:=nU nodes V.pos nd
  rw [b9,bh]
  by_cases h0:nd=0
  ·subst h0
   rw [show ((0:Int) == 0)=true from rfl,cond_true,ci,fS (by decide) (by omega),bs,bs,da (by decide) (by simp;omega),bs,if_pos rfl]
  ·rw [show (nd == 0)=false by simpa using h0,cond_false,if_neg h0,ixN h,bs]
   have hi:nd.toNat<nodes.length:=by omega
   have hl:=V.lens hi
   have hk:=gF hn hi
   rw [← fh hi] at hk
   have hx1:=hk.1.1
   have hwl:wN nodes nd<1000000000:=by omega
   have hup:=lS V h h0 hwl (f:=f) (by omega) pre
   have hpart:=fun j (hj:j<(nodes.getD nd.toNat ([],[])).2.length)=>iU V h h0 hwl hj
   have hch:=fun j (hj:j<(nodes.getD nd.toNat ([],[])).2.length)=>jf V h hj
   generalize hx:nodes.getD nd.toNat ([],[])=x at *
   have hL:=ja (fun k (s:List (List Int)) j=>bV (b9 M) M k pre s order nodes x.1 x.2 x.1 (x.1.length:Int) j) x.1.length (fun j=>out++cD (fun j=>bh nodes f (x.2.getD j 0) (pre++[x.1.getD j 0])) j) (out++cD (fun j=>bh nodes f (x.2.getD j 0) (pre++[x.1.getD j 0])) x.1.length,(x.1.length:Int))
    (fun k j hj=>by
     have hj2:j<x.2.length:=by omega
     have q1:=hup j (by omega)
     have q2:=hpart j hj2
     obtain ⟨q3,q4⟩:=hch j hj2
     show bV (b9 M) M (k+1) pre _ order nodes x.1 x.2 x.1 (x.1.length:Int) (j:Int)=_
     rw [bV,dlt hj,cond_true,aU hj,bs,aU hj2,bs,ci,fS (by decide) (by omega),bs,bs,da (by decide) (by simp;omega),bs,← cL hj2,← cL hj,ih _ M (pre++[x.1.getD j 0]) _ q3 (by omega) (by omega) (by rw [List.length_append,List.length_singleton];omega) (by rw [List.length_append];omega),bs,ad1 (by omega),bs,List.append_assoc]
     rfl)
    (fun k=>by
     show bV (b9 M) M (k+1) pre _ order nodes x.1 x.2 x.1 (x.1.length:Int) (x.1.length:Int)=_
     rw [bV,dge (by omega),cond_false]) M 0 (by omega) (by omega)
   rw [show cD (fun j=>bh nodes f (x.2.getD j 0) (pre++[x.1.getD j 0])) 0=[] from rfl,List.append_nil] at hL
   have hL':bV (b9 M) M M pre out order nodes x.1 x.2 x.1 (x.1.length:Int) 0=_:=hL
   rw [hL',bs,lpB]
def gU (order:List Int) (nodes:List aq):(Int × List (List Int)) × Bool :=
 bif du order nodes&&!decide (4000<dK order nodes) then (((order.length:Int),bh nodes nodes.length ((nodes.length:Int)-1) []),true) else ((0,[]),false)
theorem g6 {order:List Int} {nodes:List aq} (h:du order nodes=true):dK order nodes=wN nodes ((nodes.length:Int)-1):=by
 unfold dK wN
 rw [h,cond_true,show ((nodes.length:Int)-1).toNat=nodes.length-1 by omega]
theorem eR (hN:1073741824≤N) {order:List Int} {nodes:List aq} (ho:okI order) (hn:okN nodes):bN N order nodes=some (gU order nodes):=by
 unfold bN gU
 rw [cC hN ho hn,bs]
 cases hv:du order nodes with
 | false=>rfl
 | true =>
  obtain ⟨far,V⟩:=kI hv
  have hp:=V.pos;have hle:=V.le
  rw [cond_true,eV hN ho hn,bs,Bool.true_and]
  by_cases hc:4000<dK order nodes
  ·rw [decide_eq_true hc];rfl
  ·rw [decide_eq_false hc,cond_false,ea (by omega) (by omega),bs]
   rw [g6 hv] at hc
   rw [lO V hn nodes.length _ N [] [] ⟨by omega,by omega⟩ (by omega) (by omega) (by rw [List.length_nil];omega) (by rw [List.length_nil];omega),bs]
   rfl
end
end Go.Proofs.Ytcpkiphiaebkmaa
namespace Go.Proofs.Ytcpkiphiaebkmaa
open Go.RowKit

def WFn (ns:List aq):Prop:=1≤ns.length∧∀ i,i<ns.length→∀ c∈(ns.getD i ([],[])).2,0≤c∧c<(i:Int)
def cc (a b:List aq):Prop:=∃ t,b=a++t
theorem cc.refl (a:List aq):cc a a:=⟨[],by simp⟩
theorem cc.trans {a b c:List aq} (h:cc a b) (k:cc b c):cc a c:=by
 obtain ⟨t,rfl⟩:=h;obtain ⟨u,rfl⟩:=k;exact ⟨t++u,by simp⟩
theorem cc.get {a b:List aq} (h:cc a b) {i:Nat} (hi:i<a.length):b.getD i ([],[])=a.getD i ([],[]):=by
 obtain ⟨t,rfl⟩:=h
 rw [List.getD_eq_getElem?_getD,List.getD_eq_getElem?_getD,List.getElem?_append_left hi]
theorem cc.len {a b:List aq} (h:cc a b):a.length≤b.length:=by
 obtain ⟨t,rfl⟩:=h;simp
theorem js {ns:List aq} {x:aq} {j:Nat}:∀ f i,eD ns x f i=some j→i≤j∧j<i+f∧ns.getD j ([],[])=x
 | 0,_,h=>by simp [eD] at h
 | f+1,i,h=>by
  unfold eD at h
  split at h
  ·rename_i e
   obtain rfl:=Option.some.inj h
   exact ⟨Nat.le_refl _,by omega,e⟩
  ·have:=js f (i+1) h
   exact ⟨by omega,by omega,this.2.2⟩
theorem iK {ns:List aq} {x:aq} (hw:WFn ns) (hx:∀ c∈x.2,0≤c∧c<(ns.length:Int)) :
  WFn (cU ns x).2∧cc ns (cU ns x).2∧∃ k:Nat,(cU ns x).1=(k:Int)∧1≤k∧k<(cU ns x).2.length∧(cU ns x).2.getD k ([],[])=x∧∀ i,ns.length≤i→i<(cU ns x).2.length→i=k:=by
 unfold cU
 split
 ·rename_i i e
  have:=js _ _ e
  exact ⟨hw,cc.refl _,i,rfl,by omega,by show i<ns.length;omega,this.2.2,fun j h1 h2=>absurd h2 (by show ¬ j<ns.length;omega)⟩
 ·have hg:(ns++[x]).getD ns.length ([],[])=x:=by simp
  refine ⟨⟨by simp,fun i hi c hc=>?_⟩,⟨[x],rfl⟩,ns.length,rfl,hw.1,by simp,hg,fun j h1 h2=>by simp at h2;omega⟩
  simp only [List.length_append,List.length_singleton] at hi
  by_cases h:i<ns.length
  ·rw [cc.get ⟨[x],rfl⟩ h] at hc
   exact hw.2 i h c hc
  ·have e:i=ns.length:=by omega
   subst e
   rw [hg] at hc
   exact hx c hc
def lU (ns:List aq) (nd:Int) (pre:List Int) (rs:List (List Int)):Prop :=
 (0≤nd∧nd<(ns.length:Int))∧∀ ns',cc ns ns'→∀ f:Nat,nd<(f:Int)→bh ns' f nd pre=rs
theorem e8 {F G:Nat→List (List Int)}:∀ n,(∀ j,j<n→F j=G j)→cD F n=cD G n
 | 0,_=>rfl
 | n+1,h=>by unfold cD;rw [e8 n (fun j hj=>h j (by omega)),h n (by omega)]
theorem gc {ns ns':List aq} (hw:WFn ns) (hp:cc ns ns'):∀ (f:Nat) (nd:Int) (pre:List Int),0≤nd→nd<(ns.length:Int)→bh ns' f nd pre=bh ns f nd pre
 | 0,_,_,_,_=>rfl
 | f+1,nd,pre,h0,h1=>by
  obtain ⟨k,rfl⟩:=Int.eq_ofNat_of_zero_le h0
  rw [bh,bh]
  by_cases hz:(k:Int)=0
  ·rw [if_pos hz,if_pos hz]
  ·have hk:k<ns.length:=by omega
   rw [if_neg hz,if_neg hz,Int.toNat_natCast,hp.get hk]
   refine e8 _ fun j _=>gc hw hp f _ _ ?_ ?_ <;>
   ·by_cases hj:j<(ns.getD k ([],[])).2.length
    ·rw [List.getD_eq_getElem?_getD,List.getElem?_eq_getElem hj,Option.getD_some]
     have:=hw.2 k hk _ (List.getElem_mem hj)
     omega
    ·rw [List.getD_eq_getElem?_getD,List.getElem?_eq_none (by omega),Option.getD_none]
     omega
theorem jB {F:Nat→List (List Int)} {g:List Int→List Int}:∀ n,cD (fun j=>(F j).map g) n=(cD F n).map g
 | 0=>rfl
 | n+1=>by unfold cD;rw [jB n,List.map_append]
theorem h9 (ns:List aq):∀ (f:Nat) (nd:Int) (p q:List Int),bh ns f nd (p++q)=(bh ns f nd q).map (p++·)
 | 0,_,_,_=>rfl
 | f+1,nd,p,q=>by
  rw [bh,bh]
  by_cases hz:nd=0
  ·rw [if_pos hz,if_pos hz];rfl
  ·rw [if_neg hz,if_neg hz,← jB]
   refine e8 _ fun j _=>?_
   rw [List.append_assoc,h9 ns f _ p]
def og (E:Nat) (ns:List aq):Prop:=∀ i:Nat,i<ns.length→∀ f:Nat,i<f→∀ r∈bh ns f (i:Int) [],r.length≤E
def WFd (E:Nat) (ns:List aq):Prop:=WFn ns∧og E ns
theorem g9 {rows:List (List Int)} {d:Nat} {v:Int}:∀ f k j,k≤j→j<dN rows d v f k→(rows.getD j []).getD d 0=v
 | 0,k,j,h1,h2=>by unfold dN at h2;omega
 | f+1,k,j,h1,h2=>by
  unfold dN at h2
  split at h2
  ·rename_i e
   by_cases h:j=k
   ·rw [h];exact e
   ·exact g9 f (k+1) j (by omega) h2
  ·omega
def jP (E:Nat) (rec:List aq→List (List Int)→Int × List aq) (n d:Nat):Prop :=
 ∀ ns rs pre,WFd E ns→rs≠[]→rs.Nodup→(∀ r∈rs,r.length=n∧r.take d=pre)→WFd E (rec ns rs).2∧cc ns (rec ns rs).2∧lU (rec ns rs).2 (rec ns rs).1 pre rs
theorem jn {α:Type} {l t:List α} {j:Nat} {z:α} (h:j<l.length):(l++t).getD j z=l.getD j z:=by
 rw [List.getD_eq_getElem?_getD,List.getD_eq_getElem?_getD,List.getElem?_append_left h]
theorem fA {E:Nat} {rec:List aq→List (List Int)→Int × List aq} {n d:Nat} (hr:jP E rec n (d+1)) (hdn:d<n) {rows:List (List Int)} {pre:List Int} (hnd:rows.Nodup) (hrow:∀ r∈rows,r.length=n∧r.take d=pre) :
  ∀ f ns vals chs i,rows.length-i≤f→i≤rows.length→WFd E ns→vals.length=chs.length→(∀ c∈chs,0≤c∧c<(ns.length:Int)) →
   (∀ ns',cc ns ns'→∀ g:Nat,(∀ c∈chs,c<(g:Int))→cD (fun j=>bh ns' g (chs.getD j 0) (pre++[vals.getD j 0])) vals.length=rows.take i) →
   WFd E (bl rec rows d f ns vals chs i).1∧cc ns (bl rec rows d f ns vals chs i).1∧(bl rec rows d f ns vals chs i).2.1.length=(bl rec rows d f ns vals chs i).2.2.length ∧
   (∀ c∈(bl rec rows d f ns vals chs i).2.2,0≤c∧c<((bl rec rows d f ns vals chs i).1.length:Int)) ∧
   ∀ ns',cc (bl rec rows d f ns vals chs i).1 ns'→∀ g:Nat,(∀ c∈(bl rec rows d f ns vals chs i).2.2,c<(g:Int)) →
    cD (fun j=>bh ns' g ((bl rec rows d f ns vals chs i).2.2.getD j 0) (pre++[(bl rec rows d f ns vals chs i).2.1.getD j 0])) (bl rec rows d f ns vals chs i).2.1.length=rows
 | 0,ns,vals,chs,i,hf,hi,hw,hl,hc,hu=>by
  have e:rows.take i=rows:=List.take_of_length_le (by omega)
  unfold bl
  exact ⟨hw,cc.refl _,hl,hc,fun ns' h g hg=>(hu ns' h g hg).trans e⟩
 | f+1,ns,vals,chs,i,hf,hi,hw,hl,hc,hu=>by
  unfold bl
  split
  ·rename_i hlt
   have hb:=fg (d:=d) hlt
   have hgm:∀ r∈(rows.take (cn rows d i)).drop i,r.length=n∧r.take (d+1)=pre++[(rows.getD i []).getD d 0]:=fun r hm=>by
    obtain ⟨j,hj,rfl⟩:=List.getElem_of_mem hm
    rw [List.getElem_drop,List.getElem_take]
    rw [List.length_drop,List.length_take] at hj
    have h0:=hrow _ (List.getElem_mem (show i+j<rows.length by omega))
    have hv:=g9 (rows:=rows) (d:=d) (v:=(rows.getD i []).getD d 0) (rows.length-i) i (i+j) (by omega) (by show i+j<cn rows d i;omega)
    rw [List.getD_eq_getElem?_getD (l:=rows),List.getElem?_eq_getElem (show i+j<rows.length by omega),Option.getD_some] at hv
    refine ⟨h0.1,?_⟩
    have hdl:d<(rows[i+j]'(by omega)).length:=by omega
    rw [List.take_succ_eq_append_getElem hdl,h0.2]
    rw [List.getD_eq_getElem?_getD (l:=rows[i+j]'(by omega)),List.getElem?_eq_getElem hdl,Option.getD_some] at hv
    rw [hv]
   have hne:(rows.take (cn rows d i)).drop i≠[]:=by
    intro h
    have:=congrArg List.length h
    simp only [List.length_drop,List.length_take,List.length_nil] at this
    omega
   have hnd':((rows.take (cn rows d i)).drop i).Nodup:=(hnd.sublist (List.take_sublist _ _)).sublist (List.drop_sublist _ _)
   obtain ⟨k1,k2,k3,k4⟩:=hr ns _ _ hw hne hnd' hgm
   obtain ⟨m1,m2,m3,m4,m5⟩:=fA hr hdn hnd hrow f (rec ns ((rows.take (cn rows d i)).drop i)).2 (vals++[(rows.getD i []).getD d 0]) (chs++[(rec ns ((rows.take (cn rows d i)).drop i)).1]) (cn rows d i) (by omega) hb.2 k1 (by simp [hl]) (fun c hc'=>by
     rcases List.mem_append.1 hc' with h | h
     ·have:=hc c h;have:=k2.len;omega
     ·rw [List.mem_singleton] at h;rw [h];exact k3) (fun ns' hp g hg=>by
     have h1:=hu ns' (k2.trans hp) g (fun c h=>hg c (List.mem_append_left _ h))
     rw [List.length_append,List.length_singleton]
     unfold cD
     rw [e8 vals.length (G:=fun j=>bh ns' g (chs.getD j 0) (pre++[vals.getD j 0])) (fun j hj=>by
      rw [jn (by omega),jn hj]),h1]
     have e1:(chs++[(rec ns ((rows.take (cn rows d i)).drop i)).1]).getD vals.length 0=(rec ns ((rows.take (cn rows d i)).drop i)).1:=by rw [hl];simp
     have e2:(vals++[(rows.getD i []).getD d 0]).getD vals.length 0=(rows.getD i []).getD d 0:=by simp
     rw [e1,e2,k4 ns' hp g (hg _ (by simp))]
     have e3:rows.take i=(rows.take (cn rows d i)).take i:=by rw [List.take_take,Nat.min_eq_left (by omega)]
     rw [e3,List.take_append_drop])
   exact ⟨m1,k2.trans m2,m3,m4,m5⟩
  ·have e:rows.take i=rows:=List.take_of_length_le (by omega)
   exact ⟨hw,cc.refl _,hl,hc,fun ns' h g hg=>(hu ns' h g hg).trans e⟩
theorem dv {E n:Nat}:∀ (e d:Nat),d+e=n→e≤E→jP E (fun ns rs=>bc e ns rs d) n d
 | 0,d,hd,_=>fun ns rs pre hw hne hnd hrow=>by
  have hall:∀ r∈rs,r=pre:=fun r hr=>by
   have:=hrow r hr
   rw [← this.2,List.take_of_length_le (by omega)]
  have he:rs=[pre]:=by
   cases rs with
   | nil=>exact absurd rfl hne
   | cons a t =>
    obtain rfl:=hall a (by simp)
    cases t with
    | nil=>rfl
    | cons b t =>
     have:=hall b (by simp)
     subst this
     simp at hnd
  refine ⟨hw,cc.refl _,⟨by show (0:Int)≤0;omega,by show (0:Int)<ns.length;have:=hw.1.1;omega⟩,fun ns' _ f hf=>?_⟩
  have hf:(0:Int)<(f:Int):=hf
  obtain ⟨g,rfl⟩:∃ g,f=g+1:=⟨f-1,by omega⟩
  show bh ns' (g+1) 0 pre=rs
  rw [he,bh,if_pos rfl]
 | e+1,d,hd,hE=>fun ns rs pre hw hne hnd hrow=>by
  obtain ⟨m1,m2,m3,m4,m5⟩:=fA (dv e (d+1) (by omega) (by omega)) (by omega) hnd hrow rs.length ns [] [] 0 (by omega) (by omega) hw rfl (by simp) (fun ns' _ g _=>by simp [cD])
  show WFd E (bc (e+1) ns rs d).2∧cc ns (bc (e+1) ns rs d).2∧lU (bc (e+1) ns rs d).2 (bc (e+1) ns rs d).1 pre rs
  unfold bc
  generalize hL:bl (fun ns rs=>bc e ns rs (d+1)) rs d rs.length ns [] [] 0=L at m1 m2 m3 m4 m5 ⊢
  obtain ⟨p1,p2,k,p3,p4,p5,p6,p7⟩:=iK (x:=L.2) m1.1 m4
  have hun:lU (cU L.1 L.2).2 (cU L.1 L.2).1 pre rs:=by
   refine ⟨by omega,fun ns' hp f hf=>?_⟩
   rw [p3] at hf ⊢
   obtain ⟨g,rfl⟩:∃ g,f=g+1:=⟨f-1,by omega⟩
   have hk:ns'.getD (k:Int).toNat ([],[])=L.2:=by rw [Int.toNat_natCast,hp.get p5,p6]
   have hch:∀ c∈L.2.2,c<(g:Int):=fun c hc=>by
    have:=p1.2 k p5 c (by rw [p6];exact hc)
    omega
   rw [bh,if_neg (by omega),hk]
   exact m5 ns' (p2.trans hp) g hch
  refine ⟨⟨p1,fun i hi f hf r hr=>?_⟩,m2.trans p2,hun⟩
  by_cases h:i<L.1.length
  ·rw [gc m1.1 p2 f _ _ (by omega) (by omega)] at hr
   exact m1.2 i h f hf r hr
  ·obtain rfl:=p7 i (by omega) hi
   have h1:=hun.2 _ (cc.refl _) f (by omega)
   rw [p3] at h1
   have h2:=h9 (cU L.1 L.2).2 f (i:Int) pre []
   rw [List.append_nil,h1] at h2
   have h3:pre++r∈rs:=by rw [h2];exact List.mem_map.2 ⟨r,hr,rfl⟩
   have h4:=hrow _ h3
   have h5:=congrArg List.length h4.2
   rw [List.length_take,h4.1] at h5
   have h6:=h4.1
   rw [List.length_append] at h6
   omega
end Go.Proofs.Ytcpkiphiaebkmaa
namespace Go.Proofs.Ytcpkiphiaebkmaa
open Go.RowKit

theorem gI (E:Nat):WFd E zN:=by
 refine ⟨⟨by decide,fun i hi c hc=>?_⟩,fun i hi f hf r hr=>?_⟩
 ·obtain rfl:i=0:=by simp [zN] at hi;exact hi
  simp [zN] at hc
 ·obtain rfl:i=0:=by simp [zN] at hi;exact hi
  obtain ⟨g,rfl⟩:∃ g,f=g+1:=⟨f-1,by omega⟩
  have e:bh zN (g+1) ((0:Nat):Int) []=[[]]:=by rw [bh];exact if_pos rfl
  rw [e,List.mem_singleton] at hr
  subst hr;simp
theorem iC {n:Nat} {rows:List (List Int)} (hnd:rows.Nodup) (hrow:∀ r∈rows,r.length=n) (hne:rows≠[]):(bc n zN rows 0).1=(((bc n zN rows 0).2.length:Int)-1):=by
  have hr0:∀ r∈rows,r.length=n∧r.take 0=[]:=fun r hr=>⟨hrow r hr,rfl⟩
  obtain ⟨w1,_,u1,u2⟩:=dv (E:=n) n 0 (by omega) (Nat.le_refl _) zN rows [] (gI _) hne hnd hr0
  cases n with
  | zero=>rfl
  | succ e =>
   obtain ⟨m1,_,m3,m4,_⟩:=fA (dv (E:=e) e 1 (by omega) (Nat.le_refl _)) (by omega) hnd hr0 rows.length zN [] [] 0 (by omega) (by omega) (gI _) rfl (by simp) (fun ns' _ g _=>by simp [cD])
   dsimp only at u1 u2
   unfold bc at u1 u2 ⊢
   generalize hL:bl (fun ns rs=>bc e ns rs (0+1)) rows 0 rows.length zN [] [] 0=L at m1 m3 m4 u1 u2 ⊢
   obtain ⟨_,p2,k,p3,p4,p5,p6,_⟩:=iK (x:=L.2) m1.1 m4
   have hl:=hU L.1 L.2
   have hk:L.1.length≤k:=by
    apply Classical.byContradiction
    intro hlt
    have hlt:k<L.1.length:=by omega
    have h1:=u2 _ (cc.refl _) (k+1) (by rw [p3];omega)
    rw [p3,gc m1.1 p2 _ _ _ (by omega) (by omega)] at h1
    obtain ⟨r,hr⟩:=List.exists_mem_of_ne_nil rows hne
    have h2:=m1.2 k hlt (k+1) (by omega) r (by rw [h1];exact hr)
    have:=hrow r hr
    omega
   rw [p3];omega
theorem e7 {n:Nat} {rows:List (List Int)} (hnd:rows.Nodup) (hrow:∀ r∈rows,r.length=n) :
  WFn (bw n rows)∧∀ f:Nat,(bw n rows).length≤f→bh (bw n rows) f (((bw n rows).length:Int)-1) []=rows:=by
 by_cases hne:rows=[]
 ·subst hne
  unfold bw
  rw [if_pos rfl]
  refine ⟨⟨by decide,fun i hi c hc=>?_⟩,fun f hf=>?_⟩
  ·have:i=0∨i=1:=by simp at hi;omega
   rcases this with rfl | rfl <;> simp at hc
  ·simp only [List.length_cons,List.length_nil] at hf
   obtain ⟨g,rfl⟩:∃ g,f=g+1:=⟨f-1,by omega⟩
   rw [bh,if_neg (by simp)]
   simp [cD]
 ·have hF:bw n rows=(bc n zN rows 0).2:=by unfold bw;rw [if_neg hne];rfl
  rw [hF]
  have hr0:∀ r∈rows,r.length=n∧r.take 0=[]:=fun r hr=>⟨hrow r hr,rfl⟩
  obtain ⟨w1,_,u1,u2⟩:=dv (E:=n) n 0 (by omega) (Nat.le_refl _) zN rows [] (gI _) hne hnd hr0
  refine ⟨w1.1,fun f hf=>?_⟩
  have h:=iC hnd hrow hne
  rw [← h]
  exact u2 _ (cc.refl _) f (by have:=u1.2;show (bc n zN rows 0).1<(f:Int);omega)
end Go.Proofs.Ytcpkiphiaebkmaa
namespace Go.Proofs.Ytcpkiphiaebkmaa
open Go.RowKit

theorem mO {olen:Nat} {nodes:List aq} {far:List Int} (V:VF olen nodes far):∀ (f:Nat) (nd:Int) (pre:List Int),inN nodes nd→nd<f→wN nodes nd=imn 1000000000 ((bh nodes f nd pre).length:Int):=by
 intro f
 induction f with
 | zero=>intro nd pre h hf;have:=h.1;omega
 | succ f ih =>
  intro nd pre h hf
  have h1:=h.1;have h2:=h.2
  rw [bh]
  by_cases h0:nd=0
  ·subst h0
   rw [if_pos rfl];unfold wN;rw [show (0:Int).toNat=0 from rfl,ij nodes _ V.pos];simp [imn]
  ·rw [if_neg h0]
   have hi:nd.toNat<nodes.length:=by omega
   have hl:=V.lens (i:=nd.toNat) (by omega)
   have key:∀ m,m≤(nodes.getD nd.toNat ([],[])).2.length→((nodes.getD nd.toNat ([],[])).2.take m).foldl (db (cW nodes nd.toNat)) 0 =
     imn 1000000000 ((cD (fun j=>bh nodes f ((nodes.getD nd.toNat ([],[])).2.getD j 0) (pre++[(nodes.getD nd.toNat ([],[])).1.getD j 0])) m).length:Int):=by
    intro m
    induction m with
    | zero=>intro _;simp [cD,imn]
    | succ m ihm =>
     intro hm
     have hj:m<(nodes.getD nd.toNat ([],[])).2.length:=by omega
     obtain ⟨c1,c2⟩:=jf V h hj
     have h4:=ih _ (pre++[(nodes.getD nd.toNat ([],[])).1.getD m 0]) c1 (by omega)
     have hg:(nodes.getD nd.toNat ([],[])).2.getD m 0=(nodes.getD nd.toNat ([],[])).2[m]:=by
      rw [List.getD_eq_getElem?_getD,List.getElem?_eq_getElem hj,Option.getD_some]
     have h5:(cW nodes nd.toNat).getD ((nodes.getD nd.toNat ([],[])).2.getD m 0).toNat 0=wN nodes ((nodes.getD nd.toNat ([],[])).2.getD m 0):=by
      have:=c1.1
      exact (jS nodes nodes.length nd.toNat _ (by omega) (by omega) (by omega)).symm
     rw [List.take_succ_eq_append_getElem hj,List.foldl_append,ihm (by omega),List.foldl_cons,List.foldl_nil,cD,List.length_append]
     rw [← hg]
     unfold db
     rw [h5,h4]
     unfold imn
     split <;> split <;> split <;> split <;> omega
   have:=key _ (Nat.le_refl _)
   rw [List.take_length] at this
   unfold wN
   rw [gh nodes nodes.length nd.toNat (by omega) hi,this,hl]
end Go.Proofs.Ytcpkiphiaebkmaa
namespace Go.Proofs.Ytcpkiphiaebkmaa
open Go.RowKit

def nX (l:List Int):Int:=l.getD 0 0
def hdI (ls:a9) (j:Int):Int:=nX (ls.getD j.toNat [])
def leI (a b:Int):Prop:=a≤b
structure OrdOk (ls:a9) (O:List Int) (i:Nat):Prop where
 len:O.length=i
 nd:O.Nodup
 bd:∀ j∈O,0≤j∧j<i
 so:(O.map (hdI ls)).Pairwise leI
theorem jU:∀ {xs:List Int},fH xs→asc xs=true
 | [],_=>rfl
 | [_],_=>rfl
 | x :: y :: t,h=>by
  obtain ⟨h1,h2⟩:=List.pairwise_cons.1 h
  unfold asc
  rw [decide_eq_true (h1 y List.mem_cons_self),jU h2];rfl
end Go.Proofs.Ytcpkiphiaebkmaa
namespace Go.Proofs.Ytcpkiphiaebkmaa
open Go.RowKit

def eW (ns:List aq):Nat→Int→Int
 | 0,_=>0
 | f+1,nd=>if nd=0 then 0 else eW ns f ((ns.getD nd.toNat ([],[])).2.getD 0 0)+1
def dep (ns:List aq) (nd:Int):Int:=eW ns ns.length nd
theorem gM {ns:List aq} (hw:WFn ns) {k:Nat} (h1:1≤k) (hk:k<ns.length):0≤(ns.getD k ([],[])).2.getD 0 0∧(ns.getD k ([],[])).2.getD 0 0<(k:Int):=by
 by_cases hj:0<(ns.getD k ([],[])).2.length
 ·rw [List.getD_eq_getElem?_getD,List.getElem?_eq_getElem hj,Option.getD_some]
  exact hw.2 k hk _ (List.getElem_mem hj)
 ·rw [List.getD_eq_getElem?_getD,List.getElem?_eq_none (by omega),Option.getD_none]
  omega
theorem jK {ns ns':List aq} (hw:WFn ns) (hp:cc ns ns'):∀ (f:Nat) (nd:Int),0≤nd→nd<(ns.length:Int)→eW ns' f nd=eW ns f nd
 | 0,_,_,_=>rfl
 | f+1,nd,h0,h1=>by
  obtain ⟨k,rfl⟩:=Int.eq_ofNat_of_zero_le h0
  rw [eW,eW]
  by_cases hz:(k:Int)=0
  ·rw [if_pos hz,if_pos hz]
  ·have hk:k<ns.length:=by omega
   have:=gM hw (by omega) hk
   rw [if_neg hz,if_neg hz,Int.toNat_natCast,hp.get hk,jK hw hp f _ this.1 (by omega)]
theorem gJ {ns:List aq} (hw:WFn ns):∀ (f f':Nat) (nd:Int),nd<(f:Int)→nd<(f':Int)→0≤nd→nd<(ns.length:Int)→eW ns f nd=eW ns f' nd
 | 0,_,_,h,_,h0,_=>by omega
 | f+1,0,_,_,h,h0,_=>by omega
 | f+1,f'+1,nd,h,h',h0,h1=>by
  obtain ⟨k,rfl⟩:=Int.eq_ofNat_of_zero_le h0
  rw [eW,eW]
  by_cases hz:(k:Int)=0
  ·rw [if_pos hz,if_pos hz]
  ·have hk:k<ns.length:=by omega
   have:=gM hw (by omega) hk
   rw [if_neg hz,if_neg hz,Int.toNat_natCast,gJ hw f f' _ (by omega) (by omega) this.1 (by omega)]
theorem gT {ns ns':List aq} (hw:WFn ns) (hp:cc ns ns') {nd:Int} (h0:0≤nd) (h1:nd<(ns.length:Int)):dep ns' nd=dep ns nd:=by
 unfold dep
 have:=hp.len
 rw [jK hw hp _ _ h0 h1,gJ hw ns'.length ns.length nd (by omega) h1 h0 h1]
theorem jD {ns:List aq} (hw:WFn ns):dep ns 0=0:=by
 unfold dep
 obtain ⟨g,hg⟩:∃ g,ns.length=g+1:=⟨ns.length-1,by have:=hw.1;omega⟩
 rw [hg,eW,if_pos rfl]
theorem jZ {ns:List aq} (hw:WFn ns) {k:Nat} (h1:1≤k) (hk:k<ns.length):dep ns (k:Int)=dep ns ((ns.getD k ([],[])).2.getD 0 0)+1:=by
 have:=gM hw h1 hk
 unfold dep
 obtain ⟨g,hg⟩:∃ g,ns.length=g+1:=⟨ns.length-1,by omega⟩
 rw [hg,eW,if_neg (by omega),Int.toNat_natCast,gJ hw g (g+1) _ (by omega) (by omega) this.1 (by omega)]
structure NodeOk (ns:List aq) (i:Nat):Prop where
 lens:(ns.getD i ([],[])).1.length=(ns.getD i ([],[])).2.length
 vals:aM (ns.getD i ([],[])).1=true
 asc:fH (ns.getD i ([],[])).1
 ne:(ns.getD i ([],[])).1≠[]
 chs:∀ c∈(ns.getD i ([],[])).2,dep ns c=dep ns ((ns.getD i ([],[])).2.getD 0 0)
 new:∀ j,1≤j→j<i→ns.getD j ([],[])≠ns.getD i ([],[])
def er (ns:List aq):Prop:=∀ i,1≤i→i<ns.length→NodeOk ns i
theorem io {ns:List aq} {x:aq}:∀ f i,eD ns x f i=none→∀ j,i≤j→j<i+f→ns.getD j ([],[])≠x
 | 0,_,_,j,h1,h2=>by omega
 | f+1,i,h,j,h1,h2=>by
  unfold eD at h
  split at h
  ·cases h
  ·rename_i e
   by_cases hj:j=i
   ·rw [hj];exact e
   ·exact io f (i+1) h j (by omega) (by omega)
theorem l7 {ns:List aq} {x:aq} (hw:WFn ns) (hx:∀ c∈x.2,0≤c∧c<(ns.length:Int)) (ho:er ns) (h1:x.1.length=x.2.length) (h2:aM x.1=true) (h3:fH x.1) (h4:x.1≠[])
  {e:Int} (h5:∀ c∈x.2,dep ns c=e):er (cU ns x).2∧dep (cU ns x).2 (cU ns x).1=e+1:=by
 obtain ⟨w,hp,k,p3,p4,p5,p6,_⟩:=iK hw hx
 have hne:0<x.2.length:=by
  rw [← h1];exact List.length_pos_iff.2 h4
 have hx0:x.2.getD 0 0=x.2[0]:=by rw [List.getD_eq_getElem?_getD,List.getElem?_eq_getElem hne,Option.getD_some]
 have hd:∀ c∈x.2,dep (cU ns x).2 c=e:=fun c hc=>by
  have:=hx c hc
  rw [gT hw hp this.1 this.2];exact h5 c hc
 refine ⟨?_,by rw [p3,jZ w p4 p5,p6,hx0,hd _ (List.getElem_mem hne)]⟩
 revert w hp p3 p4 p5 p6 hd
 unfold cU
 split
 ·exact fun _ _ _ _ _ _ _=>ho
 ·rename_i hf
  intro w hp p3 p4 p5 p6 hd i hi1 hi2
  have hi2:i<(ns++[x]).length:=hi2
  show NodeOk (ns++[x]) i
  by_cases hlt:i<ns.length
  ·have q:=ho i hi1 hlt
   have g:=cc.get (a:=ns) (b:=ns++[x]) ⟨[x],rfl⟩ hlt
   have c0:=gM hw hi1 hlt
   refine ⟨by rw [g];exact q.lens,by rw [g];exact q.vals,by rw [g];exact q.asc,by rw [g];exact q.ne,fun c hc=>?_,fun j j1 j2=>?_⟩
   ·rw [g] at hc ⊢
    have:=hw.2 i hlt c hc
    rw [gT hw ⟨[x],rfl⟩ this.1 (by omega),gT hw ⟨[x],rfl⟩ c0.1 (by omega)]
    exact q.chs c hc
   ·rw [g,cc.get (a:=ns) (b:=ns++[x]) ⟨[x],rfl⟩ (show j<ns.length by omega)]
    exact q.new j j1 j2
  ·have e1:i=ns.length:=by simp at hi2;omega
   subst e1
   have g:(ns++[x]).getD ns.length ([],[])=x:=by simp
   refine ⟨by rw [g];exact h1,by rw [g];exact h2,by rw [g];exact h3,by rw [g];exact h4,fun c hc=>?_,fun j j1 j2=>?_⟩
   ·rw [g] at hc ⊢
    rw [hd c hc,hx0,hd _ (List.getElem_mem hne)]
   ·rw [g,cc.get (a:=ns) (b:=ns++[x]) ⟨[x],rfl⟩ j2]
    exact io _ _ hf j j1 (by omega)
end Go.Proofs.Ytcpkiphiaebkmaa
namespace Go.Proofs.Ytcpkiphiaebkmaa
open Go.RowKit

theorem i4 {rows:List (List Int)} {d:Nat} {v:Int}:∀ f k,dN rows d v f k<k+f→(rows.getD (dN rows d v f k) []).getD d 0≠v
 | 0,k,h=>by unfold dN at h;omega
 | f+1,k,h=>by
  unfold dN at h ⊢
  split
  ·rename_i e
   rw [if_pos e] at h
   exact i4 f (k+1) (by omega)
  ·rename_i e
   exact e
theorem lR {rows:List (List Int)} {j:Nat} (h:j<rows.length):rows.getD j []=rows[j]:=by
 rw [List.getD_eq_getElem?_getD,List.getElem?_eq_getElem h,Option.getD_some]
theorem lH {rows:List (List Int)} {d i:Nat} (hlt:i<rows.length):(rows.take (cn rows d i)).drop i≠[]:=by
 have hb:=fg (d:=d) hlt
 intro h
 have:=congrArg List.length h
 simp only [List.length_drop,List.length_take,List.length_nil] at this
 omega
theorem iN {rows:List (List Int)} {d i:Nat}:((rows.take (cn rows d i)).drop i).Sublist rows:=(List.drop_sublist _ _).trans (List.take_sublist _ _)
theorem kh {rows:List (List Int)} {n d i:Nat} {pre:List Int} (hdn:d<n) (hlt:i<rows.length) (hrow:∀ r∈rows,r.length=n∧r.take d=pre):∀ r∈(rows.take (cn rows d i)).drop i,r.length=n∧r.take (d+1)=pre++[(rows.getD i []).getD d 0]:=fun r hm=>by
 have hb:=fg (d:=d) hlt
 obtain ⟨j,hj,rfl⟩:=List.getElem_of_mem hm
 rw [List.getElem_drop,List.getElem_take]
 rw [List.length_drop,List.length_take] at hj
 have h0:=hrow _ (List.getElem_mem (show i+j<rows.length by omega))
 have hv:=g9 (rows:=rows) (d:=d) (v:=(rows.getD i []).getD d 0) (rows.length-i) i (i+j) (by omega) (by show i+j<cn rows d i;omega)
 rw [List.getD_eq_getElem?_getD (l:=rows),List.getElem?_eq_getElem (show i+j<rows.length by omega),Option.getD_some] at hv
 refine ⟨h0.1,?_⟩
 have hdl:d<(rows[i+j]'(by omega)).length:=by omega
 rw [List.take_succ_eq_append_getElem hdl,h0.2]
 rw [List.getD_eq_getElem?_getD (l:=rows[i+j]'(by omega)),List.getElem?_eq_getElem hdl,Option.getD_some] at hv
 rw [hv]
theorem kl {rows:List (List Int)} {n d:Nat} {pre:List Int} (hdn:d<n) (ha:dy rows) (hrow:∀ r∈rows,r.length=n∧r.take d=pre) {i j:Nat} (h:i≤j) (hj:j<rows.length):(rows.getD i []).getD d 0≤(rows.getD j []).getD d 0:=by
 by_cases e:i=j
 ·rw [e];exact Int.le_refl _
 ·rw [lR hj,lR (show i<rows.length by omega)]
  have h1:=hrow _ (List.getElem_mem (show i<rows.length by omega))
  have h2:=hrow _ (List.getElem_mem hj)
  exact ke d _ _ (h1.2.trans h2.2.symm) (by omega) (by omega) (List.pairwise_iff_getElem.1 ha i j (by omega) hj (by omega))
def lB (E:Nat) (rec:List aq→List (List Int)→Int × List aq) (n d:Nat):Prop :=
 ∀ ns rs pre,WFd E ns→er ns→rs≠[]→dy rs→(∀ r∈rs,r.length=n∧r.take d=pre)→(∀ r∈rs,aM r=true)→er (rec ns rs).2∧dep (rec ns rs).2 (rec ns rs).1=((n-d:Nat):Int)
theorem nQ {r:List Int} {d:Nat} (h:aM r=true) (hd:d<r.length):inR (r.getD d 0) 0 99=true:=by
 rw [List.getD_eq_getElem?_getD,List.getElem?_eq_getElem hd,Option.getD_some]
 exact List.all_eq_true.1 h _ (List.getElem_mem hd)
theorem iW {E:Nat} {rec:List aq→List (List Int)→Int × List aq} {n d:Nat} (hr:jP E rec n (d+1)) (hq:lB E rec n (d+1)) (hdn:d<n) {rows:List (List Int)} {pre:List Int} (ha:dy rows) (hnd:rows.Nodup)
  (hrow:∀ r∈rows,r.length=n∧r.take d=pre) (hvv:∀ r∈rows,aM r=true) :
  ∀ f ns vals chs i,WFd E ns→er ns→(∀ c∈chs,(0≤c∧c<(ns.length:Int))∧dep ns c=((n-d-1:Nat):Int))→fH vals→aM vals=true→(∀ v∈vals,∀ j,i≤j→j<rows.length→v<(rows.getD j []).getD d 0) →
   er (bl rec rows d f ns vals chs i).1∧(∀ c∈(bl rec rows d f ns vals chs i).2.2,dep (bl rec rows d f ns vals chs i).1 c=((n-d-1:Nat):Int)) ∧
   fH (bl rec rows d f ns vals chs i).2.1∧aM (bl rec rows d f ns vals chs i).2.1=true
 | 0,ns,vals,chs,i,hw,ho,hc,hv,hvl,hb=>by
  unfold bl
  exact ⟨ho,fun c h=>(hc c h).2,hv,hvl⟩
 | f+1,ns,vals,chs,i,hw,ho,hc,hv,hvl,hb=>by
  unfold bl
  split
  ·rename_i hlt
   have hgb:=fg (d:=d) hlt
   obtain ⟨k1,k2,k3,_⟩:=hr ns _ _ hw (lH (d:=d) hlt) (hnd.sublist iN) (kh hdn hlt hrow)
   obtain ⟨q1,q2⟩:=hq ns _ _ hw ho (lH (d:=d) hlt) (List.Pairwise.sublist iN ha) (kh hdn hlt hrow) (fun r hr'=>hvv r (iN.subset hr'))
   refine iW hr hq hdn ha hnd hrow hvv f _ _ _ _ k1 q1 (fun c hc'=>?_) ?_ ?_ (fun v hv' j h1 h2=>?_)
   ·rcases List.mem_append.1 hc' with h | h
    ·have h3:=hc c h
     refine ⟨⟨h3.1.1,by have:=k2.len;omega⟩,?_⟩
     rw [gT hw.1 k2 h3.1.1 h3.1.2];exact h3.2
    ·rw [List.mem_singleton] at h;subst h
     exact ⟨k3,q2⟩
   ·refine List.pairwise_append.2 ⟨hv,List.pairwise_singleton _ _,fun a h1 b h2=>?_⟩
    rw [List.mem_singleton] at h2;subst h2
    exact hb a h1 i (Nat.le_refl _) hlt
   ·unfold aM
    rw [List.all_append,Bool.and_eq_true]
    refine ⟨hvl,?_⟩
    rw [List.all_cons,List.all_nil,Bool.and_true,lR hlt]
    exact nQ (hvv _ (List.getElem_mem hlt)) (by have:=hrow _ (List.getElem_mem hlt);omega)
   ·rcases List.mem_append.1 hv' with h | h
    ·exact hb v h j (by omega) h2
    ·rw [List.mem_singleton] at h;subst h
     have hs:=i4 (rows:=rows) (d:=d) (v:=(rows.getD i []).getD d 0) (rows.length-i) i (by show cn rows d i<_;omega)
     have hs:(rows.getD (cn rows d i) []).getD d 0≠(rows.getD i []).getD d 0:=hs
     have l1:=kl hdn ha hrow (show i≤cn rows d i by omega) (by omega)
     have l2:=kl hdn ha hrow h1 h2
     omega
  ·exact ⟨ho,fun c h=>(hc c h).2,hv,hvl⟩
theorem iB {E n:Nat}:∀ (e d:Nat),d+e=n→e≤E→lB E (fun ns rs=>bc e ns rs d) n d
 | 0,d,hd,_=>fun ns rs pre hw ho hne ha hrow hvv=>by
  refine ⟨ho,?_⟩
  show dep ns 0=_
  rw [jD hw.1,show n-d=0 by omega];rfl
 | e+1,d,hd,hE=>fun ns rs pre hw ho hne ha hrow hvv=>by
  have hnd:=dw ha
  obtain ⟨m1,m2,m3,m4,m5⟩:=fA (dv (E:=E) e (d+1) (by omega) (by omega)) (by omega) hnd hrow rs.length ns [] [] 0 (by omega) (by omega) hw rfl (by simp) (fun ns' _ g _=>by simp [cD])
  obtain ⟨v1,v2,v3,v4⟩:=iW (dv (E:=E) e (d+1) (by omega) (by omega)) (iB e (d+1) (by omega) (by omega)) (by omega) ha hnd hrow hvv rs.length ns [] [] 0 hw ho (by simp) List.Pairwise.nil rfl (by simp)
  show er (bc (e+1) ns rs d).2∧dep (bc (e+1) ns rs d).2 (bc (e+1) ns rs d).1=_
  unfold bc
  generalize hL:bl (fun ns rs=>bc e ns rs (d+1)) rs d rs.length ns [] [] 0=L at m1 m2 m3 m4 m5 v1 v2 v3 v4 ⊢
  have h4:L.2.1≠[]:=by
   intro h
   obtain ⟨g,hg⟩:∃ g:Nat,∀ c∈L.2.2,c<(g:Int):=⟨L.1.length,fun c hc=>(m4 c hc).2⟩
   have:=m5 L.1 (cc.refl _) g hg
   rw [h] at this
   exact hne this.symm
  obtain ⟨p1,p2⟩:=l7 (x:=L.2) m1.1 m4 v1 m3 v4 v3 h4 v2
  exact ⟨p1,by rw [p2];omega⟩
end Go.Proofs.Ytcpkiphiaebkmaa
namespace Go.Proofs.Ytcpkiphiaebkmaa
open Go.RowKit

def eT (nodes:List aq) (i:Nat):List Int:=(List.range i).map fun k:Nat=>dep nodes (k:Int)
theorem f7 {nodes:List aq} {i:Nat} {c:Int} (h0:0≤c) (h1:c<(i:Int)):(eT nodes i).getD c.toNat 0=dep nodes c:=by
 obtain ⟨k,rfl⟩:=Int.eq_ofNat_of_zero_le h0
 have hk:k<i:=by omega
 unfold eT
 rw [Int.toNat_natCast,List.getD_eq_getElem?_getD,List.getElem?_map,List.getElem?_range hk];rfl
theorem lg (nodes:List aq) (i:Nat):eT nodes (i+1)=eT nodes i++[dep nodes (i:Int)]:=by
 unfold eT;rw [List.range_succ,List.map_append];rfl
theorem mf {nodes:List aq} {olen:Nat} (hw:WFn nodes) {i:Nat} (h1:1≤i) (hi:i<nodes.length) (ho:NodeOk nodes i):eF nodes olen (eT nodes i) i (nodes.getD i ([],[]))=some (dep nodes (i:Int)):=by
 have c0:=gM hw h1 hi
 have hne:0<(nodes.getD i ([],[])).1.length:=List.length_pos_iff.2 ho.ne
 unfold eF
 rw [decide_eq_true ho.lens,ho.vals,jU ho.asc,decide_eq_false (show ¬ (nodes.getD i ([],[])).1.length=0 by omega)]
 have ha:(List.range' 0 (nodes.getD i ([],[])).2.length).all (eX (eT nodes i) i (nodes.getD i ([],[])).2)=true:=by
  refine List.all_eq_true.2 fun j hj=>?_
  have hj:j<(nodes.getD i ([],[])).2.length:=by simpa using hj
  have hg:(nodes.getD i ([],[])).2.getD j 0=(nodes.getD i ([],[])).2[j]:=by rw [List.getD_eq_getElem?_getD,List.getElem?_eq_getElem hj,Option.getD_some]
  have hc:=hw.2 i hi _ (List.getElem_mem hj)
  unfold eX
  rw [hg,dS.2 (by omega),f7 hc.1 hc.2,f7 c0.1 c0.2,decide_eq_true (ho.chs _ (List.getElem_mem hj))];rfl
 have hn:ff nodes i (nodes.getD i ([],[]))=true:=by
  unfold ff
  refine List.all_eq_true.2 fun m hm=>?_
  obtain ⟨j,hj,rfl⟩:=List.getElem_of_mem hm
  rw [List.getElem_drop,List.getElem_take]
  rw [List.length_drop,List.length_take] at hj
  have:=ho.new (1+j) (by omega) (by omega)
  rw [fh (show 1+j<nodes.length by omega)] at this
  rw [decide_eq_false this];rfl
 rw [ha,hn]
 show some _=some _
 rw [f7 c0.1 c0.2,jZ hw h1 hi]
theorem im {nodes:List aq} {olen:Nat} (hw:WFn nodes) (ho:er nodes):∀ m i,i+m=nodes.length→1≤i→cM (cp nodes olen) m i (eT nodes i)=.inr (eT nodes nodes.length)
 | 0,i,h,_=>by rw [cM,show i=nodes.length by omega]
 | m+1,i,h,h1=>by
  have e:cp nodes olen i (eT nodes i)=.inr (eT nodes (i+1)):=by
   unfold cp es
   rw [mf hw h1 (by omega) (ho i h1 (by omega)),lg]
  rw [cM,e]
  exact im hw ho m (i+1) (by omega) (by omega)
theorem lm {order:List Int} {nodes:List aq} (hp:dV order=true) (hl:nodes.length≤4000) (hz:nodes.getD 0 ([],[])=([],[])) (hw:WFn nodes) (ho:er nodes) (hd:dep nodes ((nodes.length:Int)-1)=(order.length:Int)):du order nodes=true:=by
 have h1:=hw.1
 unfold du
 have e:[0]=eT nodes 1:=by
  show [0]=[dep nodes ((0:Nat):Int)]
  rw [show ((0:Nat):Int)=0 from rfl,jD hw]
 rw [hp,hz,dS.2 (show (1:Int)≤nodes.length∧(nodes.length:Int)≤4000 by omega),e,im hw ho _ 1 (by omega) (Nat.le_refl _)]
 have hg:=f7 (nodes:=nodes) (i:=nodes.length) (c:=(nodes.length:Int)-1) (by omega) (by omega)
 rw [show ((nodes.length:Int)-1).toNat=nodes.length-1 by omega,hd] at hg
 dsimp only
 rw [decide_eq_true hg];rfl
end Go.Proofs.Ytcpkiphiaebkmaa
namespace Go.Proofs.Ytcpkiphiaebkmaa
open Go.RowKit

theorem nE:er zN:=fun i h1 h2=>by simp [zN] at h2;omega
theorem kc {n:Nat} {rows:List (List Int)} (hne:rows≠[]) (ha:dy rows) (hrow:∀ r∈rows,r.length=n) (hvv:∀ r∈rows,aM r=true) :
  er (bw n rows)∧dep (bw n rows) (((bw n rows).length:Int)-1)=(n:Int)∧(bw n rows).getD 0 ([],[])=([],[]):=by
 have hr0:∀ r∈rows,r.length=n∧r.take 0=[]:=fun r hr=>⟨hrow r hr,rfl⟩
 have hF:bw n rows=(bc n zN rows 0).2:=by unfold bw;rw [if_neg hne];rfl
 obtain ⟨v1,v2⟩:=iB (E:=n) n 0 (by omega) (Nat.le_refl _) zN rows [] (gI _) nE hne ha hr0 hvv
 obtain ⟨w1,w2,_⟩:=dv (E:=n) n 0 (by omega) (Nat.le_refl _) zN rows [] (gI _) hne (dw ha) hr0
 have hroot:=iC (dw ha) hrow hne
 rw [hF]
 refine ⟨v1,?_,?_⟩
 ·rw [← hroot];exact v2
 ·exact (w2.get (i:=0) (by decide)).trans rfl
theorem g7 {n:Nat} {rows:List (List Int)} (ha:dy rows) (hrow:∀ r∈rows,r.length=n) (hvv:∀ r∈rows,aM r=true) (hl:(bw n rows).length≤4000) {order:List Int} (hp:dV order=true) (ho:order.length=n):du order (bw n rows)=true:=by
 by_cases hne:rows=[]
 ·subst hne
  unfold bw
  rw [if_pos rfl]
  simp [du,hp,cM,cp,es,eF,aM,asc,inR]
 ·obtain ⟨h1,h2,h3⟩:=kc hne ha hrow hvv
  exact lm hp hl h3 (e7 (dw ha) hrow).1 h1 (by rw [h2,ho])
theorem jF {n:Nat} {rows:List (List Int)} (ha:dy rows) (hrow:∀ r∈rows,r.length=n) (hvv:∀ r∈rows,aM r=true) (hl:(bw n rows).length≤4000) (hrl:rows.length≤4000) {order:List Int} (hp:dV order=true) (ho:order.length=n) :
  gU order (bw n rows)=(((n:Int),rows),true)∧dK order (bw n rows)=(rows.length:Int):=by
 have hv:=g7 ha hrow hvv hl hp ho
 obtain ⟨hw,hr⟩:=e7 (dw ha) hrow
 obtain ⟨far,V⟩:=kI hv
 have h1:=hw.1
 have hc:dK order (bw n rows)=(rows.length:Int):=by
  rw [g6 hv,mO V (bw n rows).length _ [] ⟨by omega,by omega⟩ (by omega),hr _ (Nat.le_refl _)]
  unfold imn
  split <;> omega
 refine ⟨?_,hc⟩
 unfold gU
 rw [hv,hc,decide_eq_false (show ¬ (4000:Int)<(rows.length:Int) by omega),hr _ (Nat.le_refl _),ho];rfl
theorem lP {n m:Nat} {rows rows2:List (List Int)} (ha:dy rows) (ha2:dy rows2) (hrow:∀ r∈rows,r.length=n) (hrow2:∀ r∈rows2,r.length=m) (h:bw n rows=bw m rows2):rows=rows2:=by
 have h1:=(e7 (dw ha) hrow).2 _ (Nat.le_refl _)
 have h2:=(e7 (dw ha2) hrow2).2 _ (Nat.le_refl _)
 rw [h] at h1
 exact h1.symm.trans h2
end Go.Proofs.Ytcpkiphiaebkmaa
namespace Go.Proofs.Ytcpkiphiaebkmaa
open Go.RowKit

theorem li {n:Nat} {rows:List (List Int)} (hn5:n≤5) (ha:ew n rows):(bw n rows).length≤rows.length*n+2:=by
 have hl:=ha.1
 unfold bw
 by_cases h:rows=[]
 ·rw [if_pos h];show 2≤_;omega
 ·have hmul:rows.length*n≤4000*5:=Nat.mul_le_mul hl hn5
  have hz:zN.length=1:=rfl
  rw [if_neg h]
  have:=(gK (n:=n) n 0 zN rows jc ha h (by omega)).2
  show (bc n zN rows 0).2.length≤_
  have e:(bc n zN rows 0).2.length≤zN.length+rows.length*n+1:=this
  omega
section
variable {N:Nat}
theorem eN (hN:1073741824≤N) {a b:List Int} {x y:List aq} (ha:okI a) (hx:okN x):bK N a x b y=some (decide ((a,x)=(b,y))):=by
 unfold bK
 rw [eE hN ha.1,bs]
 by_cases h1:a=b
 ·rw [decide_eq_true h1,cond_true]
  have e:decide ((a,x)=(b,y))=decide (x=y):=by simp [h1]
  rw [e]
  by_cases hl:x.length=y.length
  ·rw [ku hl,cond_false]
   refine jW (L:=fun k i=>a6 N k a x b y (x.length:Int) i) hl hx.1 hN (fun k i h h'=>?_) (fun k=>?_)
   ·have:=hx.1
    obtain ⟨g1,g2⟩:=gF hx h
    show a6 N (k+1) a x b y _ (i:Int)=_
    rw [a6,dlt h,cond_true,aU h,bs,aU h',bs,fF hN g1 g2,bs,ad1 (by omega),bs]
   ·show a6 N (k+1) a x b y _ (x.length:Int)=_
    rw [a6,dge (by omega),cond_false]
  ·rw [kP hl,cond_true];exact kW hl
 ·rw [decide_eq_false h1,cond_false];simp [h1]
theorem fo (hM:1073742848≤N) {a:List Int} (ha:eb a):∃ r s,bW N a=some (r,s)∧iv r∧iv s:=by
 have hN:1073741824≤N:=by omega
 unfold bW
 obtain ⟨h,e1⟩:=kB hN ha
 rw [e1,bs]
 obtain ⟨r,q,g,e2,c2,k2⟩:=h8 hM ha (p:=0) (h:=h) ⟨Int.le_refl _,by omega⟩
 dsimp only
 rw [e2,bs]
 unfold eG
 obtain ⟨x,q3,g3,e3,_,_,_,c3⟩:=dm ha c2 (h:=g) (n:=2) (N:=N)
 dsimp only
 rw [e3,bs,bs]
 cases hx:(x == 0) with
 | true =>
  obtain ⟨s,q4,g4,e4,_,k4⟩:=h8 hM ha c3 (h:=g3)
  dsimp only
  rw [cond_true,e4,bs]
  exact ⟨r,s,rfl,k2,k4⟩
 | false =>
  have hok:c4 r.2:=⟨by have:=k2.2.1;omega,fun w hw=>⟨by have:=(k2.2.2 w hw).1;omega,fun _ _=>trivial⟩⟩
  dsimp only
  rw [cond_false,i5 hN hok,bs]
  exact ⟨r,r,rfl,k2,k2⟩
end
end Go.Proofs.Ytcpkiphiaebkmaa
namespace Go.Proofs.Ytcpkiphiaebkmaa
open Go.RowKit
theorem kd {r:Int × a9} (k:iv r):c4 r.2:=⟨by have:=k.2.1;omega,fun w hw=>⟨by have:=(k.2.2 w hw).1;omega,fun _ _=>trivial⟩⟩
theorem eB {N:Nat} (hM:1073742848≤N) {x0:List Int} (_:(gj (fun _=>True) 9223372036854775807) x0) (g0:∀ v∈x0,0≤v∧v≤255):bI N x0=some true:=by
 have hN:1073741824≤N:=by omega
 unfold bI f8
 rw [bs]
 by_cases hb:(1048576:Int)<(x0.length:Int)
 ·rw [decide_eq_true hb];rfl
 ·rw [decide_eq_false hb,cond_false]
  have hc:eb x0:=⟨by omega,fun v hv=>g0 v hv⟩
  obtain ⟨⟨n,rows⟩,⟨m,rows2⟩,e1,k1,k2⟩:=fo hM hc
  have o1:c4 rows:=kd k1
  have o2:c4 rows2:=kd k2
  rw [e1,bs]
  dsimp only
  rw [dD hM o1,bs,dD hM o2,bs,c6 hN o1,bs,c6 hN o2]
  unfold eA
  cases hv:bj n rows with
  | false =>
   cases hw:bj m rows2 <;>
   ·simp only [cond_true,cond_false,bne_self_eq_false,bs]
    rw [di hN o1,bs,cG hN o1 o2,bs,bne_self_eq_false,cond_false]
  | true =>
   cases hw:bj m rows2 with
   | false =>
    simp only [cond_true,cond_false,bne_self_eq_false,bs]
    rw [di hN o1,bs,cG hN o1 o2,bs,bne_self_eq_false,cond_false]
   | true =>
    simp only [cond_true,cond_false,bne_self_eq_false,bs]
    rw [di hN o1,bs,cG hN o1 o2,bs,bne_self_eq_false,cond_false]
    obtain ⟨h0,h1,ha⟩:=gW hv
    obtain ⟨g0',g1,hb2⟩:=gW hw
    have p1:okI (cZ n.toNat)∧okN (bw n.toNat rows):=by
     have:=kS (n:=n) (rows:=rows);unfold eA at this;rw [hv,cond_true] at this;exact this
    obtain ⟨p2,p3⟩:=p1
    have a1:=fT hv
    have a2:=fT hw
    obtain ⟨_,_,_,q1⟩:=dr hv
    obtain ⟨_,_,_,q2⟩:=dr hw
    have r1:∀ r∈rows,r.length=n.toNat:=fun r hr=>by
     obtain ⟨i,hi,rfl⟩:=List.getElem_of_mem hr
     have:=(q1 i hi).1;omega
    have v1:∀ r∈rows,aM r=true:=fun r hr=>by
     obtain ⟨i,hi,rfl⟩:=List.getElem_of_mem hr
     exact (q1 i hi).2.1
    have r2:∀ r∈rows2,r.length=m.toNat:=fun r hr=>by
     obtain ⟨i,hi,rfl⟩:=List.getElem_of_mem hr
     have:=(q2 i hi).1;omega
    have l1:=li (n:=n.toNat) (by omega) ha
    have l2:rows.length*n.toNat≤7*5:=Nat.mul_le_mul k1.2.1 (by omega)
    have hp:dV (cZ n.toNat)=true:=by
     unfold dV
     rw [dF,decide_eq_true (by omega),lY];rfl
    obtain ⟨x1,x2⟩:=jF a1 r1 v1 (by omega) (by have:=ha.1;omega) hp (dF _)
    rw [eR hN p2 p3,bs,x1]
    simp only [cond_true]
    have e5:((n.toNat:Nat):Int)=n:=by omega
    rw [e5,cG hN o1 o1,bs,decide_eq_true rfl,cond_true,eN hN p2 p3,bs,bs,cC hN p2 p3,bs,g7 a1 r1 v1 (by omega) hp (dF _)]
    have e6:decide ((cZ n.toNat,bw n.toNat rows)=(cZ m.toNat,bw m.toNat rows2))=decide ((n,rows)=(m,rows2)):=by
     rw [decide_eq_decide]
     refine ⟨fun h=>?_,fun h=>?_⟩
     ·obtain ⟨u1,u2⟩:=Prod.mk.inj h
      have u3:n.toNat=m.toNat:=by have:=congrArg List.length u1;rwa [dF,dF] at this
      rw [lP a1 a2 r1 r2 u2,show n=m by omega]
     ·obtain ⟨u1,u2⟩:=Prod.mk.inj h
      rw [u1,u2]
    rw [e6,beq_self_eq_true,cond_true]
end Go.Proofs.Ytcpkiphiaebkmaa
namespace Go.Proofs.Ytcpkiphiaebkmaa
open Go.RowKit
section
variable {P:Program} {n:Nat} {Q Q':Exit→Env→World→Prop} {K:Env→World→Prop} {KQ:Env→Prop} {e:Env} {w w0:World} {c y:Code} {x:Exit} {ops:Array Oper} {rest:List Oper}
variable {d:Nat} {op:Op} {ty:TypeId} {pos:String} {af:Array Edge} {o z1 z2 z3:Operand} {v:Value} {q1:Oper}
theorem dt {p:Prop} [Decidable p] (h:decide p=true):p:=of_decide_eq_true h
theorem sg (h:∀ Q':Exit→Env→World→Prop,(∀ x e w,thn (fun e w=>CW P n y Q e w) Q x e w→Q' x e w)→CW P n c Q' e w):CW P n (.seq c y) Q e w:=lD (ip h)
theorem sR {id:Nat} {l:List Oper} (h:∀ Q':Exit→Env→World→Prop,(∀ x e w,thn (fun e w=>CW P n y Q e w) Q x e w→Q' x e w)→EL P n l.toArray (fun e w=>Q' .normal e w) l e w):CW P n (.seq (.region id l.toArray false) y) Q e w:=lD (ip fun Q' q=>am (h Q' q))
theorem gn (h:∀ Q':Exit→Env→World→Prop,(∀ x e w,Q x e w→Q' x e w)→CW P n c Q' e w):CW P n c Q e w:=ip h
theorem bg {i:Nat} (h:∀ Q':Exit→Env→World→Prop,(∀ x e w,inb i Q x e w→Q' x e w)→CW P n c Q' e w):CW P n (.block i c) Q e w:=l8 (ip h)
theorem tn (h:∀ x e w,thn K Q x e w→Q' x e w) (k:K e w):Q' .normal e w:=h _ _ _ k
theorem tr (h:∀ x e w,thn K Q x e w→Q' x e w) (k:Q .ret e w):Q' .ret e w:=h _ _ _ k
theorem tx {i:Nat} (h:∀ x e w,thn K Q x e w→Q' x e w) (k:Q (.exit i) e w):Q' (.exit i) e w:=h _ _ _ k
theorem bn {i:Nat} (h:∀ x e w,inb i Q x e w→Q' x e w) (k:Q .normal e w):Q' .normal e w:=h _ _ _ k
theorem br {i:Nat} (h:∀ x e w,inb i Q x e w→Q' x e w) (k:Q .ret e w):Q' .ret e w:=h _ _ _ k
theorem bS {i:Nat} (h:∀ x e w,inb i Q x e w→Q' x e w) (k:Q .normal e w):Q' (.exit i) e w:=h _ _ _ (nT k)
theorem en (h:∀ x e w,thn K Q x e w→Q' x e w) (k:K e w):EL P n ops (fun e w=>Q' .normal e w) [] e w:=ag (h _ _ _ k)
theorem sn (h:∀ x e w,thn K Q x e w→Q' x e w) (k:K e w):CW P n .skip Q' e w:=aZ (h _ _ _ k)
theorem pa (v:Value) (hK:EL P n ops K rest (upd e d v) w) (hx:ev e o=v:=by exact rfl) (hd:d<n:=by decide):EL P n ops K (⟨some d,.assign o,ty,pos,af,none⟩ :: rest) e w:=gR (cm hx) hd hK
theorem pm (v:Value) (hK:EL P n ops K rest (upd e d v) w) (hx:ev e o=v:=by exact rfl) (hd:d<n:=by decide):EL P n ops K (⟨some d,.move o,ty,pos,af,none⟩ :: rest) e w:=gR (aF hx) hd hK
theorem pM (v:Value) (hx:ev e o=v) (hK:EL P n ops K rest (upd e d v) w) (hd:d<n:=by decide):EL P n ops K (⟨some d,.move o,ty,pos,af,none⟩ :: rest) e w:=gR (aF hx) hd hK
theorem pe (v:Value) (hp:PV P ⟨some d,op,ty,pos,af,none⟩ e w v) (hK:EL P n ops K rest (upd e d v) w) (hd:d<n:=by decide):EL P n ops K (⟨some d,op,ty,pos,af,none⟩ :: rest) e w:=gR hp hd hK
theorem qe (v:Value) (hp:PV P ⟨some d,op,ty,pos,af,none⟩ e w v) (hK:QL P n ops w KQ rest (upd e d v)) (hd:d<n:=by decide):QL P n ops w KQ (⟨some d,op,ty,pos,af,none⟩ :: rest) e:=jg hp hd hK
theorem qm (v:Value) (hK:QL P n ops w KQ rest (upd e d v)) (hx:ev e o=v:=by exact rfl) (hd:d<n:=by decide):QL P n ops w KQ (⟨some d,.move o,ty,pos,af,none⟩ :: rest) e:=jg (aF hx) hd hK
theorem qM (v:Value) (hx:ev e o=v) (hK:QL P n ops w KQ rest (upd e d v)) (hd:d<n:=by decide):QL P n ops w KQ (⟨some d,.move o,ty,pos,af,none⟩ :: rest) e:=jg (aF hx) hd hK
theorem eo {j:Nat} {b b' c:Bool} (hc:c=b) (hK:EL P n ops K rest (upd e d undef) w) (h:yld ops e j=some c:=by exact rfl) (hb:(b == b')=false:=by exact rfl) (hd:d<n:=by decide):EL P n ops K (⟨some d,op,ty,pos,af,some (j,b')⟩ :: rest) e w:=na h hc hb hd hK
theorem qo {j:Nat} {b b' c:Bool} (hc:c=b) (hK:QL P n ops w KQ rest (upd e d undef)) (h:yld ops e j=some c:=by exact rfl) (hb:(b == b')=false:=by exact rfl) (hd:d<n:=by decide):QL P n ops w KQ (⟨some d,op,ty,pos,af,some (j,b')⟩ :: rest) e:=nr h hc hb hd hK
theorem ei {j:Nat} {b c:Bool} {dst:Option Nat} (hc:c=b) (hK:EL P n ops K (⟨dst,op,ty,pos,af,none⟩ :: rest) e w) (h:yld ops e j=some c:=by exact rfl):EL P n ops K (⟨dst,op,ty,pos,af,some (j,b)⟩ :: rest) e w:=nW h hc hK
theorem qi {j:Nat} {b c:Bool} {dst:Option Nat} (hc:c=b) (hK:QL P n ops w KQ (⟨dst,op,ty,pos,af,none⟩ :: rest) e) (h:yld ops e j=some c:=by exact rfl):QL P n ops w KQ (⟨dst,op,ty,pos,af,some (j,b)⟩ :: rest) e:=nR h hc hK
theorem ct {b:Bool} (hb:b=true) (h:CW P n c Q e w) (hc:ev e o=.bool b:=by exact rfl):CW P n (.cond o c y) Q e w:=k8 hc hb h
theorem cf {b:Bool} (hb:b=false) (h:CW P n y Q e w) (hc:ev e o=.bool b:=by exact rfl):CW P n (.cond o c y) Q e w:=lk hc hb h
theorem rB {a b:Bool} {Γ:List Asn} (h:some a=some b) (hS:Sat w0 w Γ):Ending.returned (.bool a)=.returned (.bool b)∧Ext w0 w:=⟨by rw [Option.some.inj h],hS.below⟩
theorem rI {a b:Int} {Γ:List Asn} (h:some a=some b) (hS:Sat w0 w Γ):Ending.returned (.int .i64 a)=.returned (.int .i64 b)∧Ext w0 w:=⟨by rw [Option.some.inj h],hS.below⟩
abbrev i_ (x:Int):Value:=.int .i64 x
abbrev n_:Value:=.slice none 0 0
theorem ec0 {f:FuncId} {args:Array Operand} {tys:Array TypeId} {vals:Array Value} {Γ:List Asn} (hg:Goes P f) (hc:Calls P f vals w fun x w'=>x=.returned v∧Ext w w') (hv:(args.toList.map (ev e)).toArray=vals) (S:Sat w0 w Γ)
  (hK:∀ w',Ext w w'→Sat w0 w' Γ→EL P n ops K rest (upd e d v) w') (hd:d<n:=by decide):EL P n ops K (⟨some d,.call ⟨.value (.func f),args,tys⟩,ty,pos,af,none⟩ :: rest) e w :=
 aR hg hc hv hd (by rintro _ w' ⟨rfl,hx⟩;exact ⟨_,rfl,hK w' hx (S.ext hx)⟩)
theorem ec1 {f:FuncId} {args:Array Operand} {tys:Array TypeId} {vals:Array Value} {Γ:List Asn} {G:Value→Value} {A:Value→Asn} (hg:Goes P f) (hc:Calls P f vals w fun x w'=>∃ v,x=.returned (G v)∧Sat w w' [A v]) (hv:(args.toList.map (ev e)).toArray=vals) (S:Sat w0 w Γ)
  (hK:∀ w' v,Ext w w'→Sat w0 w' (A v :: Γ)→EL P n ops K rest (upd e d (G v)) w') (hd:d<n:=by decide):EL P n ops K (⟨some d,.call ⟨.value (.func f),args,tys⟩,ty,pos,af,none⟩ :: rest) e w :=
 aR hg hc hv hd (by rintro _ w' ⟨v,rfl,S'⟩;exact ⟨_,rfl,hK w' v S'.below (S.call1 S')⟩)
theorem aO {X:List Nat} {C:World→Prop} (i:Nat) {f:Nat} {L:Array Bool} (ho:ops[i]? = some q1)
  (h:EL P n ops (fun e' w'=>(X.contains i=true→C w')∧AL P n ops X C K f (L.setIfInBounds i true) e' w') [q1] e w) (hr:Region.ready .any ops L=[i]:=by kernel_rfl):AL P n ops X C K (f+1) L e w:=nH i hr ho h
theorem aP {X:List Nat} {C:World→Prop} (v:Value) (i:Nat) {f:Nat} {L:Array Bool} (hi:ops[i]? = some q1) (hdst:q1.dst=some d) (hC:C w)
  (hy:SV P n ops C q1 e v) (hK:AL P n ops X C K f (L.setIfInBounds i true) (upd e d v) w) (hsel:ge ops=true:=by kernel_rfl) (hdn:d<n:=by decide) (hf:gg ops X L i q1=true:=by kernel_rfl) (hr:(Region.ready .any ops L).contains i=true:=by kernel_rfl):AL P n ops X C K (f+1) L e w:=lW hsel i hi hdst hdn hC hf hr hy hK
theorem ca {α β:Type} {f:α→β} {l:List α} {m:List β} (h:l.map f=m):(l.map f).toArray=m.toArray:=congrArg List.toArray h
end
end Go.Proofs.Ytcpkiphiaebkmaa
namespace Go.Proofs.Ytcpkiphiaebkmaa
open Go.RowKit
abbrev R0_:=aj cK 3
abbrev R1_:=aj R0_ 29
abbrev R2_:=mv R0_ R0_
abbrev R3_:=aj R2_ 56
abbrev T0_:=List Int
abbrev T1_:=List T0_
abbrev T2_:=List Int × List Int
abbrev T3_:=Int × List T0_
abbrev T4_:=List T2_
abbrev T5_:=List Int × List T2_
end Go.Proofs.Ytcpkiphiaebkmaa
namespace Go.Proofs.Ytcpkiphiaebkmaa
open Go.RowKit
set_option maxRecDepth 100000
set_option maxHeartbeats 4000000
theorem j7 {w0:World} {u0:Value} {a0:List Int} (ha0:(aj u8R 5).rd w0 [u0] a0) {N:Nat} {r:Bool} (F:f8 N a0=some r): Calls Try.prog 4 #[u0] w0 fun e w'=>e=.returned (.bool r)∧Ext w0 w' := by
 unfold f8 at F;refine aI Try.func4 rfl rfl (dt rfl) ?_;have S:=Sat.start w0;refine sR fun _ D=>?_;refine pa (.bool false) (en D ?_);refine sR fun _ J=>?_;refine pm u0 (pe (i_ (a0.length:Int)) (ap rfl ha0) (pe (.bool (decide (1048576 < (a0.length:Int)))) (bD rfl rfl) (pa (.bool (decide (1048576 < (a0.length:Int)))) (en J (ai (aC rfl rfl ?_))))));exact rB F S
theorem i7 {w0:World} {u0:Value} {a0:List Int} (ha0:(aj u8R 5).rd w0 [u0] a0) {N:Nat} {r:Int × Int} (F:eq N a0=some r): Calls Try.prog 13 #[u0] w0 fun e w'=>∃ (q0:Nat),e=.returned (.pointer (some ⟨q0,0,none⟩))∧Sat w0 w' [Box q0 60 [u0,i_ r.1,i_ r.2]] := by
 unfold eq at F;refine aI Try.func13 rfl rfl (dt rfl) ?_;have S:=Sat.start w0;refine sR fun _ oP=>?_;refine pa (.pointer none) (en oP ?_);refine sR fun _ oQ=>?_;refine pm u0 (pe (i_ (a0.length:Int)) (ap rfl ha0) ?_);obtain ⟨oy,oH,F⟩:=ob F;refine pe (i_ oy) (aS rfl rfl oH) (pa (i_ oy) (en oQ ?_));refine sg fun _ oD=>?_;refine sR fun _ oR=>?_;refine pa (i_ 0) (en oR ?_);refine bg fun _ oE=>?_;obtain ⟨oS,hL,oC⟩:=ob F;refine aV (fun k e w=>∃ (D:Int),∃ (J:Int),e 0=u0∧e 3=i_ D∧e 4=i_ J∧Sat w0 w []∧cP N k a0 D J=some oS) N ?_ ?_ ?_
 ·exact ⟨oy,0,rfl,rfl,rfl,S,hL⟩
 ·rintro e w ⟨_,_,_,_,_,_,hz⟩; exact nomatch (show none=some _ from hz)
 rintro k o6 o7 ⟨D,J,Y,ot,Z,S,F⟩;refine gn fun _ oz=>?_;refine sg fun _ oA=>?_;refine sR fun _ oF=>?_;refine pM (i_ J) Z (pM u0 Y (pe (i_ (a0.length:Int)) (ap rfl ha0) (pe (.bool (decide (J < (a0.length:Int)))) (a8 rfl rfl) (pm (.bool (decide (J < (a0.length:Int)))) ?_))));rcases oif F with ⟨U,F⟩|⟨U,F⟩
 ·refine ei U (pM (i_ J) Z (ei U (pe (.bool (decide (J < 4000))) (a8 rfl rfl) (pe (.bool (decide (J < 4000))) (aw rfl U rfl) (en oF ?_)))));rcases oif F with ⟨ou,F⟩|⟨ou,F⟩
  ·refine ct ou (sn oA ?_);refine sg fun _ oT=>?_;refine bg fun _ oU=>?_;refine am (pM (i_ D) ot ?_);obtain ⟨oV,oI,F⟩:=ob F;refine pe (i_ oV) (ic rfl rfl oI) (pM u0 Y (pM (i_ J) Z ?_));obtain ⟨oG,oJ,F⟩:=ob F;refine aD (wA:=w0) rfl ha0 rfl (dt rfl) rfl oJ (dt rfl) ?_;intro o8 o3 o9 oK oL;obtain rfl:=oK;refine pe (.int .u8 oG) (ac rfl ((ah S.below oL) 0 _ rfl)) (pe (i_ (IntKind.i64.wrap oG)) (jC Try.underlying5 Try.underlying3 rfl) ?_);obtain ⟨oW,oM,F⟩:=ob F;refine pe (i_ oW) (aS rfl rfl oM) ?_;obtain ⟨ov,oN,F⟩:=ob F;refine pe (i_ ov) (aS rfl rfl oN) (pe (i_ (cE ov 1073741823)) (jJ rfl rfl) (pa (i_ (cE ov 1073741823)) (ag (bn oU (tn oT (am (pM (i_ J) Z ?_)))))));obtain ⟨oB,oO,F⟩:=ob F;refine pe (i_ oB) (aS rfl rfl oO) (pa (i_ oB) (en oz ?_));replace S:=S.keep 0;exact ⟨(cE ov 1073741823),oB,Y,rfl,rfl,S,F⟩
  refine cf ou (aT (tx oA (tx oz ?_)));replace F:=exB F oC;refine bS oE (tn oD ?_);refine sR fun _ oX=>?_;refine pM u0 Y (pM (i_ D) ot (pe (.agg #[u0,i_ 0,i_ D]) (cB [(0,[u0]),(2,[i_ D])] [u0,i_ 0,i_ D] (d9 (aG rfl (oc ha0)) (d9 rfl rfl)) rfl) ?_));refine bY [u0,i_ 0,i_ D] rfl S (dt rfl) ?_;intro oY ow S o4;refine pa (.pointer (some ⟨ow,0,none⟩)) (en oX (ai (aC rfl rfl ?_)));have hr:=Option.some.inj F;exact ⟨ow,congrArg (fun (r:Int × Int)=>Ending.returned (.pointer (some ⟨ow,0,none⟩))) hr,Eq.mp (congrArg (fun (r:Int × Int)=>Sat w0 oY [Box ow 60 [u0,i_ r.1,i_ r.2]]) hr) (S.keep 1)⟩
 refine eo U (eo U (pe (.bool false) (az rfl U rfl) (en oF (cf rfl (aT (tx oA (tx oz ?_)))))));replace F:=exB F oC;refine bS oE (tn oD ?_);refine sR fun _ oZ=>?_;refine pM u0 Y (pM (i_ D) ot (pe (.agg #[u0,i_ 0,i_ D]) (cB [(0,[u0]),(2,[i_ D])] [u0,i_ 0,i_ D] (d9 (aG rfl (oc ha0)) (d9 rfl rfl)) rfl) ?_));refine bY [u0,i_ 0,i_ D] rfl S (dt rfl) ?_;intro o0 ox S o5;refine pa (.pointer (some ⟨ox,0,none⟩)) (en oZ (ai (aC rfl rfl ?_)));have hr:=Option.some.inj F;exact ⟨ox,congrArg (fun (r:Int × Int)=>Ending.returned (.pointer (some ⟨ox,0,none⟩))) hr,Eq.mp (congrArg (fun (r:Int × Int)=>Sat w0 o0 [Box ox 60 [u0,i_ r.1,i_ r.2]]) hr) (S.keep 1)⟩
theorem dn {w0:World} {Y:World} {G0:List Asn} {b0:Nat} {u0:Value} {a0:List Int} {a1:Int} {a2:Int} (ha0:(aj u8R 5).rd Y [u0] a0) (S:Sat Y w0 (Box b0 60 [u0,i_ a1,i_ a2] :: G0)) {N:Nat} {r:Int × Int × Int} (F:cH N a0 a1 a2=some r): Calls Try.prog 42 #[.pointer (some ⟨b0,0,none⟩)] w0 fun e w'=>e=.returned (i_ r.1)∧Sat Y w' (Box b0 60 [u0,i_ r.2.1,i_ r.2.2] :: G0) := by
 unfold cH at F;refine aI Try.func42 rfl rfl (dt rfl) ?_;refine sR fun _ oD=>?_;refine pa (i_ 0) (en oD ?_);refine sR fun _ oE=>?_;refine pm (.pointer (some ⟨b0,0,none⟩)) (pm (.pointer (some ⟨b0,0,none⟩)) (pe (.pointer (some ⟨b0,0,none⟩)) (bu rfl) (pe (.pointer (some ⟨b0,0 + 2,none⟩)) (ae rfl) (pe (i_ a2) (ac rfl ((S.boxAt 0 rfl) 2 _ rfl)) (pe (i_ (IntKind.i64.wrap (a2 * 6364136223846793005))) (mR rfl rfl) (pe (i_ (IntKind.i64.wrap ((IntKind.i64.wrap (a2 * 6364136223846793005)) + 1442695040888963407))) (iS rfl rfl) (pe (.pointer (some ⟨b0,0,none⟩)) (bu rfl) (pe (.pointer (some ⟨b0,0 + 2,none⟩)) (ae rfl) ?_))))))));refine aA (S.top 0 rfl) rfl [i_ (IntKind.i64.wrap ((IntKind.i64.wrap (a2 * 6364136223846793005)) + 1442695040888963407))] rfl rfl (dt rfl) (all_cons rfl rfl) ?_;intro oF S;replace S:Sat Y oF (Box b0 60 [u0,i_ a1,i_ (IntKind.i64.wrap ((IntKind.i64.wrap (a2 * 6364136223846793005)) + 1442695040888963407))] :: G0):=S;refine en oE ?_;refine sg fun _ oG=>?_;refine bA (by kernel_rfl) (by kernel_rfl) ?_;refine qm (.pointer (some ⟨b0,0,none⟩)) (qe (.pointer (some ⟨b0,0,none⟩)) (bu rfl) (qe (.pointer (some ⟨b0,0 + 2,none⟩)) (ae rfl) (qe (i_ (IntKind.i64.wrap ((IntKind.i64.wrap (a2 * 6364136223846793005)) + 1442695040888963407))) (ac rfl ((S.boxAt 0 rfl) 2 _ rfl)) ?_)));obtain ⟨D,ov,F⟩:=ob F;refine qe (i_ D) (lb rfl rfl ov) (qm (.pointer (some ⟨b0,0,none⟩)) (qe (.pointer (some ⟨b0,0,none⟩)) (bu rfl) (qe (.pointer (some ⟨b0,0 + 2,none⟩)) (ae rfl) (qe (i_ (IntKind.i64.wrap ((IntKind.i64.wrap (a2 * 6364136223846793005)) + 1442695040888963407))) (ac rfl ((S.boxAt 0 rfl) 2 _ rfl)) ?_))));obtain ⟨J,ow,F⟩:=ob F;refine qe (i_ J) (lb rfl rfl ow) (qe (i_ (dH D J)) (nN rfl rfl) (qe (i_ (cE (dH D J) 255)) (jJ rfl rfl) (qe (i_ (cE (dH D J) 255)) (cm rfl) (bf ?_))));intro oN ox;replace S:=S.ext ox;refine tn oG ?_;refine sg fun _ ot=>?_;refine sg fun _ oH=>?_;refine bA (by kernel_rfl) (by kernel_rfl) ?_;refine qm (.pointer (some ⟨b0,0,none⟩)) (qe (.pointer (some ⟨b0,0,none⟩)) (bu rfl) (qe (.pointer (some ⟨b0,0 + 1,none⟩)) (ae rfl) (qe (i_ a1) (ac rfl ((S.boxAt 0 rfl) 1 _ rfl)) (qm (.pointer (some ⟨b0,0,none⟩)) (qe (.pointer (some ⟨b0,0,none⟩)) (bu rfl) (qe (.pointer (some ⟨b0,0 + 0,none⟩)) (ae rfl) (qe u0 (ac rfl ((S.boxAt 0 rfl) 0 _ rfl)) (qe (i_ (a0.length:Int)) (ap rfl ha0) (qe (.bool (decide (a1 < (a0.length:Int)))) (a8 rfl rfl) (bf ?_))))))))));intro oI oy;replace S:=S.ext oy;refine tn oH ?_;rcases oif F with ⟨Z,F⟩|⟨Z,F⟩
 ·refine ct Z ?_;refine sg fun _ oJ=>?_;refine bA (by kernel_rfl) (by kernel_rfl) ?_;refine qm (i_ (cE (dH D J) 255)) (qm (.pointer (some ⟨b0,0,none⟩)) (qe (.pointer (some ⟨b0,0,none⟩)) (bu rfl) (qe (.pointer (some ⟨b0,0 + 0,none⟩)) (ae rfl) (qe u0 (ac rfl ((S.boxAt 0 rfl) 0 _ rfl)) (qm (.pointer (some ⟨b0,0,none⟩)) (qe (.pointer (some ⟨b0,0,none⟩)) (bu rfl) (qe (.pointer (some ⟨b0,0 + 1,none⟩)) (ae rfl) (qe (i_ a1) (ac rfl ((S.boxAt 0 rfl) 1 _ rfl)) ?_))))))));obtain ⟨U,oz,F⟩:=ob F;refine aJ (wA:=Y) rfl ha0 rfl (dt rfl) rfl oz (dt rfl) ?_;intro oO oM oP oA oB;obtain rfl:=oA;refine qe (.int .u8 U) (ac rfl ((ah S.below oB) 0 _ rfl)) (qe (i_ (IntKind.i64.wrap U)) (jC Try.underlying5 Try.underlying3 rfl) (qe (i_ (IntKind.i64.wrap ((cE (dH D J) 255) + (IntKind.i64.wrap U)))) (iS rfl rfl) (qe (i_ (cE (IntKind.i64.wrap ((cE (dH D J) 255) + (IntKind.i64.wrap U))) 255)) (jJ rfl rfl) (qe (i_ (cE (IntKind.i64.wrap ((cE (dH D J) 255) + (IntKind.i64.wrap U))) 255)) (cm rfl) (bf ?_)))));intro oQ oC;replace S:=S.ext oC;refine tn oJ (am (pm (.pointer (some ⟨b0,0,none⟩)) (pm (.pointer (some ⟨b0,0,none⟩)) (pe (.pointer (some ⟨b0,0,none⟩)) (bu rfl) (pe (.pointer (some ⟨b0,0 + 1,none⟩)) (ae rfl) (pe (i_ a1) (ac rfl ((S.boxAt 0 rfl) 1 _ rfl)) (pe (i_ (IntKind.i64.wrap (a1 + 1))) (iS rfl rfl) (pe (.pointer (some ⟨b0,0,none⟩)) (bu rfl) (pe (.pointer (some ⟨b0,0 + 1,none⟩)) (ae rfl) ?_)))))))));refine aA (S.top 0 rfl) rfl [i_ (IntKind.i64.wrap (a1 + 1))] rfl rfl (dt rfl) (all_cons rfl rfl) ?_;intro ou S;replace S:Sat Y ou (Box b0 60 [u0,i_ (IntKind.i64.wrap (a1 + 1)),i_ (IntKind.i64.wrap ((IntKind.i64.wrap (a2 * 6364136223846793005)) + 1442695040888963407))] :: G0):=S;refine en ot ?_;refine sR fun _ oK=>?_;refine pm (i_ (cE (IntKind.i64.wrap ((cE (dH D J) 255) + (IntKind.i64.wrap U))) 255)) (pa (i_ (cE (IntKind.i64.wrap ((cE (dH D J) 255) + (IntKind.i64.wrap U))) 255)) (en oK (ai (aC rfl rfl ?_))));have hr:=Option.some.inj F;exact ⟨(congrArg (fun (r:Int × Int × Int)=>Ending.returned (i_ r.1)) hr :),Eq.mp (congrArg (fun (r:Int × Int × Int)=>Sat Y ou (Box b0 60 [u0,i_ r.2.1,i_ r.2.2] :: G0)) hr :) S⟩
 refine cf Z (sn ot ?_);refine sR fun _ oL=>?_;refine pm (i_ (cE (dH D J) 255)) (pa (i_ (cE (dH D J) 255)) (en oL (ai (aC rfl rfl ?_))));have hr:=Option.some.inj F;exact ⟨(congrArg (fun (r:Int × Int × Int)=>Ending.returned (i_ r.1)) hr :),Eq.mp (congrArg (fun (r:Int × Int × Int)=>Sat Y oI (Box b0 60 [u0,i_ r.2.1,i_ r.2.2] :: G0)) hr :) S⟩
theorem cN {w0:World} {D:World} {G0:List Asn} {b0:Nat} {u0:Value} {a0:List Int} {a1:Int} {a2:Int} {a3:Int} (ha0:(aj u8R 5).rd D [u0] a0) (S:Sat D w0 (Box b0 60 [u0,i_ a1,i_ a2] :: G0)) {N:Nat} {r:Int × Int × Int} (F:cb N a0 a1 a2 a3=some r): Calls Try.prog 31 #[.pointer (some ⟨b0,0,none⟩),i_ a3] w0 fun e w'=>e=.returned (i_ r.1)∧Sat D w' (Box b0 60 [u0,i_ r.2.1,i_ r.2.2] :: G0) := by
 unfold cb at F;refine aI Try.func31 rfl rfl (dt rfl) ?_;refine sR fun _ oP=>?_;refine pa (i_ 0) (en oP ?_);refine sg fun _ ov=>?_;refine sR fun _ oQ=>?_;refine pm (i_ a3) (pe (.bool (decide (a3 ≤ 0))) (gB rfl rfl) (en oQ ?_));rcases oif F with ⟨J,F⟩|⟨J,F⟩
 ·refine ct J ?_;refine sR fun _ oR=>?_;refine pa (i_ 0) (en oR (ai (tr ov (aC rfl rfl ?_))));have hr:=Option.some.inj F;exact ⟨(congrArg (fun (r:Int × Int × Int)=>Ending.returned (i_ r.1)) hr :),Eq.mp (congrArg (fun (r:Int × Int × Int)=>Sat D w0 (Box b0 60 [u0,i_ r.2.1,i_ r.2.2] :: G0)) hr :) S⟩
 refine cf J (sn ov ?_);refine sg fun _ ow=>?_;refine sR fun _ oS=>?_;refine pm (i_ a3) (pe (.bool (decide (a3 ≤ 256))) (gB rfl rfl) (en oS ?_));rcases oif F with ⟨U,F⟩|⟨U,F⟩
 ·refine ct U ?_;refine sR fun _ oT=>?_;refine pm (.pointer (some ⟨b0,0,none⟩)) ?_;obtain ⟨ox,oC,F⟩:=ob F;refine aR gz (dn ha0 S oC) (ca (ak rfl rfl)) (dt rfl) ?_;rintro _ oy ⟨rfl,S⟩;refine ⟨_,rfl,?_⟩;replace S:Sat D oy (Box b0 60 [u0,i_ ox.2.1,i_ ox.2.2] :: G0):=S;refine pm (i_ a3) ?_;obtain ⟨oz,oD,F⟩:=ob F;refine pe (i_ oz) (lz rfl rfl oD) (pa (i_ oz) (en oT (ai (tr ow (aC rfl rfl ?_)))));have hr:=Option.some.inj F;exact ⟨(congrArg (fun (r:Int × Int × Int)=>Ending.returned (i_ r.1)) hr :),Eq.mp (congrArg (fun (r:Int × Int × Int)=>Sat D oy (Box b0 60 [u0,i_ r.2.1,i_ r.2.2] :: G0)) hr :) S⟩
 refine cf U (sn ow ?_);refine sR fun _ oU=>?_;refine pm (.pointer (some ⟨b0,0,none⟩)) ?_;obtain ⟨Y,oE,F⟩:=ob F;refine aR gz (dn ha0 S oE) (ca (ak rfl rfl)) (dt rfl) ?_;rintro _ oV ⟨rfl,S⟩;refine ⟨_,rfl,?_⟩;replace S:Sat D oV (Box b0 60 [u0,i_ Y.2.1,i_ Y.2.2] :: G0):=S;refine pa (i_ Y.1) (en oU ?_);refine sR fun _ oW=>?_;refine pm (.pointer (some ⟨b0,0,none⟩)) ?_;obtain ⟨Z,oF,F⟩:=ob F;refine aR gz (dn ha0 S oF) (ca (ak rfl rfl)) (dt rfl) ?_;rintro _ oX ⟨rfl,S⟩;refine ⟨_,rfl,?_⟩;replace S:Sat D oX (Box b0 60 [u0,i_ Z.2.1,i_ Z.2.2] :: G0):=S;refine pa (i_ Z.1) (en oW ?_);refine sR fun _ oY=>?_;refine pm (.pointer (some ⟨b0,0,none⟩)) ?_;obtain ⟨ot,oG,F⟩:=ob F;refine aR gz (dn ha0 S oG) (ca (ak rfl rfl)) (dt rfl) ?_;rintro _ oZ ⟨rfl,S⟩;refine ⟨_,rfl,?_⟩;replace S:Sat D oZ (Box b0 60 [u0,i_ ot.2.1,i_ ot.2.2] :: G0):=S;refine pa (i_ ot.1) (en oY ?_);refine sR fun _ o0=>?_;refine pm (.pointer (some ⟨b0,0,none⟩)) ?_;obtain ⟨ou,oH,F⟩:=ob F;refine aR gz (dn ha0 S oH) (ca (ak rfl rfl)) (dt rfl) ?_;rintro _ oA ⟨rfl,S⟩;refine ⟨_,rfl,?_⟩;replace S:Sat D oA (Box b0 60 [u0,i_ ou.2.1,i_ ou.2.2] :: G0):=S;refine pa (i_ ou.1) (en o0 ?_);refine sR fun _ o3=>?_;refine pm (i_ Y.1) ?_;obtain ⟨o4,oI,F⟩:=ob F;refine pe (i_ o4) (ic rfl rfl oI) (pm (i_ Z.1) ?_);obtain ⟨o5,oJ,F⟩:=ob F;refine pe (i_ o5) (ic rfl rfl oJ) ?_;obtain ⟨o6,oK,F⟩:=ob F;refine pe (i_ o6) (aS rfl rfl oK) (pm (i_ ot.1) ?_);obtain ⟨o7,oL,F⟩:=ob F;refine pe (i_ o7) (ic rfl rfl oL) ?_;obtain ⟨o8,oM,F⟩:=ob F;refine pe (i_ o8) (aS rfl rfl oM) (pm (i_ ou.1) ?_);obtain ⟨o9,oN,F⟩:=ob F;refine pe (i_ o9) (aS rfl rfl oN) (pm (i_ a3) ?_);obtain ⟨oB,oO,F⟩:=ob F;refine pe (i_ oB) (lz rfl rfl oO) (pa (i_ oB) (en o3 (ai (aC rfl rfl ?_))));have hr:=Option.some.inj F;exact ⟨(congrArg (fun (r:Int × Int × Int)=>Ending.returned (i_ r.1)) hr :),Eq.mp (congrArg (fun (r:Int × Int × Int)=>Sat D oA (Box b0 60 [u0,i_ r.2.1,i_ r.2.2] :: G0)) hr :) S⟩
theorem gk {w0:World} {Y:World} {G0:List Asn} {b0:Nat} {u0:Value} {a0:List Int} {a1:Int} {a2:Int} {a3:Int} {a4:Int} (ha0:(aj u8R 5).rd Y [u0] a0) (S:Sat Y w0 (Box b0 60 [u0,i_ a1,i_ a2] :: G0)) {N:Nat} {r:T0_ × Int × Int} (F:dU N a0 a1 a2 a3 a4=some r): Calls Try.prog 33 #[.pointer (some ⟨b0,0,none⟩),i_ a3,i_ a4] w0 fun e w'=>∃ (q0:Value),e=.returned (q0)∧Sat Y w' (Own R0_ [q0] r.1 :: Box b0 60 [u0,i_ r.2.1,i_ r.2.2] :: G0) := by
 unfold dU at F;refine aI Try.func33 rfl rfl (dt rfl) ?_;refine sR fun _ oL=>?_;refine pa n_ (en oL ?_);refine sR fun _ oM=>?_;refine bF cK S (dt rfl) ?_;intro oX oC S oV;refine pa oC (en oM ?_);refine sg fun _ oN=>?_;refine bg fun _ oO=>?_;obtain ⟨oP,hL,oI⟩:=ob F;refine aV (fun k e w=>∃ (Z:Int),∃ (ot:Int),∃ (J:Value),∃ (U:List Int),e 0=.pointer (some ⟨b0,0,none⟩)∧e 1=i_ a3∧e 2=i_ a4∧e 7=J∧Sat Y w (Own R0_ [J] U :: Box b0 60 [u0,i_ Z,i_ ot] :: G0)∧c8 N k a0 Z ot a3 a4 U=some oP) N ?_ ?_ ?_
 ·exact ⟨a1,a2,oC,[],rfl,rfl,rfl,rfl,S,hL⟩
 ·rintro e w ⟨_,_,_,_,_,_,_,_,_,hz⟩; exact nomatch (show none=some _ from hz)
 rintro k oY oD ⟨Z,ot,J,U,oy,oz,oA,ou,S,F⟩;refine gn fun _ oE=>?_;refine sg fun _ oF=>?_;refine sR fun _ oQ=>?_;refine pM J ou (pe (i_ (U.length:Int)) (ap rfl (S.rdAt (R:=R0_) 0 rfl)) (pM (i_ a3) oz (pe (.bool (decide ((U.length:Int) < a3))) (a8 rfl rfl) (en oQ ?_))));rcases oif F with ⟨ov,F⟩|⟨ov,F⟩
 ·refine ct ov (sn oF ?_);refine bg fun _ oR=>?_;refine am (pM J ou (pM (.pointer (some ⟨b0,0,none⟩)) oy (pM (i_ a4) oA ?_)));replace S:Sat Y oD (Box b0 60 [u0,i_ Z,i_ ot] :: Own R0_ [J] U :: G0):=S.tops 2 [1] rfl;obtain ⟨D,oJ,F⟩:=ob F;refine aR fU (cN ha0 S oJ) (ca (ak rfl (ak rfl rfl))) (dt rfl) ?_;rintro _ oS ⟨rfl,S⟩;refine ⟨_,rfl,?_⟩;replace S:Sat Y oS (Box b0 60 [u0,i_ D.2.1,i_ D.2.2] :: Own R0_ [J] U :: G0):=S;refine au [i_ D.1] rfl (by rfl) (dt rfl) rfl (dt rfl) S (dt rfl) ?_;intro oT oG S oW;obtain ⟨ox,oK,F⟩:=ob F;have oB:=S.boxRow 0 rfl;replace S:Sat Y oT (Own R0_ [J] U :: Box oG 3 [i_ D.1] :: Box b0 60 [u0,i_ D.2.1,i_ D.2.2] :: G0):=S.top 2 rfl;replace S:=S.int D.1;replace S:=S.one;refine aE rfl (dt rfl) rfl (dt rfl) S rfl rfl rfl (by simp) oB oK (dt rfl) ?_;intro oH ow S;refine pa ow (ag (bn oR (tn oE ?_)));replace S:Sat Y oH (Own R0_ [ow] ox :: Box b0 60 [u0,i_ D.2.1,i_ D.2.2] :: Box oG 3 [i_ D.1] :: G0):=S.tops 3 [0,2] rfl;replace S:Sat Y oH (Own R0_ [ow] ox :: Box b0 60 [u0,i_ D.2.1,i_ D.2.2] :: G0):=S.rems 3 [2] rfl;exact ⟨D.2.1,D.2.2,ow,ox,oy,oz,oA,rfl,S,F⟩
 refine cf ov (aT (tx oF (tx oE ?_)));replace F:=exB F oI;refine bS oO (tn oN ?_);refine sR fun _ oU=>?_;refine pM J ou (pa J (en oU (ai (aC rfl rfl ?_))));have hr:=Option.some.inj F;exact ⟨J,(congrArg (fun (r:T0_ × Int × Int)=>Ending.returned (J)) hr :),Eq.mp (congrArg (fun (r:T0_ × Int × Int)=>Sat Y oD (Own R0_ [J] r.1 :: Box b0 60 [u0,i_ r.2.1,i_ r.2.2] :: G0)) hr :) S⟩
theorem gC {w0:World} {a0:Int} {a1:Int} {a2:Int}  {N:Nat} {r:Bool} (F:el N a0 a1 a2=some r): Calls Try.prog 19 #[i_ a0,i_ a1,i_ a2] w0 fun e w'=>e=.returned (.bool r)∧Ext w0 w' := by
 unfold el at F;refine aI Try.func19 rfl rfl (dt rfl) ?_;have S:=Sat.start w0;refine sR fun _ U=>?_;refine pa (.bool false) (en U ?_);refine sR fun _ J=>?_;refine pm (i_ a0) (pm (i_ a1) (pe (.bool (decide (a1 ≤ a0))) (fW rfl rfl) (pm (.bool (decide (a1 ≤ a0))) ?_)));rcases oif F with ⟨D,F⟩|⟨D,F⟩
 ·refine ei D (pm (i_ a0) (ei D (pm (i_ a2) (ei D (pe (.bool (decide (a0 ≤ a2))) (gB rfl rfl) (pe (.bool (decide (a0 ≤ a2))) (aw rfl D rfl) (pa (.bool (decide (a0 ≤ a2))) (en J (ai (aC rfl rfl ?_))))))))));exact rB F S
 refine eo D (eo D (eo D (pe (.bool false) (az rfl D rfl) (pa (.bool false) (en J (ai (aC rfl rfl ?_)))))));exact rB F S
theorem dZ {w0:World} {u0:Value} {a0:List Int} (ha0:R0_.rd w0 [u0] a0) {N:Nat} {r:Bool} (F:b8 N a0=some r): Calls Try.prog 20 #[u0] w0 fun e w'=>e=.returned (.bool r)∧Ext w0 w' := by
 unfold b8 at F;refine aI Try.func20 rfl rfl (dt rfl) ?_;have S:=Sat.start w0;refine sR fun _ oG=>?_;refine pa (.bool false) (en oG ?_);refine sg fun _ ow=>?_;refine sR fun _ oH=>?_;refine pa (i_ 0) (en oH ?_);refine bg fun _ ox=>?_;obtain ⟨oI,hL,ov⟩:=ob F;refine aV (fun k e w=>∃ (D:Int),e 0=u0∧e 3=i_ D∧Sat w0 w []∧bm N k a0 D=some oI) N ?_ ?_ ?_
 ·exact ⟨0,rfl,rfl,S,hL⟩
 ·rintro e w ⟨_,_,_,_,hz⟩; exact nomatch (show none=some _ from hz)
 rintro k oR oS ⟨D,J,U,S,F⟩;refine gn fun _ ot=>?_;refine sg fun _ oy=>?_;refine sR fun _ oJ=>?_;refine pM (i_ D) U (pM u0 J (pe (i_ (a0.length:Int)) (ap rfl ha0) (pe (.bool (decide (D < (a0.length:Int)))) (a8 rfl rfl) (en oJ ?_))));rcases oif F with ⟨Y,F⟩|⟨Y,F⟩
 ·refine ct Y (sn oy ?_);refine sg fun _ oz=>?_;refine bg fun _ oA=>?_;refine sR fun _ oK=>?_;refine pM u0 J (pM (i_ D) U ?_);obtain ⟨oL,oB,F⟩:=ob F;refine aD (wA:=w0) rfl ha0 rfl (dt rfl) rfl oB (dt rfl) ?_;intro oT oP oU oC oD;obtain rfl:=oC;refine pe (i_ oL) (ac rfl ((ah S.below oD) 0 _ rfl)) ?_;obtain ⟨oM,oE,F⟩:=ob F;refine ec0 kX (gC oE) (ca (ak rfl (ak rfl (ak rfl rfl)))) S fun oV oQ S=>?_;refine pe (.bool (!oM)) (bP rfl) (en oK ?_);rcases oif F with ⟨Z,F⟩|⟨Z,F⟩
  ·refine cf (av Z) (aZ (bn oA (tn oz (am (pM (i_ D) U ?_)))));obtain ⟨ou,oF,F⟩:=ob F;refine pe (i_ ou) (aS rfl rfl oF) (pa (i_ ou) (en ot ?_));replace S:=S.keep 0;exact ⟨ou,J,rfl,S,F⟩
  refine ct (ax Z) ?_;refine sR fun _ oN=>?_;refine pa (.bool false) (en oN (ai (br oA (tr oz (tr ot (br ox (tr ow ?_)))))));replace F:=exL F ov;refine aC rfl rfl ?_;exact rB F S
 refine cf Y (aT (tx oy (tx ot ?_)));replace F:=exA F ov;refine bS ox (tn ow ?_);refine sR fun _ oO=>?_;refine pa (.bool true) (en oO (ai (aC rfl rfl ?_)));exact rB F S
theorem aN {w0:World} {u0:Value} {a0:List Int} {u1:Value} {a1:List Int} (ha0:R0_.rd w0 [u0] a0) (ha1:R0_.rd w0 [u1] a1) {N:Nat} {r:Int} (F:aK N a0 a1=some r): Calls Try.prog 21 #[u0,u1] w0 fun e w'=>e=.returned (i_ r)∧Ext w0 w' := by
 unfold aK at F;refine aI Try.func21 rfl rfl (dt rfl) ?_;have S:=Sat.start w0;refine sR fun _ o9=>?_;refine pa (i_ 0) (en o9 ?_);refine sg fun _ ov=>?_;refine sR fun _ pb=>?_;refine pa (i_ 0) (en pb ?_);refine bg fun _ ow=>?_;obtain ⟨pc,hL,ot⟩:=ob F;refine aV (fun k e w=>∃ (D:Int),e 0=u0∧e 1=u1∧e 5=i_ D∧Sat w0 w []∧cx N k a0 a1 D=some pc) N ?_ ?_ ?_
 ·exact ⟨0,rfl,rfl,rfl,S,hL⟩
 ·rintro e w ⟨_,_,_,_,_,hz⟩; exact nomatch (show none=some _ from hz)
 rintro k pz pA ⟨D,U,Y,Z,S,F⟩;refine gn fun _ ou=>?_;refine sg fun _ oE=>?_;refine sR fun _ oI=>?_;refine pM (i_ D) Z (pM u0 U (pe (i_ (a0.length:Int)) (ap rfl ha0) (pe (.bool (decide (D < (a0.length:Int)))) (a8 rfl rfl) (pm (.bool (decide (D < (a0.length:Int)))) ?_))));rcases oif F with ⟨J,F⟩|⟨J,F⟩
 ·refine ei J (pM (i_ D) Z (ei J (pM u1 Y (ei J (pe (i_ (a1.length:Int)) (ap rfl ha1) (ei J (pe (.bool (decide (D < (a1.length:Int)))) (a8 rfl rfl) (pe (.bool (decide (D < (a1.length:Int)))) (aw rfl J rfl) (en oI ?_)))))))));rcases oif F with ⟨ox,F⟩|⟨ox,F⟩
  ·refine ct ox (sn oE ?_);refine sg fun _ oF=>?_;refine bg fun _ oG=>?_;refine sg fun _ oJ=>?_;refine sg fun _ pd=>?_;refine bA (by kernel_rfl) (by kernel_rfl) ?_;refine qM u0 U (qM (i_ D) Z ?_);obtain ⟨oK,oS,F⟩:=ob F;refine aJ (wA:=w0) rfl ha0 rfl (dt rfl) rfl oS (dt rfl) ?_;intro pB pv pC oT oU;obtain rfl:=oT;refine qe (i_ oK) (ac rfl ((ah S.below oU) 0 _ rfl)) (qM u1 Y (qM (i_ D) Z ?_));obtain ⟨oL,oV,F⟩:=ob F;refine aJ (wA:=w0) rfl ha1 rfl (dt rfl) rfl oV (dt rfl) ?_;intro pD pw pE oW oX;obtain rfl:=oW;refine qe (i_ oL) (ac rfl ((ah S.below oX) 0 _ rfl)) (qe (.bool (decide (oK < oL))) (a8 rfl rfl) (bf ?_));intro pF oY;replace S:=S.ext oY;refine tn pd ?_;rcases oif F with ⟨oy,F⟩|⟨oy,F⟩
   ·refine ct oy ?_;refine sR fun _ pf=>?_;refine pa (i_ (-1)) (en pf (ai (tr oJ (br oG (tr oF (tr ou (br ow (tr ov ?_))))))));replace F:=exL F ot;refine aC rfl rfl ?_;exact rI F S
   refine cf oy (sn oJ ?_);refine sg fun _ pg=>?_;refine bA (by kernel_rfl) (by kernel_rfl) ?_;refine qM u0 U (qM (i_ D) Z ?_);obtain ⟨oM,oZ,F⟩:=ob F;refine aJ (wA:=w0) rfl ha0 rfl (dt rfl) rfl oZ (dt rfl) ?_;intro pG px pH o0 o3;obtain rfl:=o0;refine qe (i_ oM) (ac rfl ((ah S.below o3) 0 _ rfl)) (qM u1 Y (qM (i_ D) Z ?_));obtain ⟨oN,o4,F⟩:=ob F;refine aJ (wA:=w0) rfl ha1 rfl (dt rfl) rfl o4 (dt rfl) ?_;intro pI py pJ o5 o6;obtain rfl:=o5;refine qe (i_ oN) (ac rfl ((ah S.below o6) 0 _ rfl)) (qe (.bool (decide (oN < oM))) (bD rfl rfl) (bf ?_));intro pK o7;replace S:=S.ext o7;refine tn pg ?_;rcases oif F with ⟨oz,F⟩|⟨oz,F⟩
   ·refine ct oz ?_;refine sR fun _ ph=>?_;refine pa (i_ 1) (en ph (ai (br oG (tr oF (tr ou (br ow (tr ov ?_)))))));replace F:=exL F ot;refine aC rfl rfl ?_;exact rI F S
   refine cf oz (aZ (bn oG (tn oF (am (pM (i_ D) Z ?_)))));obtain ⟨oH,o8,F⟩:=ob F;refine pe (i_ oH) (aS rfl rfl o8) (pa (i_ oH) (en ou ?_));replace S:=S.keep 0;exact ⟨oH,U,Y,rfl,S,F⟩
  refine cf ox (aT (tx oE (tx ou ?_)));replace F:=exA F ot;refine bS ow (tn ov ?_);refine sg fun _ oO=>?_;refine sR fun _ pi=>?_;refine pM u0 U (pe (i_ (a0.length:Int)) (ap rfl ha0) (pM u1 Y (pe (i_ (a1.length:Int)) (ap rfl ha1) (pe (.bool (decide ((a0.length:Int) < (a1.length:Int)))) (a8 rfl rfl) (en pi ?_)))));rcases oif F with ⟨oA,F⟩|⟨oA,F⟩
  ·refine ct oA ?_;refine sR fun _ pj=>?_;refine pa (i_ (-1)) (en pj (ai (tr oO (aC rfl rfl ?_))));exact rI F S
  refine cf oA (sn oO ?_);refine sg fun _ oP=>?_;refine sR fun _ pk=>?_;refine pM u0 U (pe (i_ (a0.length:Int)) (ap rfl ha0) (pM u1 Y (pe (i_ (a1.length:Int)) (ap rfl ha1) (pe (.bool (decide ((a1.length:Int) < (a0.length:Int)))) (bD rfl rfl) (en pk ?_)))));rcases oif F with ⟨oB,F⟩|⟨oB,F⟩
  ·refine ct oB ?_;refine sR fun _ pn=>?_;refine pa (i_ 1) (en pn (ai (tr oP (aC rfl rfl ?_))));exact rI F S
  refine cf oB (sn oP ?_);refine sR fun _ po=>?_;refine pa (i_ 0) (en po (ai (aC rfl rfl ?_)));exact rI F S
 refine eo J (eo J (eo J (eo J (pe (.bool false) (az rfl J rfl) (en oI (cf rfl (aT (tx oE (tx ou ?_)))))))));replace F:=exA F ot;refine bS ow (tn ov ?_);refine sg fun _ oQ=>?_;refine sR fun _ pp=>?_;refine pM u0 U (pe (i_ (a0.length:Int)) (ap rfl ha0) (pM u1 Y (pe (i_ (a1.length:Int)) (ap rfl ha1) (pe (.bool (decide ((a0.length:Int) < (a1.length:Int)))) (a8 rfl rfl) (en pp ?_)))));rcases oif F with ⟨oC,F⟩|⟨oC,F⟩
 ·refine ct oC ?_;refine sR fun _ pq=>?_;refine pa (i_ (-1)) (en pq (ai (tr oQ (aC rfl rfl ?_))));exact rI F S
 refine cf oC (sn oQ ?_);refine sg fun _ oR=>?_;refine sR fun _ pr=>?_;refine pM u0 U (pe (i_ (a0.length:Int)) (ap rfl ha0) (pM u1 Y (pe (i_ (a1.length:Int)) (ap rfl ha1) (pe (.bool (decide ((a1.length:Int) < (a0.length:Int)))) (bD rfl rfl) (en pr ?_)))));rcases oif F with ⟨oD,F⟩|⟨oD,F⟩
 ·refine ct oD ?_;refine sR fun _ pt=>?_;refine pa (i_ 1) (en pt (ai (tr oR (aC rfl rfl ?_))));exact rI F S
 refine cf oD (sn oR ?_);refine sR fun _ pu=>?_;refine pa (i_ 0) (en pu (ai (aC rfl rfl ?_)));exact rI F S
theorem c5 {w0:World} {a0:Int} {u1:Value} {a1:List T0_} (ha1:R1_.rd w0 [u1] a1) {N:Nat} {r:Bool} (F:bC N a0 a1=some r): Calls Try.prog 7 #[.agg #[i_ a0,u1]] w0 fun e w'=>e=.returned (.bool r)∧Ext w0 w' := by
 unfold bC at F;refine aI Try.func7 rfl rfl (dt rfl) ?_;have S:=Sat.start w0;refine sR fun _ pg=>?_;refine bY [i_ a0,u1] rfl S (dt rfl) ?_;intro pI ov S pC;refine pa (.bool false) (en pg ?_);refine sg fun _ oI=>?_;refine sR fun _ oQ=>?_;refine pe (.pointer (some ⟨ov,0 + 0,none⟩)) (ae rfl) (pe (i_ a0) (ac rfl ((S.boxAt 0 rfl) 0 _ rfl)) ?_);obtain ⟨oR,oU,F⟩:=ob F;refine ec0 kX (gC oU) (ca (ak rfl (ak rfl (ak rfl rfl)))) S fun oS pD S=>?_;refine pe (.bool (!oR)) (bP rfl) (pm (.bool (!oR)) ?_);rcases oif F with ⟨Y,F⟩|⟨Y,F⟩
 ·refine ei (av Y) (pe (.pointer (some ⟨ov,0 + 1,none⟩)) (ae rfl) (ei (av Y) (pe u1 (ac rfl ((S.boxAt 0 rfl) 1 _ rfl)) (ei (av Y) (pe (i_ (a1.length:Int)) (ap rfl ha1) (ei (av Y) (pe (.bool (decide (4000 < (a1.length:Int)))) (bD rfl rfl) (pe (.bool (decide (4000 < (a1.length:Int)))) (az rfl (av Y) rfl) (en oQ ?_)))))))));rcases oif F with ⟨oA,F⟩|⟨oA,F⟩
  ·refine ct oA ?_;refine sg fun _ ph=>?_;replace S:Sat w0 oS []:=S.rems 1 [0] rfl;refine am (pa (.bool false) (en ph (ai (tr oI (aC rfl rfl ?_)))));exact rB F S
  refine cf oA (sn oI ?_);refine sg fun _ oB=>?_;refine sR fun _ pi=>?_;refine pa (i_ 0) (en pi ?_);refine bg fun _ oC=>?_;obtain ⟨pj,hL,ox⟩:=ob F;refine aV (fun k e w=>∃ (Z:Int),e 1=.pointer (some ⟨ov,0,none⟩)∧e 3=i_ Z∧Sat w0 w [Box ov 26 [i_ a0,u1]]∧bb N k a0 a1 Z=some pj) N ?_ ?_ ?_
  ·exact ⟨0,rfl,rfl,S,hL⟩
  ·rintro e w ⟨_,_,_,_,hz⟩; exact nomatch (show none=some _ from hz)
  rintro k pJ pk ⟨Z,ot,ou,S,F⟩;refine gn fun _ ow=>?_;refine sg fun _ oT=>?_;refine sR fun _ pn=>?_;refine pM (i_ Z) ou (pe (.pointer (some ⟨ov,0 + 1,none⟩)) (ae ot) (pe u1 (ac rfl ((S.boxAt 0 rfl) 1 _ rfl)) (pe (i_ (a1.length:Int)) (ap rfl ha1) (pe (.bool (decide (Z < (a1.length:Int)))) (a8 rfl rfl) (en pn ?_)))));rcases oif F with ⟨oD,F⟩|⟨oD,F⟩
  ·refine ct oD (sn oT ?_);refine sg fun _ oy=>?_;refine bg fun _ oz=>?_;refine sg fun _ oE=>?_;refine bA (by kernel_rfl) (by kernel_rfl) ?_;refine qe (.pointer (some ⟨ov,0 + 1,none⟩)) (ae ot) (qe u1 (ac rfl ((S.boxAt 0 rfl) 1 _ rfl)) (qM (i_ Z) ou ?_));obtain ⟨oJ,oV,F⟩:=ob F;refine aJ (wA:=w0) rfl ha1 rfl (dt rfl) rfl oV (dt rfl) ?_;intro pK pE pL oM oW;obtain ⟨po,rfl⟩:=ar oM;refine qe po (ac rfl ((ah S.below oW) 0 _ rfl)) (qe (i_ (oJ.length:Int)) (ap rfl oM) (qe (.pointer (some ⟨ov,0 + 0,none⟩)) (ae ot) (qe (i_ a0) (ac rfl ((S.boxAt 0 rfl) 0 _ rfl)) (qe (.bool ((oJ.length:Int) != a0)) (bO rfl rfl) (qm (.bool ((oJ.length:Int) != a0)) ?_)))));rcases oif F with ⟨J,F⟩|⟨J,F⟩
   ·refine qo J (qo J (qo J (qo J (qo J (qo J (qo J (qe (.bool true) (aw rfl J rfl) (qm (.bool true) (qo rfl (qo rfl (qo rfl ?_)))))))))));refine bt rfl (dt rfl) ?_;refine bt rfl (dt rfl) ?_;refine bt rfl (dt rfl) ?_;refine bt rfl (dt rfl) ?_;refine bt rfl (dt rfl) ?_;refine bt rfl (dt rfl) ?_;refine bt rfl (dt rfl) ?_;refine bt rfl (dt rfl) ?_;refine bt rfl (dt rfl) ?_;refine bt rfl (dt rfl) ?_;refine bt rfl (dt rfl) ?_;refine bt rfl (dt rfl) ?_;refine bt rfl (dt rfl) ?_;refine qo rfl (qe (.bool true) (aw rfl rfl rfl) (bf ?_));intro pp oX;replace S:=S.ext oX;refine tn oE (ct rfl ?_);refine sg fun _ pq=>?_;replace S:Sat w0 pp []:=S.rems 1 [0] rfl;refine am (pa (.bool false) (en pq (ai (br oz (tr oy (tr ow (br oC (tr oB ?_))))))));replace F:=exL F ox;refine aC rfl rfl ?_;exact rB F S
   refine qi J (qe (.pointer (some ⟨ov,0 + 1,none⟩)) (ae ot) (qi J (qe u1 (ac rfl ((S.boxAt 0 rfl) 1 _ rfl)) (qi J (qM (i_ Z) ou (qi J ?_))))));obtain ⟨pN,oY,F⟩:=ob F;refine aJ (wA:=w0) rfl ha1 rfl (dt rfl) rfl oY (dt rfl) ?_;intro pO pF pP oN oZ;obtain ⟨pr,rfl⟩:=ar oN;refine qi J (qe pr (ac rfl ((ah S.below oZ) 0 _ rfl)) (qi J ?_));obtain ⟨oF,o0,F⟩:=ob F;refine b6 (.bool oF) lG (fun w' hw'=>dZ (bi (S.up oN) hw') o0) (ca (ak rfl rfl)) (dt rfl) ?_;refine qi J (qe (.bool (!oF)) (bP rfl) (qe (.bool (!oF)) (az rfl J rfl) (qm (.bool (!oF)) ?_)));rcases oif F with ⟨U,F⟩|⟨U,F⟩
   ·refine qi (av U) (qM (i_ Z) ou (qi (av U) (qe (.bool (decide (0 < Z))) (bD rfl rfl) (qi (av U) (qm (.bool (decide (0 < Z))) ?_)))));rcases oif F with ⟨D,F⟩|⟨D,F⟩
    ·refine qi D (qe (.pointer (some ⟨ov,0 + 1,none⟩)) (ae ot) (qi D (qe u1 (ac rfl ((S.boxAt 0 rfl) 1 _ rfl)) (qi D (qM (i_ Z) ou (qi D ?_))))));obtain ⟨pt,o3,F⟩:=ob F;refine qe (i_ pt) (cd rfl rfl o3) (qi D ?_);obtain ⟨pQ,o4,F⟩:=ob F;refine aJ (wA:=w0) rfl ha1 rfl (dt rfl) rfl o4 (dt rfl) ?_;intro pR pG pS oO o5;obtain ⟨pu,rfl⟩:=ar oO;refine qi D (qe pu (ac rfl ((ah S.below o5) 0 _ rfl)) (qi D (qe (.pointer (some ⟨ov,0 + 1,none⟩)) (ae ot) (qi D (qe u1 (ac rfl ((S.boxAt 0 rfl) 1 _ rfl)) (qi D (qM (i_ Z) ou (qi D ?_))))))));obtain ⟨pT,o6,F⟩:=ob F;refine aJ (wA:=w0) rfl ha1 rfl (dt rfl) rfl o6 (dt rfl) ?_;intro pU pH pV oP o7;obtain ⟨pv,rfl⟩:=ar oP;refine qi D (qe pv (ac rfl ((ah S.below o7) 0 _ rfl)) (qi D ?_));obtain ⟨oG,o8,F⟩:=ob F;refine b6 (i_ oG) de (fun w' hw'=>aN (bi (S.up oO) hw') (bi (S.up oP) hw') o8) (ca (ak rfl (ak rfl rfl))) (dt rfl) ?_;refine qi D (qe (.bool (decide (0 ≤ oG))) (fW rfl rfl) (qi (av U) (qe (.bool (decide (0 ≤ oG))) (aw rfl D rfl) (qe (.bool (decide (0 ≤ oG))) (az rfl (av U) rfl) (bf ?_)))));intro pw o9;replace S:=S.ext o9;refine tn oE ?_;rcases oif F with ⟨oH,F⟩|⟨oH,F⟩
     ·refine ct oH ?_;refine sg fun _ px=>?_;replace S:Sat w0 pw []:=S.rems 1 [0] rfl;refine am (pa (.bool false) (en px (ai (br oz (tr oy (tr ow (br oC (tr oB ?_))))))));replace F:=exL F ox;refine aC rfl rfl ?_;exact rB F S
     refine cf oH (aZ (bn oz (tn oy (am (pM (i_ Z) ou ?_)))));obtain ⟨oK,pb,F⟩:=ob F;refine pe (i_ oK) (aS rfl rfl pb) (pa (i_ oK) (en ow ?_));replace S:=S.keep 1;exact ⟨oK,ot,rfl,S,F⟩
    refine qo D (qo D (qo D (qo D (qo D (qo D (qo D (qo D (qo D (qo D (qo D (qo D (qo D (qi (av U) (qe (.bool false) (az rfl D rfl) (qe (.bool false) (az rfl (av U) rfl) (bf ?_))))))))))))))));intro pW pc;replace S:=S.ext pc;refine tn oE (cf rfl (aZ (bn oz (tn oy (am (pM (i_ Z) ou ?_))))));obtain ⟨oL,pd,F⟩:=ob F;refine pe (i_ oL) (aS rfl rfl pd) (pa (i_ oL) (en ow ?_));replace S:=S.keep 1;exact ⟨oL,ot,rfl,S,F⟩
   refine qo (ax U) (qo (ax U) (qo (ax U) ?_));refine bt rfl (dt rfl) ?_;refine bt rfl (dt rfl) ?_;refine bt rfl (dt rfl) ?_;refine bt rfl (dt rfl) ?_;refine bt rfl (dt rfl) ?_;refine bt rfl (dt rfl) ?_;refine bt rfl (dt rfl) ?_;refine bt rfl (dt rfl) ?_;refine bt rfl (dt rfl) ?_;refine bt rfl (dt rfl) ?_;refine bt rfl (dt rfl) ?_;refine bt rfl (dt rfl) ?_;refine bt rfl (dt rfl) ?_;refine qo (ax U) (qe (.bool true) (aw rfl (ax U) rfl) (bf ?_));intro py pf;replace S:=S.ext pf;refine tn oE (ct rfl ?_);refine sg fun _ pz=>?_;replace S:Sat w0 py []:=S.rems 1 [0] rfl;refine am (pa (.bool false) (en pz (ai (br oz (tr oy (tr ow (br oC (tr oB ?_))))))));replace F:=exL F ox;refine aC rfl rfl ?_;exact rB F S
  refine cf oD (aT (tx oT (tx ow ?_)));replace F:=exA F ox;refine bS oC (tn oB ?_);refine sg fun _ pA=>?_;replace S:Sat w0 pk []:=S.rems 1 [0] rfl;refine am (pa (.bool true) (en pA (ai (aC rfl rfl ?_))));exact rB F S
 refine eo (ax Y) (eo (ax Y) (eo (ax Y) (eo (ax Y) (pe (.bool true) (aw rfl (ax Y) rfl) (en oQ (ct rfl ?_))))));refine sg fun _ pB=>?_;replace S:Sat w0 oS []:=S.rems 1 [0] rfl;refine am (pa (.bool false) (en pB (ai (tr oI (aC rfl rfl ?_)))));exact rB F S
theorem fV {w0:World} {a0:Int} {u1:Value} {a1:List T0_} (ha1:R1_.rd w0 [u1] a1) {N:Nat} {r:Int × List T0_} (F:dB N a0 a1=some r): Calls Try.prog 16 #[.agg #[i_ a0,u1]] w0 fun e w'=>∃ (q0:Value),e=.returned (.agg #[i_ r.1,q0])∧Sat w0 w' [Own R1_ [q0] r.2] := by
 unfold dB at F;refine aI Try.func16 rfl rfl (dt rfl) ?_;have S:=Sat.start w0;refine sR fun _ oY=>?_;refine bY [i_ a0,u1] rfl S (dt rfl) ?_;intro pt U S pj;refine be S (dt rfl) ?_;intro pu Y S pk;refine en oY ?_;refine sR fun _ oZ=>?_;refine pe (.pointer (some ⟨U,0 + 0,none⟩)) (ae rfl) (pe (i_ a0) (ac rfl ((S.boxAt 1 rfl) 0 _ rfl)) (pe (.agg #[i_ a0,n_]) (cB [(0,[i_ a0])] [i_ a0,n_] (d9 rfl rfl) rfl) ?_));refine be S (dt rfl) ?_;intro pv J S pn;refine aA (S.top 0 rfl) rfl [i_ a0,n_] rfl rfl (dt rfl) (all_cons rfl (all_cons rfl rfl)) ?_;intro o0 S;replace S:Sat w0 o0 [Box J 26 [i_ a0,n_],Box Y 26 [i_ 0,n_],Box U 26 [i_ a0,u1]]:=S;refine en oZ ?_;refine sg fun _ o3=>?_;refine sR fun _ o4=>?_;refine pa (i_ 0) (en o4 ?_);refine bg fun _ o5=>?_;replace S:=S.nil R0_ 29;obtain ⟨o6,hL,oP⟩:=ob F;refine aV (fun k e w=>∃ (D:Value),∃ (Z:List T0_),∃ (ov:Int),e 1=.pointer (some ⟨U,0,none⟩)∧e 2=.pointer (some ⟨Y,0,none⟩)∧e 3=.pointer (some ⟨J,0,none⟩)∧e 4=i_ ov∧Sat w0 w [Own R1_ [D] Z,Box J 26 [i_ a0,D],Box Y 26 [i_ 0,n_],Box U 26 [i_ a0,u1]]∧bU N k a0 a1 0 [] a0 Z ov=some o6) N ?_ ?_ ?_
 ·exact ⟨n_,[],0,rfl,rfl,rfl,rfl,S,hL⟩
 ·rintro e w ⟨_,_,_,_,_,_,_,_,hz⟩; exact nomatch (show none=some _ from hz)
 rintro k pw o7 ⟨D,Z,ov,oz,oA,ow,oB,S,F⟩;refine gn fun _ oL=>?_;refine sg fun _ oM=>?_;refine sR fun _ o8=>?_;refine pM (i_ ov) oB (pe (.pointer (some ⟨U,0 + 1,none⟩)) (ae oz) (pe u1 (ac rfl ((S.boxAt 3 rfl) 1 _ rfl)) (pe (i_ (a1.length:Int)) (ap rfl ha1) (pe (.bool (decide (ov < (a1.length:Int)))) (a8 rfl rfl) (en o8 ?_)))));rcases oif F with ⟨oC,F⟩|⟨oC,F⟩
 ·refine ct oC (sn oM ?_);refine sg fun _ o9=>?_;refine bg fun _ pb=>?_;obtain ⟨C,hCd⟩:∃ C:World → Prop,∀ w,C w ↔ ∃ G,Sat w0 w ([Box J 26 [i_ a0,D],Box U 26 [i_ a0,u1]] ++ G):=⟨_,fun _=>Iff.rfl⟩;refine bR [0,1,2,3,4,5,6,7,8,9,10,11] C (by kernel_rfl) ?_;intro pc oQ;replace S:=S.ext oQ;replace S:Sat w0 pc [Box J 26 [i_ a0,D],Box U 26 [i_ a0,u1],Own R1_ [D] Z,Box Y 26 [i_ 0,n_]]:=S.tops 4 [1,3] rfl;have hC:=(hCd _).2 ⟨_,S⟩;refine aP (.pointer (some ⟨J,0 + 1,none⟩)) 0 rfl rfl hC (ay rfl (fun w' hw'=>by obtain ⟨_,S⟩:=(hCd _).1 hw'; exact (ae ow))) ?_;refine aP D 1 rfl rfl hC (ay rfl (fun w' hw'=>by obtain ⟨_,S⟩:=(hCd _).1 hw'; exact (ac rfl ((S.boxAt 0 rfl) 1 _ rfl)))) ?_;refine aP (.pointer (some ⟨U,0 + 1,none⟩)) 3 rfl rfl hC (ay rfl (fun w' hw'=>by obtain ⟨_,S⟩:=(hCd _).1 hw'; exact (ae oz))) ?_;refine aP u1 4 rfl rfl hC (ay rfl (fun w' hw'=>by obtain ⟨_,S⟩:=(hCd _).1 hw'; exact (ac rfl ((S.boxAt 1 rfl) 1 _ rfl)))) ?_;refine aP (i_ ov) 5 rfl rfl hC (ay rfl (fun w' hw'=>by obtain ⟨_,S⟩:=(hCd _).1 hw'; exact (aF oB))) ?_;obtain ⟨pd,oR,F⟩:=ob F;refine ez (wA:=w0) (by kernel_rfl) 6 rfl hC (by kernel_rfl) (by kernel_rfl) rfl ha1 rfl (dt rfl) rfl oR (dt rfl) ?_;intro px po py oI oS;obtain ⟨pf,rfl⟩:=ar oI;refine aP pf 7 rfl rfl hC (ay rfl (fun w' hw'=>by obtain ⟨_,S⟩:=(hCd _).1 hw'; exact (ac rfl ((ah S.below oS) 0 _ rfl)))) ?_;refine aO 2 rfl ?_;refine bF cK S (dt rfl) ?_;intro oN oO S pp;refine ag ?_;replace S:Sat w0 oN [Box J 26 [i_ a0,D],Box U 26 [i_ a0,u1],Own R0_ [oO] [],Own R1_ [D] Z,Box Y 26 [i_ 0,n_]]:=S.tops 5 [1,2] rfl;have hC:=(hCd _).2 ⟨_,S⟩;refine ⟨fun _=>hC,?_⟩;refine aO 8 rfl ?_;obtain ⟨oD,oT,F⟩:=ob F;obtain ⟨pq,pz,oU,oV,oJ⟩:=jy (S.up oI);replace S:Sat w0 oN [Own R0_ [oO] [],Box J 26 [i_ a0,D],Box U 26 [i_ a0,u1],Own R1_ [D] Z,Box Y 26 [i_ 0,n_]]:=S.top 2 rfl;replace S:=S.ints (xs:=pd);refine aE rfl (dt rfl) rfl (dt rfl) S rfl (rfl.trans oU) rfl oV oJ oT (dt rfl) ?_;intro pg ot S;refine ag ?_;replace S:Sat w0 pg [Box J 26 [i_ a0,D],Box U 26 [i_ a0,u1],Own R0_ [ot] oD,Own R1_ [D] Z,Box Y 26 [i_ 0,n_]]:=S.tops 5 [1,2] rfl;have hC:=(hCd _).2 ⟨_,S⟩;refine ⟨fun _=>hC,?_⟩;refine aO 9 rfl ?_;refine au [ot] (aG rfl (oc (S.rdAt (R:=R0_) 2 rfl))) (by rfl) (dt rfl) rfl (dt rfl) S (dt rfl) ?_;intro oE ox S pr;refine ag ?_;replace S:Sat w0 oE [Box J 26 [i_ a0,D],Box U 26 [i_ a0,u1],Box ox 29 [ot],Own R0_ [ot] oD,Own R1_ [D] Z,Box Y 26 [i_ 0,n_]]:=S.tops 6 [1,2] rfl;have hC:=(hCd _).2 ⟨_,S⟩;refine ⟨fun _=>hC,?_⟩;refine aO 10 rfl ?_;obtain ⟨oy,oW,F⟩:=ob F;have oK:=S.boxRow 2 rfl;replace S:Sat w0 oE [Own R1_ [D] Z,Box J 26 [i_ a0,D],Box U 26 [i_ a0,u1],Box ox 29 [ot],Own R0_ [ot] oD,Box Y 26 [i_ 0,n_]]:=S.top 4 rfl;replace S:Sat w0 oE [Own R0_ [ot] oD,Own R1_ [D] Z,Box J 26 [i_ a0,D],Box U 26 [i_ a0,u1],Box ox 29 [ot],Box Y 26 [i_ 0,n_]]:=S.top 4 rfl;replace S:=S.one;refine aE rfl (dt rfl) rfl (dt rfl) S rfl rfl rfl (by simp) oK oW (dt rfl) ?_;intro ph ou S;refine ag ?_;replace S:Sat w0 ph [Box J 26 [i_ a0,D],Box U 26 [i_ a0,u1],Own R1_ [ou] oy,Box ox 29 [ot],Box Y 26 [i_ 0,n_]]:=S.tops 5 [1,2] rfl;have hC:=(hCd _).2 ⟨_,S⟩;refine ⟨fun _=>hC,?_⟩;refine aO 11 rfl ?_;refine pe (.pointer (some ⟨J,0 + 1,none⟩)) (ae ow) (ag ?_);refine ⟨fun _=>hC,?_⟩;refine aO 12 rfl ?_;refine aA (S.top 0 rfl) rfl [ou] (aG rfl (oc (S.rdAt (R:=R1_) 2 rfl))) rfl (dt rfl) (all_cons (oc (S.rdAt (R:=R1_) 2 rfl)) rfl) ?_;intro oF S;replace S:Sat w0 oF [Box J 26 [i_ a0,ou],Box U 26 [i_ a0,u1],Own R1_ [ou] oy,Box ox 29 [ot],Box Y 26 [i_ 0,n_]]:=S;refine ag ?_;refine ⟨fun h=>(nomatch (show false=true from h)),?_⟩;refine cl (by kernel_rfl) ?_;refine bn pb (tn o9 ?_);replace S:Sat w0 oF [Box J 26 [i_ a0,ou],Box U 26 [i_ a0,u1],Own R1_ [ou] oy,Box Y 26 [i_ 0,n_]]:=S.rems 5 [3] rfl;refine am (pM (i_ ov) oB ?_);obtain ⟨oG,oX,F⟩:=ob F;refine pe (i_ oG) (aS rfl rfl oX) (pa (i_ oG) (en oL ?_));replace S:Sat w0 oF [Own R1_ [ou] oy,Box J 26 [i_ a0,ou],Box Y 26 [i_ 0,n_],Box U 26 [i_ a0,u1]]:=S.tops 4 [2,0,3,1] rfl;replace S:=S.keep 4;exact ⟨ou,oy,oG,oz,oA,ow,rfl,S,F⟩
 refine cf oC (aT (tx oM (tx oL ?_)));replace F:=exB F oP;refine bS o5 (tn o3 ?_);refine sg fun _ pi=>?_;replace S:Sat w0 o7 [Own R1_ [D] Z,Box J 26 [i_ a0,D],Box Y 26 [i_ 0,n_]]:=S.rems 4 [3] rfl;refine am (pe (.agg #[i_ a0,D]) (aB (cs:=[i_ a0,D]) ow rfl (aH (S.boxAt 1 rfl))) ?_);refine aA (S.top 2 rfl) oA [i_ a0,D] rfl rfl (dt rfl) (all_cons rfl (all_cons (oc (S.rdAt (R:=R1_) 0 rfl)) rfl)) ?_;intro oH S;replace S:Sat w0 oH [Box Y 26 [i_ a0,D],Own R1_ [D] Z,Box J 26 [i_ a0,D]]:=S;refine en pi (ai ?_);refine gb (cs:=[i_ a0,D]) rfl oA rfl (aH (S.boxAt 0 rfl))  ?_;replace S:Sat w0 oH [Own R1_ [D] Z,Box Y 26 [i_ a0,D],Box J 26 [i_ a0,D]]:=S.tops 3 [1] rfl;have hr:=Option.some.inj F;exact ⟨D,congrArg (fun (r:Int × List T0_)=>Ending.returned (.agg #[i_ r.1,D])) hr,Eq.mp (congrArg (fun (r:Int × List T0_)=>Sat w0 oH [Own R1_ [D] r.2]) hr) (S.keep 1)⟩
theorem iw (N:Nat):∀ {w0:World} {u0:Value} {a0:List T0_} (_:R1_.rd w0 [u0] a0) {r:T1_} (_:co N a0=some r), Calls Try.prog 46 #[u0] w0 fun e w'=>∃ (q0:Value),e=.returned (q0)∧Ext w0 w'∧R1_.rd w' [q0] r := by
 induction N with
 | zero=>intros; exact nomatch (show none=some _ by assumption)
 | succ N ih=>
  intro w0 u0 a0 ha0 r F;refine aI Try.func46 rfl rfl (dt rfl) ?_;have S:=Sat.start w0;refine sR fun _ uF=>?_;refine pa n_ (en uF ?_);refine sg fun _ rn=>?_;refine sR fun _ uG=>?_;refine pm u0 (pe (i_ (a0.length:Int)) (ap rfl ha0) (pe (.bool (decide ((a0.length:Int) < 2))) (a8 rfl rfl) (en uG ?_)));rcases oif F with ⟨pA,F⟩|⟨pA,F⟩
  ·refine ct pA ?_;refine sR fun _ uH=>?_;refine pm u0 (pa u0 (en uH (ai (tr rn (aC rfl rfl ?_)))));have hr:=Option.some.inj F;exact ⟨u0,congrArg (fun (r:T1_)=>Ending.returned (u0)) hr,S.below,Eq.mp (congrArg (fun (r:T1_)=>R1_.rd w0 [u0] r) hr :) (S.up ha0)⟩
  refine cf pA (sn rn ?_);refine sR fun _ uI=>?_;refine pm u0 (pe (i_ (a0.length:Int)) (ap rfl ha0) ?_);obtain ⟨pB,sp,F⟩:=ob F;refine pe (i_ pB) (nj rfl rfl sp) (pa (i_ pB) (en uI ?_));refine sR fun _ uJ=>?_;refine pm u0 (pm (i_ pB) ?_);obtain ⟨xO,sq,F⟩:=ob F;refine cq (wA:=w0) rfl rfl ha0 (.inr ⟨rfl,rfl⟩) (.inl (congrArg some rfl)) sq (dt rfl) ?_;intro xP qQ;obtain ⟨uK,ss,F⟩:=ob F;refine aR jG (ih (S.up qQ) ss) (ca (ak rfl rfl)) (dt rfl) ?_;rintro _ qw ⟨ro,rfl,su,sv⟩;refine ⟨_,rfl,?_⟩;replace S:=S.ext su;have sw:Ext w0 qw:=S.below;have pC:=S.up ha0;have w4:=S.up ha0;have w5:=S.up qQ;replace S:=Sat.start qw;refine pa ro (en uJ ?_);refine sR fun _ uL=>?_;refine pm u0 (pm (i_ pB) ?_);obtain ⟨xQ,sx,F⟩:=ob F;refine cq (wA:=qw) rfl rfl pC (.inl (congrArg some rfl)) (.inr ⟨rfl,rfl⟩) sx (dt rfl) ?_;intro xR qR;obtain ⟨uM,sy,F⟩:=ob F;refine aR jG (ih (S.up qR) sy) (ca (ak rfl rfl)) (dt rfl) ?_;rintro _ D ⟨rp,rfl,sA,sB⟩;refine ⟨_,rfl,?_⟩;replace S:=S.ext sA;have sC:Ext w0 D:=(S.rebase sw).below;have w6:=S.up pC;have sD:=S.up sv;have w7:=S.up pC;have w8:=S.up qR;replace S:=Sat.start D;refine pa rp (en uL ?_);refine sR fun _ uN=>?_;refine bF (roR D R0_) S (dt rfl) ?_;intro xS rq S w9;refine pa rq (en uN ?_);refine sg fun _ uO=>?_;refine bg fun _ uP=>?_;obtain ⟨uQ,hL,sE⟩:=ob F;refine aV (fun k e w=>∃ (ow:Value),∃ (oz:List T0_),∃ (ox:Value),∃ (oA:List T0_),∃ (J:Value),∃ (U:List T0_),e 4=ow∧e 5=ox∧e 6=J∧Sat D w [Own (aj (roR D R0_) 29) [J] U]∧R1_.rd D [ow] oz∧R1_.rd D [ox] oA∧an (co N) N k oz oA U=some uQ) N ?_ ?_ ?_
  ·exact ⟨ro,uK,rp,uM,rq,[],rfl,rfl,rfl,S,sD,sB,hL⟩
  ·rintro e w ⟨_,_,_,_,_,_,_,_,_,_,_,_,hz⟩; exact nomatch (show none=some _ from hz)
  rintro k xT uR ⟨ow,oz,ox,oA,J,U,Z,ot,Y,S,ou,ov,F⟩;refine gn fun _ oy=>?_;refine sg fun _ qx=>?_;refine sR fun _ rr=>?_;refine pM ow Z (pe (i_ (oz.length:Int)) (ap rfl ou) (pe (.bool (decide (0 < (oz.length:Int)))) (bD rfl rfl) (pm (.bool (decide (0 < (oz.length:Int)))) ?_)));rcases oif F with ⟨oN,F⟩|⟨oN,F⟩
  ·refine eo oN (eo oN (eo oN (pe (.bool true) (aw rfl oN rfl) (en rr (ct rfl (sn qx ?_))))));refine bg fun _ oL=>?_;refine sR fun _ uS=>?_;refine pa (i_ 0) (en uS ?_);refine sg fun _ qy=>?_;refine bg fun _ qz=>?_;refine sR fun _ uT=>?_;refine pM ow Z (pe (i_ (oz.length:Int)) (ap rfl ou) (pe (.bool ((oz.length:Int) == 0)) (bB rfl rfl) (pa (.bool ((oz.length:Int) == 0)) (en uT ?_))));rcases oif F with ⟨pD,F⟩|⟨pD,F⟩
   ·refine ct pD (am (pa (i_ 1) (ag (bn qz (tn qy ?_)))));refine sR fun _ uU=>?_;refine bF cK S (dt rfl) ?_;intro qA uV S xa;refine pa uV (en uU ?_);refine sg fun _ rt=>?_;refine sg fun _ uW=>?_;replace S:Sat D qA [Own (aj (roR D R0_) 29) [J] U]:=S.rems 2 [0] rfl;refine am (pm (i_ 1) (pe (.bool (decide (0 < (1:Int)))) (bD rfl rfl) (en uW ?_)));rcases oif F with ⟨pE,F⟩|⟨pE,F⟩
    ·refine ct pE ?_;refine sR fun _ uX=>?_;refine pM ox ot ?_;obtain ⟨xU,sF,F⟩:=ob F;refine aD (wA:=D) rfl ov rfl (dt rfl) rfl sF (dt rfl) ?_;intro xV xb xW oY sG;obtain ⟨oO,rfl⟩:=ar oY;refine pe oO (ac rfl ((ah S.below sG) 0 _ rfl)) (pa oO (en uX (am (pM ox ot ?_))));obtain ⟨qB,sH,F⟩:=ob F;refine cq (wA:=D) rfl rfl ov (.inl (congrArg some rfl)) (.inr ⟨rfl,rfl⟩) sH (dt rfl) ?_;intro pF pG;refine pa pF (en rt ?_);refine sR fun _ ru=>?_;refine pM J Y (pe (i_ (U.length:Int)) (ap rfl (S.rdAt (R:=(aj (roR D R0_) 29)) 0 rfl)) (pe (.bool ((U.length:Int) == 0)) (bB rfl rfl) (pm (.bool ((U.length:Int) == 0)) ?_)));rcases oif F with ⟨oB,F⟩|⟨oB,F⟩
     ·refine eo oB (eo oB (eo oB (eo oB (eo oB (eo oB (eo oB (eo oB (eo oB (pe (.bool true) (aw rfl oB rfl) (en ru (ct rfl (am (pM J Y (pm oO ?_))))))))))))));refine au [oO] (aG rfl (oc oY)) (by rfl) (dt rfl) rfl (dt rfl) S (dt rfl) ?_;intro uY uZ S xc;obtain ⟨u5,sI,F⟩:=ob F;have qW:=S.boxRow 0 rfl;replace S:Sat D uY [Own (aj (roR D R0_) 29) [J] U,Box uZ 29 [oO]]:=S.top 1 rfl;replace S:=S.roOne (R:=R0_) (W:=D) oY;replace S:=S.one;refine aE rfl (dt rfl) rfl (dt rfl) S rfl rfl rfl (by simp) qW sI (dt rfl) ?_;intro xX rx S;refine pa rx (ag (bn oL (tn oy ?_)));replace S:=S.keep 1;exact ⟨ow,oz,pF,qB,rx,u5,Z,rfl,rfl,S,ou,pG,F⟩
     refine ei oB (pM J Y (ei oB (pM J Y (ei oB (pe (i_ (U.length:Int)) (ap rfl (S.rdAt (R:=(aj (roR D R0_) 29)) 0 rfl)) (ei oB ?_))))));obtain ⟨u6,sJ,F⟩:=ob F;refine pe (i_ u6) (cd rfl rfl sJ) (ei oB ?_);obtain ⟨xY,sK,F⟩:=ob F;refine aD (wA:=qA) rfl (S.rdAt (R:=(aj (roR D R0_) 29)) 0 rfl) rfl (dt rfl) rfl sK (dt rfl) ?_;intro xZ xd x3 po pb;replace po:R0_.rd D _ _:=po;obtain ⟨u7,rfl⟩:=ar po;refine ei oB (pe u7 (ac rfl (pb 0 _ rfl)) (ei oB (pm oO (ei oB ?_))));obtain ⟨ry,sL,F⟩:=ob F;refine ec0 de (aN (S.up po) (S.up oY) sL) (ca (ak rfl (ak rfl rfl))) S fun x4 sM S=>?_;have pb:=ah sM pb;refine ei oB (pe (.bool (ry != 0)) (bO rfl rfl) (pe (.bool (ry != 0)) (az rfl oB rfl) (en ru ?_)));rcases oif F with ⟨pH,F⟩|⟨pH,F⟩
     ·refine ct pH (am (pM J Y (pm oO ?_)));refine au [oO] (aG rfl (oc oY)) (by rfl) (dt rfl) rfl (dt rfl) S (dt rfl) ?_;intro u9 va S sN;have pb:=ah sN pb;obtain ⟨vb,sO,F⟩:=ob F;have qX:=S.boxRow 0 rfl;replace S:Sat D u9 [Own (aj (roR D R0_) 29) [J] U,Box va 29 [oO]]:=S.top 1 rfl;replace S:=S.roOne (R:=R0_) (W:=D) oY;replace S:=S.one;refine aE rfl (dt rfl) rfl (dt rfl) S rfl rfl rfl (by simp) qX sO (dt rfl) ?_;intro x5 rz S;refine pa rz (ag (bn oL (tn oy ?_)));replace S:=S.keep 1;exact ⟨ow,oz,pF,qB,rz,vb,Z,rfl,rfl,S,ou,pG,F⟩
     refine cf pH (aZ (bn oL (tn oy ?_)));replace S:=S.keep 1;exact ⟨ow,oz,pF,qB,J,U,Z,rfl,Y,S,ou,pG,F⟩
    refine cf pE ?_;refine sR fun _ vc=>?_;refine pM ow Z ?_;obtain ⟨x6,sP,F⟩:=ob F;refine aD (wA:=D) rfl ou rfl (dt rfl) rfl sP (dt rfl) ?_;intro x7 xe x8 oZ sQ;obtain ⟨oP,rfl⟩:=ar oZ;refine pe oP (ac rfl ((ah S.below sQ) 0 _ rfl)) (pa oP (en vc (am (pM ow Z ?_))));obtain ⟨qC,sS,F⟩:=ob F;refine cq (wA:=D) rfl rfl ou (.inl (congrArg some rfl)) (.inr ⟨rfl,rfl⟩) sS (dt rfl) ?_;intro pI pJ;refine pa pI (en rt ?_);refine sR fun _ rA=>?_;refine pM J Y (pe (i_ (U.length:Int)) (ap rfl (S.rdAt (R:=(aj (roR D R0_) 29)) 0 rfl)) (pe (.bool ((U.length:Int) == 0)) (bB rfl rfl) (pm (.bool ((U.length:Int) == 0)) ?_)));rcases oif F with ⟨oC,F⟩|⟨oC,F⟩
    ·refine eo oC (eo oC (eo oC (eo oC (eo oC (eo oC (eo oC (eo oC (eo oC (pe (.bool true) (aw rfl oC rfl) (en rA (ct rfl (am (pM J Y (pm oP ?_))))))))))))));refine au [oP] (aG rfl (oc oZ)) (by rfl) (dt rfl) rfl (dt rfl) S (dt rfl) ?_;intro vd ve S xf;obtain ⟨vf,sT,F⟩:=ob F;have qY:=S.boxRow 0 rfl;replace S:Sat D vd [Own (aj (roR D R0_) 29) [J] U,Box ve 29 [oP]]:=S.top 1 rfl;replace S:=S.roOne (R:=R0_) (W:=D) oZ;replace S:=S.one;refine aE rfl (dt rfl) rfl (dt rfl) S rfl rfl rfl (by simp) qY sT (dt rfl) ?_;intro x9 rC S;refine pa rC (ag (bn oL (tn oy ?_)));replace S:=S.keep 1;exact ⟨pI,qC,ox,oA,rC,vf,rfl,ot,rfl,S,pJ,ov,F⟩
    refine ei oC (pM J Y (ei oC (pM J Y (ei oC (pe (i_ (U.length:Int)) (ap rfl (S.rdAt (R:=(aj (roR D R0_) 29)) 0 rfl)) (ei oC ?_))))));obtain ⟨vg,sU,F⟩:=ob F;refine pe (i_ vg) (cd rfl rfl sU) (ei oC ?_);obtain ⟨ya,sV,F⟩:=ob F;refine aD (wA:=qA) rfl (S.rdAt (R:=(aj (roR D R0_) 29)) 0 rfl) rfl (dt rfl) rfl sV (dt rfl) ?_;intro yb xg yc pp pc;replace pp:R0_.rd D _ _:=pp;obtain ⟨vh,rfl⟩:=ar pp;refine ei oC (pe vh (ac rfl (pc 0 _ rfl)) (ei oC (pm oP (ei oC ?_))));obtain ⟨rD,sW,F⟩:=ob F;refine ec0 de (aN (S.up pp) (S.up oZ) sW) (ca (ak rfl (ak rfl rfl))) S fun yd sX S=>?_;have pc:=ah sX pc;refine ei oC (pe (.bool (rD != 0)) (bO rfl rfl) (pe (.bool (rD != 0)) (az rfl oC rfl) (en rA ?_)));rcases oif F with ⟨pK,F⟩|⟨pK,F⟩
    ·refine ct pK (am (pM J Y (pm oP ?_)));refine au [oP] (aG rfl (oc oZ)) (by rfl) (dt rfl) rfl (dt rfl) S (dt rfl) ?_;intro vi vj S sY;have pc:=ah sY pc;obtain ⟨vk,sZ,F⟩:=ob F;have qZ:=S.boxRow 0 rfl;replace S:Sat D vi [Own (aj (roR D R0_) 29) [J] U,Box vj 29 [oP]]:=S.top 1 rfl;replace S:=S.roOne (R:=R0_) (W:=D) oZ;replace S:=S.one;refine aE rfl (dt rfl) rfl (dt rfl) S rfl rfl rfl (by simp) qZ sZ (dt rfl) ?_;intro ye rE S;refine pa rE (ag (bn oL (tn oy ?_)));replace S:=S.keep 1;exact ⟨pI,qC,ox,oA,rE,vk,rfl,ot,rfl,S,pJ,ov,F⟩
    refine cf pK (aZ (bn oL (tn oy ?_)));replace S:=S.keep 1;exact ⟨pI,qC,ox,oA,J,U,rfl,ot,Y,S,pJ,ov,F⟩
   refine cf pD ?_;refine sR fun _ vl=>?_;refine pM ox ot (pe (i_ (oA.length:Int)) (ap rfl ov) (pe (.bool (decide (0 < (oA.length:Int)))) (bD rfl rfl) (pa (.bool (decide (0 < (oA.length:Int)))) (en vl ?_))));rcases oif F with ⟨pL,F⟩|⟨pL,F⟩
   ·refine ct pL ?_;refine bA (by kernel_rfl) (by kernel_rfl) ?_;refine qM ow Z ?_;obtain ⟨yf,s0,F⟩:=ob F;refine aJ (wA:=D) rfl ou rfl (dt rfl) rfl s0 (dt rfl) ?_;intro yg xh yh qS s3;obtain ⟨vm,rfl⟩:=ar qS;refine qe vm (ac rfl ((ah S.below s3) 0 _ rfl)) (qM ox ot ?_);obtain ⟨yi,s4,F⟩:=ob F;refine aJ (wA:=D) rfl ov rfl (dt rfl) rfl s4 (dt rfl) ?_;intro yj xi yk qT s5;obtain ⟨vn,rfl⟩:=ar qT;refine qe vn (ac rfl ((ah S.below s5) 0 _ rfl)) ?_;obtain ⟨pN,s6,F⟩:=ob F;refine b6 (i_ pN) de (fun w' hw'=>aN (bi (S.up qS) hw') (bi (S.up qT) hw') s6) (ca (ak rfl (ak rfl rfl))) (dt rfl) ?_;refine qe (i_ pN) (cm rfl) (bf ?_);intro yl s7;replace S:=S.ext s7;refine bn qz (tn qy ?_);refine sR fun _ vo=>?_;refine bF cK S (dt rfl) ?_;intro qD vp S xj;refine pa vp (en vo ?_);refine sg fun _ rF=>?_;refine sg fun _ vq=>?_;replace S:Sat D qD [Own (aj (roR D R0_) 29) [J] U]:=S.rems 2 [0] rfl;refine am (pm (i_ pN) (pe (.bool (decide (0 < pN))) (bD rfl rfl) (en vq ?_)));rcases oif F with ⟨pO,F⟩|⟨pO,F⟩
    ·refine ct pO ?_;refine sR fun _ vr=>?_;refine pM ox ot ?_;obtain ⟨ym,s8,F⟩:=ob F;refine aD (wA:=D) rfl ov rfl (dt rfl) rfl s8 (dt rfl) ?_;intro yn xk yo o0 s9;obtain ⟨oQ,rfl⟩:=ar o0;refine pe oQ (ac rfl ((ah S.below s9) 0 _ rfl)) (pa oQ (en vr (am (pM ox ot ?_))));obtain ⟨qE,ta,F⟩:=ob F;refine cq (wA:=D) rfl rfl ov (.inl (congrArg some rfl)) (.inr ⟨rfl,rfl⟩) ta (dt rfl) ?_;intro pP pQ;refine pa pP (en rF ?_);refine sR fun _ rG=>?_;refine pM J Y (pe (i_ (U.length:Int)) (ap rfl (S.rdAt (R:=(aj (roR D R0_) 29)) 0 rfl)) (pe (.bool ((U.length:Int) == 0)) (bB rfl rfl) (pm (.bool ((U.length:Int) == 0)) ?_)));rcases oif F with ⟨oD,F⟩|⟨oD,F⟩
     ·refine eo oD (eo oD (eo oD (eo oD (eo oD (eo oD (eo oD (eo oD (eo oD (pe (.bool true) (aw rfl oD rfl) (en rG (ct rfl (am (pM J Y (pm oQ ?_))))))))))))));refine au [oQ] (aG rfl (oc o0)) (by rfl) (dt rfl) rfl (dt rfl) S (dt rfl) ?_;intro vt vu S xl;obtain ⟨vv,tb,F⟩:=ob F;have q5:=S.boxRow 0 rfl;replace S:Sat D vt [Own (aj (roR D R0_) 29) [J] U,Box vu 29 [oQ]]:=S.top 1 rfl;replace S:=S.roOne (R:=R0_) (W:=D) o0;replace S:=S.one;refine aE rfl (dt rfl) rfl (dt rfl) S rfl rfl rfl (by simp) q5 tb (dt rfl) ?_;intro yp rH S;refine pa rH (ag (bn oL (tn oy ?_)));replace S:=S.keep 1;exact ⟨ow,oz,pP,qE,rH,vv,Z,rfl,rfl,S,ou,pQ,F⟩
     refine ei oD (pM J Y (ei oD (pM J Y (ei oD (pe (i_ (U.length:Int)) (ap rfl (S.rdAt (R:=(aj (roR D R0_) 29)) 0 rfl)) (ei oD ?_))))));obtain ⟨vw,tc,F⟩:=ob F;refine pe (i_ vw) (cd rfl rfl tc) (ei oD ?_);obtain ⟨yq,td,F⟩:=ob F;refine aD (wA:=qD) rfl (S.rdAt (R:=(aj (roR D R0_) 29)) 0 rfl) rfl (dt rfl) rfl td (dt rfl) ?_;intro yr xm yt pq pd;replace pq:R0_.rd D _ _:=pq;obtain ⟨vx,rfl⟩:=ar pq;refine ei oD (pe vx (ac rfl (pd 0 _ rfl)) (ei oD (pm oQ (ei oD ?_))));obtain ⟨rJ,te,F⟩:=ob F;refine ec0 de (aN (S.up pq) (S.up o0) te) (ca (ak rfl (ak rfl rfl))) S fun yu tf S=>?_;have pd:=ah tf pd;refine ei oD (pe (.bool (rJ != 0)) (bO rfl rfl) (pe (.bool (rJ != 0)) (az rfl oD rfl) (en rG ?_)));rcases oif F with ⟨pR,F⟩|⟨pR,F⟩
     ·refine ct pR (am (pM J Y (pm oQ ?_)));refine au [oQ] (aG rfl (oc o0)) (by rfl) (dt rfl) rfl (dt rfl) S (dt rfl) ?_;intro vy vz S tg;have pd:=ah tg pd;obtain ⟨vA,th,F⟩:=ob F;have q6:=S.boxRow 0 rfl;replace S:Sat D vy [Own (aj (roR D R0_) 29) [J] U,Box vz 29 [oQ]]:=S.top 1 rfl;replace S:=S.roOne (R:=R0_) (W:=D) o0;replace S:=S.one;refine aE rfl (dt rfl) rfl (dt rfl) S rfl rfl rfl (by simp) q6 th (dt rfl) ?_;intro yw rK S;refine pa rK (ag (bn oL (tn oy ?_)));replace S:=S.keep 1;exact ⟨ow,oz,pP,qE,rK,vA,Z,rfl,rfl,S,ou,pQ,F⟩
     refine cf pR (aZ (bn oL (tn oy ?_)));replace S:=S.keep 1;exact ⟨ow,oz,pP,qE,J,U,Z,rfl,Y,S,ou,pQ,F⟩
    refine cf pO ?_;refine sR fun _ vB=>?_;refine pM ow Z ?_;obtain ⟨yx,ti,F⟩:=ob F;refine aD (wA:=D) rfl ou rfl (dt rfl) rfl ti (dt rfl) ?_;intro yy xn yz o3 tj;obtain ⟨oR,rfl⟩:=ar o3;refine pe oR (ac rfl ((ah S.below tj) 0 _ rfl)) (pa oR (en vB (am (pM ow Z ?_))));obtain ⟨qF,tk,F⟩:=ob F;refine cq (wA:=D) rfl rfl ou (.inl (congrArg some rfl)) (.inr ⟨rfl,rfl⟩) tk (dt rfl) ?_;intro pS pT;refine pa pS (en rF ?_);refine sR fun _ rL=>?_;refine pM J Y (pe (i_ (U.length:Int)) (ap rfl (S.rdAt (R:=(aj (roR D R0_) 29)) 0 rfl)) (pe (.bool ((U.length:Int) == 0)) (bB rfl rfl) (pm (.bool ((U.length:Int) == 0)) ?_)));rcases oif F with ⟨oE,F⟩|⟨oE,F⟩
    ·refine eo oE (eo oE (eo oE (eo oE (eo oE (eo oE (eo oE (eo oE (eo oE (pe (.bool true) (aw rfl oE rfl) (en rL (ct rfl (am (pM J Y (pm oR ?_))))))))))))));refine au [oR] (aG rfl (oc o3)) (by rfl) (dt rfl) rfl (dt rfl) S (dt rfl) ?_;intro vC vD S xo;obtain ⟨vE,tm,F⟩:=ob F;have q7:=S.boxRow 0 rfl;replace S:Sat D vC [Own (aj (roR D R0_) 29) [J] U,Box vD 29 [oR]]:=S.top 1 rfl;replace S:=S.roOne (R:=R0_) (W:=D) o3;replace S:=S.one;refine aE rfl (dt rfl) rfl (dt rfl) S rfl rfl rfl (by simp) q7 tm (dt rfl) ?_;intro yA rM S;refine pa rM (ag (bn oL (tn oy ?_)));replace S:=S.keep 1;exact ⟨pS,qF,ox,oA,rM,vE,rfl,ot,rfl,S,pT,ov,F⟩
    refine ei oE (pM J Y (ei oE (pM J Y (ei oE (pe (i_ (U.length:Int)) (ap rfl (S.rdAt (R:=(aj (roR D R0_) 29)) 0 rfl)) (ei oE ?_))))));obtain ⟨vF,tp,F⟩:=ob F;refine pe (i_ vF) (cd rfl rfl tp) (ei oE ?_);obtain ⟨yB,tq,F⟩:=ob F;refine aD (wA:=qD) rfl (S.rdAt (R:=(aj (roR D R0_) 29)) 0 rfl) rfl (dt rfl) rfl tq (dt rfl) ?_;intro yC xp yD pr pf;replace pr:R0_.rd D _ _:=pr;obtain ⟨vG,rfl⟩:=ar pr;refine ei oE (pe vG (ac rfl (pf 0 _ rfl)) (ei oE (pm oR (ei oE ?_))));obtain ⟨rN,tt,F⟩:=ob F;refine ec0 de (aN (S.up pr) (S.up o3) tt) (ca (ak rfl (ak rfl rfl))) S fun yE tu S=>?_;have pf:=ah tu pf;refine ei oE (pe (.bool (rN != 0)) (bO rfl rfl) (pe (.bool (rN != 0)) (az rfl oE rfl) (en rL ?_)));rcases oif F with ⟨pU,F⟩|⟨pU,F⟩
    ·refine ct pU (am (pM J Y (pm oR ?_)));refine au [oR] (aG rfl (oc o3)) (by rfl) (dt rfl) rfl (dt rfl) S (dt rfl) ?_;intro vH vI S tv;have pf:=ah tv pf;obtain ⟨vJ,tw,F⟩:=ob F;have q8:=S.boxRow 0 rfl;replace S:Sat D vH [Own (aj (roR D R0_) 29) [J] U,Box vI 29 [oR]]:=S.top 1 rfl;replace S:=S.roOne (R:=R0_) (W:=D) o3;replace S:=S.one;refine aE rfl (dt rfl) rfl (dt rfl) S rfl rfl rfl (by simp) q8 tw (dt rfl) ?_;intro yF rO S;refine pa rO (ag (bn oL (tn oy ?_)));replace S:=S.keep 1;exact ⟨pS,qF,ox,oA,rO,vJ,rfl,ot,rfl,S,pT,ov,F⟩
    refine cf pU (aZ (bn oL (tn oy ?_)));replace S:=S.keep 1;exact ⟨pS,qF,ox,oA,J,U,rfl,ot,Y,S,pT,ov,F⟩
   refine cf pL (am (pa (i_ (-1)) (ag (bn qz (tn qy ?_)))));refine sR fun _ vK=>?_;refine bF cK S (dt rfl) ?_;intro qG vL S xq;refine pa vL (en vK ?_);refine sg fun _ rP=>?_;refine sg fun _ vM=>?_;replace S:Sat D qG [Own (aj (roR D R0_) 29) [J] U]:=S.rems 2 [0] rfl;refine am (pm (i_ (-1)) (pe (.bool (decide (0 < ((-1):Int)))) (bD rfl rfl) (en vM ?_)));rcases oif F with ⟨pV,F⟩|⟨pV,F⟩
   ·refine ct pV ?_;refine sR fun _ vN=>?_;refine pM ox ot ?_;obtain ⟨yG,tz,F⟩:=ob F;refine aD (wA:=D) rfl ov rfl (dt rfl) rfl tz (dt rfl) ?_;intro yH xr yI o4 tA;obtain ⟨oS,rfl⟩:=ar o4;refine pe oS (ac rfl ((ah S.below tA) 0 _ rfl)) (pa oS (en vN (am (pM ox ot ?_))));obtain ⟨qH,tB,F⟩:=ob F;refine cq (wA:=D) rfl rfl ov (.inl (congrArg some rfl)) (.inr ⟨rfl,rfl⟩) tB (dt rfl) ?_;intro pW pX;refine pa pW (en rP ?_);refine sR fun _ rQ=>?_;refine pM J Y (pe (i_ (U.length:Int)) (ap rfl (S.rdAt (R:=(aj (roR D R0_) 29)) 0 rfl)) (pe (.bool ((U.length:Int) == 0)) (bB rfl rfl) (pm (.bool ((U.length:Int) == 0)) ?_)));rcases oif F with ⟨oF,F⟩|⟨oF,F⟩
    ·refine eo oF (eo oF (eo oF (eo oF (eo oF (eo oF (eo oF (eo oF (eo oF (pe (.bool true) (aw rfl oF rfl) (en rQ (ct rfl (am (pM J Y (pm oS ?_))))))))))))));refine au [oS] (aG rfl (oc o4)) (by rfl) (dt rfl) rfl (dt rfl) S (dt rfl) ?_;intro vO vP S xt;obtain ⟨vQ,tC,F⟩:=ob F;have q9:=S.boxRow 0 rfl;replace S:Sat D vO [Own (aj (roR D R0_) 29) [J] U,Box vP 29 [oS]]:=S.top 1 rfl;replace S:=S.roOne (R:=R0_) (W:=D) o4;replace S:=S.one;refine aE rfl (dt rfl) rfl (dt rfl) S rfl rfl rfl (by simp) q9 tC (dt rfl) ?_;intro yJ rR S;refine pa rR (ag (bn oL (tn oy ?_)));replace S:=S.keep 1;exact ⟨ow,oz,pW,qH,rR,vQ,Z,rfl,rfl,S,ou,pX,F⟩
    refine ei oF (pM J Y (ei oF (pM J Y (ei oF (pe (i_ (U.length:Int)) (ap rfl (S.rdAt (R:=(aj (roR D R0_) 29)) 0 rfl)) (ei oF ?_))))));obtain ⟨vR,tD,F⟩:=ob F;refine pe (i_ vR) (cd rfl rfl tD) (ei oF ?_);obtain ⟨yK,tE,F⟩:=ob F;refine aD (wA:=qG) rfl (S.rdAt (R:=(aj (roR D R0_) 29)) 0 rfl) rfl (dt rfl) rfl tE (dt rfl) ?_;intro yL xu yM pt pg;replace pt:R0_.rd D _ _:=pt;obtain ⟨vS,rfl⟩:=ar pt;refine ei oF (pe vS (ac rfl (pg 0 _ rfl)) (ei oF (pm oS (ei oF ?_))));obtain ⟨rS,tF,F⟩:=ob F;refine ec0 de (aN (S.up pt) (S.up o4) tF) (ca (ak rfl (ak rfl rfl))) S fun yN tG S=>?_;have pg:=ah tG pg;refine ei oF (pe (.bool (rS != 0)) (bO rfl rfl) (pe (.bool (rS != 0)) (az rfl oF rfl) (en rQ ?_)));rcases oif F with ⟨pY,F⟩|⟨pY,F⟩
    ·refine ct pY (am (pM J Y (pm oS ?_)));refine au [oS] (aG rfl (oc o4)) (by rfl) (dt rfl) rfl (dt rfl) S (dt rfl) ?_;intro vT vU S tH;have pg:=ah tH pg;obtain ⟨vV,tI,F⟩:=ob F;have ra:=S.boxRow 0 rfl;replace S:Sat D vT [Own (aj (roR D R0_) 29) [J] U,Box vU 29 [oS]]:=S.top 1 rfl;replace S:=S.roOne (R:=R0_) (W:=D) o4;replace S:=S.one;refine aE rfl (dt rfl) rfl (dt rfl) S rfl rfl rfl (by simp) ra tI (dt rfl) ?_;intro yO rT S;refine pa rT (ag (bn oL (tn oy ?_)));replace S:=S.keep 1;exact ⟨ow,oz,pW,qH,rT,vV,Z,rfl,rfl,S,ou,pX,F⟩
    refine cf pY (aZ (bn oL (tn oy ?_)));replace S:=S.keep 1;exact ⟨ow,oz,pW,qH,J,U,Z,rfl,Y,S,ou,pX,F⟩
   refine cf pV ?_;refine sR fun _ vW=>?_;refine pM ow Z ?_;obtain ⟨yP,tJ,F⟩:=ob F;refine aD (wA:=D) rfl ou rfl (dt rfl) rfl tJ (dt rfl) ?_;intro yQ xv yR o5 tK;obtain ⟨oT,rfl⟩:=ar o5;refine pe oT (ac rfl ((ah S.below tK) 0 _ rfl)) (pa oT (en vW (am (pM ow Z ?_))));obtain ⟨qI,tL,F⟩:=ob F;refine cq (wA:=D) rfl rfl ou (.inl (congrArg some rfl)) (.inr ⟨rfl,rfl⟩) tL (dt rfl) ?_;intro pZ p8;refine pa pZ (en rP ?_);refine sR fun _ rU=>?_;refine pM J Y (pe (i_ (U.length:Int)) (ap rfl (S.rdAt (R:=(aj (roR D R0_) 29)) 0 rfl)) (pe (.bool ((U.length:Int) == 0)) (bB rfl rfl) (pm (.bool ((U.length:Int) == 0)) ?_)));rcases oif F with ⟨oG,F⟩|⟨oG,F⟩
   ·refine eo oG (eo oG (eo oG (eo oG (eo oG (eo oG (eo oG (eo oG (eo oG (pe (.bool true) (aw rfl oG rfl) (en rU (ct rfl (am (pM J Y (pm oT ?_))))))))))))));refine au [oT] (aG rfl (oc o5)) (by rfl) (dt rfl) rfl (dt rfl) S (dt rfl) ?_;intro vX vY S xw;obtain ⟨vZ,tM,F⟩:=ob F;have rb:=S.boxRow 0 rfl;replace S:Sat D vX [Own (aj (roR D R0_) 29) [J] U,Box vY 29 [oT]]:=S.top 1 rfl;replace S:=S.roOne (R:=R0_) (W:=D) o5;replace S:=S.one;refine aE rfl (dt rfl) rfl (dt rfl) S rfl rfl rfl (by simp) rb tM (dt rfl) ?_;intro yS rV S;refine pa rV (ag (bn oL (tn oy ?_)));replace S:=S.keep 1;exact ⟨pZ,qI,ox,oA,rV,vZ,rfl,ot,rfl,S,p8,ov,F⟩
   refine ei oG (pM J Y (ei oG (pM J Y (ei oG (pe (i_ (U.length:Int)) (ap rfl (S.rdAt (R:=(aj (roR D R0_) 29)) 0 rfl)) (ei oG ?_))))));obtain ⟨v5,tN,F⟩:=ob F;refine pe (i_ v5) (cd rfl rfl tN) (ei oG ?_);obtain ⟨yT,tO,F⟩:=ob F;refine aD (wA:=qG) rfl (S.rdAt (R:=(aj (roR D R0_) 29)) 0 rfl) rfl (dt rfl) rfl tO (dt rfl) ?_;intro yU xx yV pu ph;replace pu:R0_.rd D _ _:=pu;obtain ⟨v6,rfl⟩:=ar pu;refine ei oG (pe v6 (ac rfl (ph 0 _ rfl)) (ei oG (pm oT (ei oG ?_))));obtain ⟨rW,tP,F⟩:=ob F;refine ec0 de (aN (S.up pu) (S.up o5) tP) (ca (ak rfl (ak rfl rfl))) S fun yW tQ S=>?_;have ph:=ah tQ ph;refine ei oG (pe (.bool (rW != 0)) (bO rfl rfl) (pe (.bool (rW != 0)) (az rfl oG rfl) (en rU ?_)));rcases oif F with ⟨p9,F⟩|⟨p9,F⟩
   ·refine ct p9 (am (pM J Y (pm oT ?_)));refine au [oT] (aG rfl (oc o5)) (by rfl) (dt rfl) rfl (dt rfl) S (dt rfl) ?_;intro v7 v8 S tR;have ph:=ah tR ph;obtain ⟨v9,tS,F⟩:=ob F;have rc:=S.boxRow 0 rfl;replace S:Sat D v7 [Own (aj (roR D R0_) 29) [J] U,Box v8 29 [oT]]:=S.top 1 rfl;replace S:=S.roOne (R:=R0_) (W:=D) o5;replace S:=S.one;refine aE rfl (dt rfl) rfl (dt rfl) S rfl rfl rfl (by simp) rc tS (dt rfl) ?_;intro yX rX S;refine pa rX (ag (bn oL (tn oy ?_)));replace S:=S.keep 1;exact ⟨pZ,qI,ox,oA,rX,v9,rfl,ot,rfl,S,p8,ov,F⟩
   refine cf p9 (aZ (bn oL (tn oy ?_)));replace S:=S.keep 1;exact ⟨pZ,qI,ox,oA,J,U,rfl,ot,Y,S,p8,ov,F⟩
  refine ei oN (pM ox ot (ei oN (pe (i_ (oA.length:Int)) (ap rfl ov) (ei oN (pe (.bool (decide (0 < (oA.length:Int)))) (bD rfl rfl) (pe (.bool (decide (0 < (oA.length:Int)))) (az rfl oN rfl) (en rr ?_)))))));rcases oif F with ⟨pv,F⟩|⟨pv,F⟩
  ·refine ct pv (sn qx ?_);refine bg fun _ oM=>?_;refine sR fun _ wa=>?_;refine pa (i_ 0) (en wa ?_);refine sg fun _ rY=>?_;refine bg fun _ rZ=>?_;refine sR fun _ wc=>?_;refine pM ow Z (pe (i_ (oz.length:Int)) (ap rfl ou) (pe (.bool ((oz.length:Int) == 0)) (bB rfl rfl) (pa (.bool ((oz.length:Int) == 0)) (en wc ?_))));rcases oif F with ⟨qa,F⟩|⟨qa,F⟩
   ·refine ct qa (am (pa (i_ 1) (ag (bn rZ (tn rY ?_)))));refine sR fun _ wd=>?_;refine bF cK S (dt rfl) ?_;intro qJ we S xy;refine pa we (en wd ?_);refine sg fun _ r3=>?_;refine sg fun _ wg=>?_;replace S:Sat D qJ [Own (aj (roR D R0_) 29) [J] U]:=S.rems 2 [0] rfl;refine am (pm (i_ 1) (pe (.bool (decide (0 < (1:Int)))) (bD rfl rfl) (en wg ?_)));rcases oif F with ⟨qb,F⟩|⟨qb,F⟩
    ·refine ct qb ?_;refine sR fun _ wh=>?_;refine pM ox ot ?_;obtain ⟨yY,tT,F⟩:=ob F;refine aD (wA:=D) rfl ov rfl (dt rfl) rfl tT (dt rfl) ?_;intro yZ xz y1 o6 tU;obtain ⟨oU,rfl⟩:=ar o6;refine pe oU (ac rfl ((ah S.below tU) 0 _ rfl)) (pa oU (en wh (am (pM ox ot ?_))));obtain ⟨qK,tV,F⟩:=ob F;refine cq (wA:=D) rfl rfl ov (.inl (congrArg some rfl)) (.inr ⟨rfl,rfl⟩) tV (dt rfl) ?_;intro qc qd;refine pa qc (en r3 ?_);refine sR fun _ r4=>?_;refine pM J Y (pe (i_ (U.length:Int)) (ap rfl (S.rdAt (R:=(aj (roR D R0_) 29)) 0 rfl)) (pe (.bool ((U.length:Int) == 0)) (bB rfl rfl) (pm (.bool ((U.length:Int) == 0)) ?_)));rcases oif F with ⟨oH,F⟩|⟨oH,F⟩
     ·refine eo oH (eo oH (eo oH (eo oH (eo oH (eo oH (eo oH (eo oH (eo oH (pe (.bool true) (aw rfl oH rfl) (en r4 (ct rfl (am (pM J Y (pm oU ?_))))))))))))));refine au [oU] (aG rfl (oc o6)) (by rfl) (dt rfl) rfl (dt rfl) S (dt rfl) ?_;intro wi wj S xA;obtain ⟨wk,tW,F⟩:=ob F;have re:=S.boxRow 0 rfl;replace S:Sat D wi [Own (aj (roR D R0_) 29) [J] U,Box wj 29 [oU]]:=S.top 1 rfl;replace S:=S.roOne (R:=R0_) (W:=D) o6;replace S:=S.one;refine aE rfl (dt rfl) rfl (dt rfl) S rfl rfl rfl (by simp) re tW (dt rfl) ?_;intro y2 r5 S;refine pa r5 (ag (bn oM (tn oy ?_)));replace S:=S.keep 1;exact ⟨ow,oz,qc,qK,r5,wk,Z,rfl,rfl,S,ou,qd,F⟩
     refine ei oH (pM J Y (ei oH (pM J Y (ei oH (pe (i_ (U.length:Int)) (ap rfl (S.rdAt (R:=(aj (roR D R0_) 29)) 0 rfl)) (ei oH ?_))))));obtain ⟨wl,tX,F⟩:=ob F;refine pe (i_ wl) (cd rfl rfl tX) (ei oH ?_);obtain ⟨y3,tY,F⟩:=ob F;refine aD (wA:=qJ) rfl (S.rdAt (R:=(aj (roR D R0_) 29)) 0 rfl) rfl (dt rfl) rfl tY (dt rfl) ?_;intro y4 xB y5 pw pi;replace pw:R0_.rd D _ _:=pw;obtain ⟨wm,rfl⟩:=ar pw;refine ei oH (pe wm (ac rfl (pi 0 _ rfl)) (ei oH (pm oU (ei oH ?_))));obtain ⟨r6,tZ,F⟩:=ob F;refine ec0 de (aN (S.up pw) (S.up o6) tZ) (ca (ak rfl (ak rfl rfl))) S fun y6 t0 S=>?_;have pi:=ah t0 pi;refine ei oH (pe (.bool (r6 != 0)) (bO rfl rfl) (pe (.bool (r6 != 0)) (az rfl oH rfl) (en r4 ?_)));rcases oif F with ⟨qf,F⟩|⟨qf,F⟩
     ·refine ct qf (am (pM J Y (pm oU ?_)));refine au [oU] (aG rfl (oc o6)) (by rfl) (dt rfl) rfl (dt rfl) S (dt rfl) ?_;intro wn wo S t1;have pi:=ah t1 pi;obtain ⟨wq,t3,F⟩:=ob F;have rf:=S.boxRow 0 rfl;replace S:Sat D wn [Own (aj (roR D R0_) 29) [J] U,Box wo 29 [oU]]:=S.top 1 rfl;replace S:=S.roOne (R:=R0_) (W:=D) o6;replace S:=S.one;refine aE rfl (dt rfl) rfl (dt rfl) S rfl rfl rfl (by simp) rf t3 (dt rfl) ?_;intro y7 r7 S;refine pa r7 (ag (bn oM (tn oy ?_)));replace S:=S.keep 1;exact ⟨ow,oz,qc,qK,r7,wq,Z,rfl,rfl,S,ou,qd,F⟩
     refine cf qf (aZ (bn oM (tn oy ?_)));replace S:=S.keep 1;exact ⟨ow,oz,qc,qK,J,U,Z,rfl,Y,S,ou,qd,F⟩
    refine cf qb ?_;refine sR fun _ wr=>?_;refine pM ow Z ?_;obtain ⟨y8,t4,F⟩:=ob F;refine aD (wA:=D) rfl ou rfl (dt rfl) rfl t4 (dt rfl) ?_;intro y9 xC za o7 t5;obtain ⟨oV,rfl⟩:=ar o7;refine pe oV (ac rfl ((ah S.below t5) 0 _ rfl)) (pa oV (en wr (am (pM ow Z ?_))));obtain ⟨qL,t6,F⟩:=ob F;refine cq (wA:=D) rfl rfl ou (.inl (congrArg some rfl)) (.inr ⟨rfl,rfl⟩) t6 (dt rfl) ?_;intro qg qh;refine pa qg (en r3 ?_);refine sR fun _ r8=>?_;refine pM J Y (pe (i_ (U.length:Int)) (ap rfl (S.rdAt (R:=(aj (roR D R0_) 29)) 0 rfl)) (pe (.bool ((U.length:Int) == 0)) (bB rfl rfl) (pm (.bool ((U.length:Int) == 0)) ?_)));rcases oif F with ⟨oI,F⟩|⟨oI,F⟩
    ·refine eo oI (eo oI (eo oI (eo oI (eo oI (eo oI (eo oI (eo oI (eo oI (pe (.bool true) (aw rfl oI rfl) (en r8 (ct rfl (am (pM J Y (pm oV ?_))))))))))))));refine au [oV] (aG rfl (oc o7)) (by rfl) (dt rfl) rfl (dt rfl) S (dt rfl) ?_;intro ws wt S xD;obtain ⟨wu,t7,F⟩:=ob F;have rg:=S.boxRow 0 rfl;replace S:Sat D ws [Own (aj (roR D R0_) 29) [J] U,Box wt 29 [oV]]:=S.top 1 rfl;replace S:=S.roOne (R:=R0_) (W:=D) o7;replace S:=S.one;refine aE rfl (dt rfl) rfl (dt rfl) S rfl rfl rfl (by simp) rg t7 (dt rfl) ?_;intro zb r9 S;refine pa r9 (ag (bn oM (tn oy ?_)));replace S:=S.keep 1;exact ⟨qg,qL,ox,oA,r9,wu,rfl,ot,rfl,S,qh,ov,F⟩
    refine ei oI (pM J Y (ei oI (pM J Y (ei oI (pe (i_ (U.length:Int)) (ap rfl (S.rdAt (R:=(aj (roR D R0_) 29)) 0 rfl)) (ei oI ?_))))));obtain ⟨wv,t8,F⟩:=ob F;refine pe (i_ wv) (cd rfl rfl t8) (ei oI ?_);obtain ⟨zc,t9,F⟩:=ob F;refine aD (wA:=qJ) rfl (S.rdAt (R:=(aj (roR D R0_) 29)) 0 rfl) rfl (dt rfl) rfl t9 (dt rfl) ?_;intro zd xE ze px pj;replace px:R0_.rd D _ _:=px;obtain ⟨ww,rfl⟩:=ar px;refine ei oI (pe ww (ac rfl (pj 0 _ rfl)) (ei oI (pm oV (ei oI ?_))));obtain ⟨sa,ua,F⟩:=ob F;refine ec0 de (aN (S.up px) (S.up o7) ua) (ca (ak rfl (ak rfl rfl))) S fun zf ub S=>?_;have pj:=ah ub pj;refine ei oI (pe (.bool (sa != 0)) (bO rfl rfl) (pe (.bool (sa != 0)) (az rfl oI rfl) (en r8 ?_)));rcases oif F with ⟨qj,F⟩|⟨qj,F⟩
    ·refine ct qj (am (pM J Y (pm oV ?_)));refine au [oV] (aG rfl (oc o7)) (by rfl) (dt rfl) rfl (dt rfl) S (dt rfl) ?_;intro wx wy S uc;have pj:=ah uc pj;obtain ⟨wz,ud,F⟩:=ob F;have rh:=S.boxRow 0 rfl;replace S:Sat D wx [Own (aj (roR D R0_) 29) [J] U,Box wy 29 [oV]]:=S.top 1 rfl;replace S:=S.roOne (R:=R0_) (W:=D) o7;replace S:=S.one;refine aE rfl (dt rfl) rfl (dt rfl) S rfl rfl rfl (by simp) rh ud (dt rfl) ?_;intro zg sc S;refine pa sc (ag (bn oM (tn oy ?_)));replace S:=S.keep 1;exact ⟨qg,qL,ox,oA,sc,wz,rfl,ot,rfl,S,qh,ov,F⟩
    refine cf qj (aZ (bn oM (tn oy ?_)));replace S:=S.keep 1;exact ⟨qg,qL,ox,oA,J,U,rfl,ot,Y,S,qh,ov,F⟩
   refine cf qa ?_;refine sR fun _ wB=>?_;refine pM ox ot (pe (i_ (oA.length:Int)) (ap rfl ov) (pe (.bool (decide (0 < (oA.length:Int)))) (bD rfl rfl) (pa (.bool (decide (0 < (oA.length:Int)))) (en wB (ct pv ?_)))));refine bA (by kernel_rfl) (by kernel_rfl) ?_;refine qM ow Z ?_;obtain ⟨zh,ue,F⟩:=ob F;refine aJ (wA:=D) rfl ou rfl (dt rfl) rfl ue (dt rfl) ?_;intro zi xF zj qU uf;obtain ⟨wC,rfl⟩:=ar qU;refine qe wC (ac rfl ((ah S.below uf) 0 _ rfl)) (qM ox ot ?_);obtain ⟨zk,ug,F⟩:=ob F;refine aJ (wA:=D) rfl ov rfl (dt rfl) rfl ug (dt rfl) ?_;intro zl xG zm qV uh;obtain ⟨wD,rfl⟩:=ar qV;refine qe wD (ac rfl ((ah S.below uh) 0 _ rfl)) ?_;obtain ⟨qk,ui,F⟩:=ob F;refine b6 (i_ qk) de (fun w' hw'=>aN (bi (S.up qU) hw') (bi (S.up qV) hw') ui) (ca (ak rfl (ak rfl rfl))) (dt rfl) ?_;refine qe (i_ qk) (cm rfl) (bf ?_);intro zn uj;replace S:=S.ext uj;refine bn rZ (tn rY ?_);refine sR fun _ wE=>?_;refine bF cK S (dt rfl) ?_;intro qN wF S xH;refine pa wF (en wE ?_);refine sg fun _ sd=>?_;refine sg fun _ wG=>?_;replace S:Sat D qN [Own (aj (roR D R0_) 29) [J] U]:=S.rems 2 [0] rfl;refine am (pm (i_ qk) (pe (.bool (decide (0 < qk))) (bD rfl rfl) (en wG ?_)));rcases oif F with ⟨ql,F⟩|⟨ql,F⟩
   ·refine ct ql ?_;refine sR fun _ wH=>?_;refine pM ox ot ?_;obtain ⟨zo,uk,F⟩:=ob F;refine aD (wA:=D) rfl ov rfl (dt rfl) rfl uk (dt rfl) ?_;intro zp xI zq o8 ul;obtain ⟨oW,rfl⟩:=ar o8;refine pe oW (ac rfl ((ah S.below ul) 0 _ rfl)) (pa oW (en wH (am (pM ox ot ?_))));obtain ⟨qO,um,F⟩:=ob F;refine cq (wA:=D) rfl rfl ov (.inl (congrArg some rfl)) (.inr ⟨rfl,rfl⟩) um (dt rfl) ?_;intro qn qp;refine pa qn (en sd ?_);refine sR fun _ se=>?_;refine pM J Y (pe (i_ (U.length:Int)) (ap rfl (S.rdAt (R:=(aj (roR D R0_) 29)) 0 rfl)) (pe (.bool ((U.length:Int) == 0)) (bB rfl rfl) (pm (.bool ((U.length:Int) == 0)) ?_)));rcases oif F with ⟨oJ,F⟩|⟨oJ,F⟩
    ·refine eo oJ (eo oJ (eo oJ (eo oJ (eo oJ (eo oJ (eo oJ (eo oJ (eo oJ (pe (.bool true) (aw rfl oJ rfl) (en se (ct rfl (am (pM J Y (pm oW ?_))))))))))))));refine au [oW] (aG rfl (oc o8)) (by rfl) (dt rfl) rfl (dt rfl) S (dt rfl) ?_;intro wI wJ S xJ;obtain ⟨wK,un,F⟩:=ob F;have ri:=S.boxRow 0 rfl;replace S:Sat D wI [Own (aj (roR D R0_) 29) [J] U,Box wJ 29 [oW]]:=S.top 1 rfl;replace S:=S.roOne (R:=R0_) (W:=D) o8;replace S:=S.one;refine aE rfl (dt rfl) rfl (dt rfl) S rfl rfl rfl (by simp) ri un (dt rfl) ?_;intro zr sf S;refine pa sf (ag (bn oM (tn oy ?_)));replace S:=S.keep 1;exact ⟨ow,oz,qn,qO,sf,wK,Z,rfl,rfl,S,ou,qp,F⟩
    refine ei oJ (pM J Y (ei oJ (pM J Y (ei oJ (pe (i_ (U.length:Int)) (ap rfl (S.rdAt (R:=(aj (roR D R0_) 29)) 0 rfl)) (ei oJ ?_))))));obtain ⟨wL,uo,F⟩:=ob F;refine pe (i_ wL) (cd rfl rfl uo) (ei oJ ?_);obtain ⟨zt,uq,F⟩:=ob F;refine aD (wA:=qN) rfl (S.rdAt (R:=(aj (roR D R0_) 29)) 0 rfl) rfl (dt rfl) rfl uq (dt rfl) ?_;intro zu xK zw py pk;replace py:R0_.rd D _ _:=py;obtain ⟨wM,rfl⟩:=ar py;refine ei oJ (pe wM (ac rfl (pk 0 _ rfl)) (ei oJ (pm oW (ei oJ ?_))));obtain ⟨sh,ur,F⟩:=ob F;refine ec0 de (aN (S.up py) (S.up o8) ur) (ca (ak rfl (ak rfl rfl))) S fun zx us S=>?_;have pk:=ah us pk;refine ei oJ (pe (.bool (sh != 0)) (bO rfl rfl) (pe (.bool (sh != 0)) (az rfl oJ rfl) (en se ?_)));rcases oif F with ⟨qq,F⟩|⟨qq,F⟩
    ·refine ct qq (am (pM J Y (pm oW ?_)));refine au [oW] (aG rfl (oc o8)) (by rfl) (dt rfl) rfl (dt rfl) S (dt rfl) ?_;intro wO wP S ut;have pk:=ah ut pk;obtain ⟨wQ,uu,F⟩:=ob F;have rj:=S.boxRow 0 rfl;replace S:Sat D wO [Own (aj (roR D R0_) 29) [J] U,Box wP 29 [oW]]:=S.top 1 rfl;replace S:=S.roOne (R:=R0_) (W:=D) o8;replace S:=S.one;refine aE rfl (dt rfl) rfl (dt rfl) S rfl rfl rfl (by simp) rj uu (dt rfl) ?_;intro zy si S;refine pa si (ag (bn oM (tn oy ?_)));replace S:=S.keep 1;exact ⟨ow,oz,qn,qO,si,wQ,Z,rfl,rfl,S,ou,qp,F⟩
    refine cf qq (aZ (bn oM (tn oy ?_)));replace S:=S.keep 1;exact ⟨ow,oz,qn,qO,J,U,Z,rfl,Y,S,ou,qp,F⟩
   refine cf ql ?_;refine sR fun _ wR=>?_;refine pM ow Z ?_;obtain ⟨zA,uv,F⟩:=ob F;refine aD (wA:=D) rfl ou rfl (dt rfl) rfl uv (dt rfl) ?_;intro zB xL zC o9 uw;obtain ⟨oX,rfl⟩:=ar o9;refine pe oX (ac rfl ((ah S.below uw) 0 _ rfl)) (pa oX (en wR (am (pM ow Z ?_))));obtain ⟨qP,ux,F⟩:=ob F;refine cq (wA:=D) rfl rfl ou (.inl (congrArg some rfl)) (.inr ⟨rfl,rfl⟩) ux (dt rfl) ?_;intro qr qu;refine pa qr (en sd ?_);refine sR fun _ sj=>?_;refine pM J Y (pe (i_ (U.length:Int)) (ap rfl (S.rdAt (R:=(aj (roR D R0_) 29)) 0 rfl)) (pe (.bool ((U.length:Int) == 0)) (bB rfl rfl) (pm (.bool ((U.length:Int) == 0)) ?_)));rcases oif F with ⟨oK,F⟩|⟨oK,F⟩
   ·refine eo oK (eo oK (eo oK (eo oK (eo oK (eo oK (eo oK (eo oK (eo oK (pe (.bool true) (aw rfl oK rfl) (en sj (ct rfl (am (pM J Y (pm oX ?_))))))))))))));refine au [oX] (aG rfl (oc o9)) (by rfl) (dt rfl) rfl (dt rfl) S (dt rfl) ?_;intro wS wT S xM;obtain ⟨wU,uy,F⟩:=ob F;have rk:=S.boxRow 0 rfl;replace S:Sat D wS [Own (aj (roR D R0_) 29) [J] U,Box wT 29 [oX]]:=S.top 1 rfl;replace S:=S.roOne (R:=R0_) (W:=D) o9;replace S:=S.one;refine aE rfl (dt rfl) rfl (dt rfl) S rfl rfl rfl (by simp) rk uy (dt rfl) ?_;intro zD sk S;refine pa sk (ag (bn oM (tn oy ?_)));replace S:=S.keep 1;exact ⟨qr,qP,ox,oA,sk,wU,rfl,ot,rfl,S,qu,ov,F⟩
   refine ei oK (pM J Y (ei oK (pM J Y (ei oK (pe (i_ (U.length:Int)) (ap rfl (S.rdAt (R:=(aj (roR D R0_) 29)) 0 rfl)) (ei oK ?_))))));obtain ⟨wV,uz,F⟩:=ob F;refine pe (i_ wV) (cd rfl rfl uz) (ei oK ?_);obtain ⟨zE,uA,F⟩:=ob F;refine aD (wA:=qN) rfl (S.rdAt (R:=(aj (roR D R0_) 29)) 0 rfl) rfl (dt rfl) rfl uA (dt rfl) ?_;intro zF xN zG pz pn;replace pz:R0_.rd D _ _:=pz;obtain ⟨wW,rfl⟩:=ar pz;refine ei oK (pe wW (ac rfl (pn 0 _ rfl)) (ei oK (pm oX (ei oK ?_))));obtain ⟨sl,uB,F⟩:=ob F;refine ec0 de (aN (S.up pz) (S.up o9) uB) (ca (ak rfl (ak rfl rfl))) S fun zH uC S=>?_;have pn:=ah uC pn;refine ei oK (pe (.bool (sl != 0)) (bO rfl rfl) (pe (.bool (sl != 0)) (az rfl oK rfl) (en sj ?_)));rcases oif F with ⟨qv,F⟩|⟨qv,F⟩
   ·refine ct qv (am (pM J Y (pm oX ?_)));refine au [oX] (aG rfl (oc o9)) (by rfl) (dt rfl) rfl (dt rfl) S (dt rfl) ?_;intro wX wY S uD;have pn:=ah uD pn;obtain ⟨wZ,uE,F⟩:=ob F;have rl:=S.boxRow 0 rfl;replace S:Sat D wX [Own (aj (roR D R0_) 29) [J] U,Box wY 29 [oX]]:=S.top 1 rfl;replace S:=S.roOne (R:=R0_) (W:=D) o9;replace S:=S.one;refine aE rfl (dt rfl) rfl (dt rfl) S rfl rfl rfl (by simp) rl uE (dt rfl) ?_;intro zI sm S;refine pa sm (ag (bn oM (tn oy ?_)));replace S:=S.keep 1;exact ⟨qr,qP,ox,oA,sm,wZ,rfl,ot,rfl,S,qu,ov,F⟩
   refine cf qv (aZ (bn oM (tn oy ?_)));replace S:=S.keep 1;exact ⟨qr,qP,ox,oA,J,U,rfl,ot,Y,S,qu,ov,F⟩
  refine cf pv (aT (tx qx (tx oy ?_)));replace F:=exB F sE;refine bS uP (tn uO ?_);refine sR fun _ w3=>?_;refine pM J Y (pa J (en w3 (ai (aC rfl rfl ?_))));have hr:=Option.some.inj F;exact ⟨J,congrArg (fun (r:T1_)=>Ending.returned (J)) hr,(S.rebase sC).below,Eq.mp (congrArg (fun (r:T1_)=>R1_.rd uR [J] r) hr :) (n9 S.below (S.rdAt (R:=(aj (roR D R0_) 29)) 0 rfl))⟩
theorem iR {w0 : World} {u0 : Value} {a0 : List T0_} (ha0 : R1_.rd w0 [u0] a0) {N : Nat} {r : T1_} (hF : co N a0 = some r) :
    Calls Try.prog 46 #[u0] w0 fun e w' => ∃ (q0 : Value), e = .returned (q0) ∧ Ext w0 w' ∧ R1_.rd w' [q0] r := iw N ha0 hF
theorem gt {w0:World} {a0:Int} {u1:Value} {a1:List T0_} (ha1:R1_.rd w0 [u1] a1) {N:Nat} {r:T3_ × Bool} (F:cT N a0 a1=some r): Calls Try.prog 41 #[i_ a0,u1] w0 fun e w'=>∃ (q0:Value),e=.returned (.tuple #[.agg #[i_ r.1.1,q0],.bool r.2])∧Sat w0 w' [Own R1_ [q0] r.1.2] := by
 unfold cT at F;refine aI Try.func41 rfl rfl (dt rfl) ?_;have S:=Sat.start w0;refine sR fun _ o9=>?_;refine be S (dt rfl) ?_;intro py Z S pt;refine pa (.bool false) (en o9 ?_);refine sg fun _ oD=>?_;refine sR fun _ pb=>?_;refine pa (i_ 0) (en pb ?_);refine bg fun _ oE=>?_;obtain ⟨pc,hL,ox⟩:=ob F;refine aV (fun k e w=>∃ (ot:Int),e 0=i_ a0∧e 1=u1∧e 4=.pointer (some ⟨Z,0,none⟩)∧e 6=i_ ot∧Sat w0 w [Box Z 26 [i_ 0,n_]]∧bq N k a0 a1 0 [] ot=some pc) N ?_ ?_ ?_
 ·exact ⟨0,rfl,rfl,rfl,rfl,S,hL⟩
 ·rintro e w ⟨_,_,_,_,_,_,hz⟩; exact nomatch (show none=some _ from hz)
 rintro k pz pA ⟨ot,oy,ov,Y,ow,S,F⟩;refine gn fun _ oz=>?_;refine sg fun _ oO=>?_;refine sR fun _ pd=>?_;refine pM (i_ ot) ow (pM u1 ov (pe (i_ (a1.length:Int)) (ap rfl ha1) (pe (.bool (decide (ot < (a1.length:Int)))) (a8 rfl rfl) (en pd ?_))));rcases oif F with ⟨oA,F⟩|⟨oA,F⟩
 ·refine ct oA (sn oO ?_);refine sg fun _ oF=>?_;refine bg fun _ oG=>?_;refine sR fun _ oP=>?_;refine pM u1 ov (pM (i_ ot) ow ?_);obtain ⟨oH,oV,F⟩:=ob F;refine aD (wA:=w0) rfl ha1 rfl (dt rfl) rfl oV (dt rfl) ?_;intro pB pu pC oM oW;obtain ⟨pf,rfl⟩:=ar oM;refine pe pf (ac rfl ((ah S.below oW) 0 _ rfl)) (pe (i_ (oH.length:Int)) (ap rfl oM) (pM (i_ a0) oy (pe (.bool ((oH.length:Int) != a0)) (bO rfl rfl) (pm (.bool ((oH.length:Int) != a0)) ?_))));rcases oif F with ⟨D,F⟩|⟨D,F⟩
  ·refine eo D (eo D (eo D (eo D (eo D (eo D (pe (.bool true) (aw rfl D rfl) (en oP (ct rfl ?_))))))));refine sR fun _ pg=>?_;refine pe (.agg #[i_ 0,n_]) (cB [] [i_ 0,n_] rfl rfl) ?_;refine aA (S.top 0 rfl) Y [i_ 0,n_] rfl rfl (dt rfl) (all_cons rfl (all_cons rfl rfl)) ?_;intro oQ S;replace S:Sat w0 oQ [Box Z 26 [i_ 0,n_]]:=S;refine pa (.bool false) (en pg (ai (br oG (tr oF (tr oz (br oE (tr oD ?_)))))));replace F:=exL F ox;replace S:=S.nil R0_ 29;refine fb (cs:=[i_ 0,n_]) rfl Y rfl (aH (S.boxAt 1 rfl)) rfl ?_;have hr:=Option.some.inj F;exact ⟨n_,congrArg (fun (r:T3_ × Bool)=>Ending.returned (.tuple #[.agg #[i_ r.1.1,n_],.bool r.2])) hr,Eq.mp (congrArg (fun (r:T3_ × Bool)=>Sat w0 oQ [Own R1_ [n_] r.1.2]) hr) (S.keep 1)⟩
  refine ei D (pM u1 ov (ei D (pM (i_ ot) ow (ei D ?_))));obtain ⟨pD,oX,F⟩:=ob F;refine aD (wA:=w0) rfl ha1 rfl (dt rfl) rfl oX (dt rfl) ?_;intro pE pv pF oN oY;obtain ⟨ph,rfl⟩:=ar oN;refine ei D (pe ph (ac rfl ((ah S.below oY) 0 _ rfl)) (ei D ?_));obtain ⟨oR,oZ,F⟩:=ob F;refine ec0 lG (dZ (S.up oN) oZ) (ca (ak rfl rfl)) S fun pG pw S=>?_;refine ei D (pe (.bool (!oR)) (bP rfl) (pe (.bool (!oR)) (az rfl D rfl) (en oP ?_)));rcases oif F with ⟨oB,F⟩|⟨oB,F⟩
  ·refine cf (av oB) (aZ (bn oG (tn oF (am (pM (i_ ot) ow ?_)))));obtain ⟨oI,o0,F⟩:=ob F;refine pe (i_ oI) (aS rfl rfl o0) (pa (i_ oI) (en oz ?_));replace S:=S.keep 1;exact ⟨oI,oy,ov,Y,rfl,S,F⟩
  refine ct (ax oB) ?_;refine sR fun _ pi=>?_;refine pe (.agg #[i_ 0,n_]) (cB [] [i_ 0,n_] rfl rfl) ?_;refine aA (S.top 0 rfl) Y [i_ 0,n_] rfl rfl (dt rfl) (all_cons rfl (all_cons rfl rfl)) ?_;intro oS S;replace S:Sat w0 oS [Box Z 26 [i_ 0,n_]]:=S;refine pa (.bool false) (en pi (ai (br oG (tr oF (tr oz (br oE (tr oD ?_)))))));replace F:=exL F ox;replace S:=S.nil R0_ 29;refine fb (cs:=[i_ 0,n_]) rfl Y rfl (aH (S.boxAt 1 rfl)) rfl ?_;have hr:=Option.some.inj F;exact ⟨n_,congrArg (fun (r:T3_ × Bool)=>Ending.returned (.tuple #[.agg #[i_ r.1.1,n_],.bool r.2])) hr,Eq.mp (congrArg (fun (r:T3_ × Bool)=>Sat w0 oS [Own R1_ [n_] r.1.2]) hr) (S.keep 1)⟩
 refine cf oA (aT (tx oO (tx oz ?_)));replace F:=exA F ox;refine bS oE (tn oD ?_);refine sR fun _ pj=>?_;refine pM (i_ a0) oy (pM u1 ov ?_);obtain ⟨pH,o3,F⟩:=ob F;refine aR jG (iR (S.up ha1) o3) (ca (ak rfl rfl)) (dt rfl) ?_;rintro _ pI ⟨oJ,rfl,o4,ou⟩;refine ⟨_,rfl,?_⟩;replace S:=S.ext o4;refine pe (.agg #[i_ a0,oJ]) (cB [(0,[i_ a0]),(1,[oJ])] [i_ a0,oJ] (d9 rfl (d9 (aG rfl (oc ou)) rfl)) rfl) ?_;obtain ⟨U,o5,F⟩:=ob F;refine ec1 lh (fV ou o5) (ca (ak rfl rfl)) S fun pJ J o6 S=>?_;have ou:=bi ou o6;refine be S (dt rfl) ?_;intro pK oK S o7;have ou:=bi ou o7;refine aA (S.top 0 rfl) rfl [i_ U.1,J] rfl rfl (dt rfl) (all_cons rfl (all_cons (oc (S.rdAt (R:=R1_) 1 rfl)) rfl)) ?_;intro pk S;replace S:Sat w0 pk [Box oK 26 [i_ U.1,J],Own R1_ [J] U.2,Box Z 26 [i_ 0,n_]]:=S;refine en pj ?_;refine sg fun _ oT=>?_;refine sR fun _ pn=>?_;refine pe (.agg #[i_ U.1,J]) (aB (cs:=[i_ U.1,J]) rfl rfl (aH (S.boxAt 0 rfl))) ?_;obtain ⟨po,o8,F⟩:=ob F;refine ec0 kK (c5 (S.rdAt (R:=R1_) 1 rfl) o8) (ca (ak rfl rfl)) S fun pp px S=>?_;refine pe (.bool (!po)) (bP rfl) (en pn ?_);rcases oif F with ⟨oC,F⟩|⟨oC,F⟩
 ·refine cf (av oC) (sn oT ?_);refine sR fun _ pq=>?_;refine pe (.agg #[i_ U.1,J]) (aB (cs:=[i_ U.1,J]) rfl rfl (aH (S.boxAt 0 rfl))) ?_;refine aA (S.top 2 rfl) Y [i_ U.1,J] rfl rfl (dt rfl) (all_cons rfl (all_cons (oc (S.rdAt (R:=R1_) 1 rfl)) rfl)) ?_;intro oL S;replace S:Sat w0 oL [Box Z 26 [i_ U.1,J],Box oK 26 [i_ U.1,J],Own R1_ [J] U.2]:=S;refine pa (.bool true) (en pq (ai ?_));refine fb (cs:=[i_ U.1,J]) rfl Y rfl (aH (S.boxAt 0 rfl)) rfl ?_;replace S:Sat w0 oL [Own R1_ [J] U.2,Box Z 26 [i_ U.1,J],Box oK 26 [i_ U.1,J]]:=S.tops 3 [2] rfl;have hr:=Option.some.inj F;exact ⟨J,congrArg (fun (r:T3_ × Bool)=>Ending.returned (.tuple #[.agg #[i_ r.1.1,J],.bool r.2])) hr,Eq.mp (congrArg (fun (r:T3_ × Bool)=>Sat w0 oL [Own R1_ [J] r.1.2]) hr) (S.keep 1)⟩
 refine ct (ax oC) ?_;refine sg fun _ pr=>?_;replace S:Sat w0 pp [Box Z 26 [i_ 0,n_]]:=S.rems 3 [0,1] rfl;refine am (pe (.agg #[i_ 0,n_]) (cB [] [i_ 0,n_] rfl rfl) ?_);refine aA (S.top 0 rfl) Y [i_ 0,n_] rfl rfl (dt rfl) (all_cons rfl (all_cons rfl rfl)) ?_;intro oU S;replace S:Sat w0 oU [Box Z 26 [i_ 0,n_]]:=S;refine pa (.bool false) (en pr (ai (tr oT ?_)));replace S:=S.nil R0_ 29;refine fb (cs:=[i_ 0,n_]) rfl Y rfl (aH (S.boxAt 1 rfl)) rfl ?_;have hr:=Option.some.inj F;exact ⟨n_,congrArg (fun (r:T3_ × Bool)=>Ending.returned (.tuple #[.agg #[i_ r.1.1,n_],.bool r.2])) hr,Eq.mp (congrArg (fun (r:T3_ × Bool)=>Sat w0 oU [Own R1_ [n_] r.1.2]) hr) (S.keep 1)⟩

end Go.Proofs.Ytcpkiphiaebkmaa
namespace Go.Proofs.Ytcpkiphiaebkmaa
open Go.RowKit
set_option maxRecDepth 100000
set_option maxHeartbeats 4000000
theorem i8 {w0:World} {Z:World} {G0:List Asn} {b0:Nat} {u0:Value} {a0:List Int} {a1:Int} {a2:Int} {a3:Int} {a4:Int} {a5:Int} (ha0:(aj u8R 5).rd Z [u0] a0) (S:Sat Z w0 (Box b0 60 [u0,i_ a1,i_ a2] :: G0)) {N:Nat} {r:T3_ × Int × Int} (F:ep N a0 a1 a2 a3 a4 a5=some r): Calls Try.prog 30 #[.pointer (some ⟨b0,0,none⟩),i_ a3,i_ a4,i_ a5] w0 fun e w'=>∃ (q0:Value),e=.returned (.agg #[i_ r.1.1,q0])∧Sat Z w' (Own R1_ [q0] r.1.2 :: Box b0 60 [u0,i_ r.2.1,i_ r.2.2] :: G0) := by
 unfold ep at F;refine aI Try.func30 rfl rfl (dt rfl) ?_;refine sR fun _ o3=>?_;refine be S (dt rfl) ?_;intro pr Y S pk;refine en o3 ?_;refine sR fun _ o4=>?_;refine bF R0_ S (dt rfl) ?_;intro o5 oA S pn;refine pa oA (en o4 ?_);refine sg fun _ o6=>?_;refine sR fun _ o7=>?_;refine pm (.pointer (some ⟨b0,0,none⟩)) (pm (i_ a4) ?_);obtain ⟨o8,oU,F⟩:=ob F;refine pe (i_ o8) (aS rfl rfl oU) ?_;replace S:Sat Z o5 (Box b0 60 [u0,i_ a1,i_ a2] :: Own R1_ [oA] [] :: Box Y 26 [i_ 0,n_] :: G0):=S.tops 3 [2] rfl;obtain ⟨ox,oV,F⟩:=ob F;refine aR fU (cN ha0 S oV) (ca (ak rfl (ak rfl rfl))) (dt rfl) ?_;rintro _ o9 ⟨rfl,S⟩;refine ⟨_,rfl,?_⟩;replace S:Sat Z o9 (Box b0 60 [u0,i_ ox.2.1,i_ ox.2.2] :: Own R1_ [oA] [] :: Box Y 26 [i_ 0,n_] :: G0):=S;refine pa (i_ ox.1) (en o7 ?_);refine bg fun _ pb=>?_;obtain ⟨pc,hL,oW⟩:=ob F;refine aV (fun k e w=>∃ (ou:Int),∃ (ov:Int),∃ (ot:Value),∃ (ow:List T0_),∃ (oy:Int),e 0=.pointer (some ⟨b0,0,none⟩)∧e 1=i_ a3∧e 3=i_ a5∧e 8=.pointer (some ⟨Y,0,none⟩)∧e 9=ot∧e 10=i_ oy∧Sat Z w (Box b0 60 [u0,i_ ou,i_ ov] :: Own R1_ [ot] ow :: Box Y 26 [i_ 0,n_] :: G0)∧c9 N k a0 ou ov a3 a5 0 [] ow oy=some pc) N ?_ ?_ ?_
 ·exact ⟨ox.2.1,ox.2.2,oA,[],ox.1,rfl,rfl,rfl,rfl,rfl,rfl,S,hL⟩
 ·rintro e w ⟨_,_,_,_,_,_,_,_,_,_,_,_,hz⟩; exact nomatch (show none=some _ from hz)
 rintro k pt pu ⟨ou,ov,ot,ow,oy,oJ,oB,oK,oC,oL,oM,S,F⟩;refine gn fun _ oO=>?_;refine sg fun _ oP=>?_;refine sR fun _ pd=>?_;refine pM (i_ oy) oM (pe (.bool (decide (0 < oy))) (bD rfl rfl) (en pd ?_));rcases oif F with ⟨oD,F⟩|⟨oD,F⟩
 ·refine ct oD (sn oP ?_);refine sg fun _ pf=>?_;refine bg fun _ pg=>?_;refine am (pM ot oL (pM (.pointer (some ⟨b0,0,none⟩)) oJ (pM (i_ a3) oB (pM (i_ a5) oK ?_))));obtain ⟨U,oX,F⟩:=ob F;refine aR lq (gk ha0 S oX) (ca (ak rfl (ak rfl (ak rfl rfl)))) (dt rfl) ?_;rintro _ ph ⟨oz,rfl,S⟩;refine ⟨_,rfl,?_⟩;replace S:Sat Z ph (Own R0_ [oz] U.1 :: Box b0 60 [u0,i_ U.2.1,i_ U.2.2] :: Own R1_ [ot] ow :: Box Y 26 [i_ 0,n_] :: G0):=S;refine au [oz] (aG rfl (oc (S.rdAt (R:=R0_) 0 rfl))) (by rfl) (dt rfl) rfl (dt rfl) S (dt rfl) ?_;intro oQ oR S po;obtain ⟨oH,oY,F⟩:=ob F;have oN:=S.boxRow 0 rfl;replace S:Sat Z oQ (Own R1_ [ot] ow :: Box oR 29 [oz] :: Own R0_ [oz] U.1 :: Box b0 60 [u0,i_ U.2.1,i_ U.2.2] :: Box Y 26 [i_ 0,n_] :: G0):=S.top 3 rfl;replace S:Sat Z oQ (Own R0_ [oz] U.1 :: Own R1_ [ot] ow :: Box oR 29 [oz] :: Box b0 60 [u0,i_ U.2.1,i_ U.2.2] :: Box Y 26 [i_ 0,n_] :: G0):=S.top 2 rfl;replace S:=S.one;refine aE rfl (dt rfl) rfl (dt rfl) S rfl rfl rfl (by simp) oN oY (dt rfl) ?_;intro oS oE S;refine pa oE (ag (bn pg (tn pf ?_)));replace S:Sat Z oS (Own R1_ [oE] oH :: Box b0 60 [u0,i_ U.2.1,i_ U.2.2] :: Box Y 26 [i_ 0,n_] :: G0):=S.rems 4 [1] rfl;refine am (pM (i_ oy) oM ?_);obtain ⟨oI,oZ,F⟩:=ob F;refine pe (i_ oI) (cd rfl rfl oZ) (pa (i_ oI) (en oO ?_));replace S:Sat Z oS (Box b0 60 [u0,i_ U.2.1,i_ U.2.2] :: Own R1_ [oE] oH :: Box Y 26 [i_ 0,n_] :: G0):=S.tops 3 [1,0,2] rfl;exact ⟨U.2.1,U.2.2,oE,oH,oI,oJ,oB,oK,oC,rfl,rfl,S,F⟩
 refine cf oD (aT (tx oP (tx oO ?_)));replace F:=exB F oW;refine bS pb (tn o6 ?_);refine sR fun _ pi=>?_;refine pM (i_ a3) oB (pM ot oL ?_);obtain ⟨D,o0,F⟩:=ob F;refine ec1 nA (gt (S.rdAt (R:=R1_) 1 rfl) o0) (ca (ak rfl (ak rfl rfl))) S fun pv J pp S=>?_;refine pm (.tuple #[.agg #[i_ D.1.1,J],.bool D.2]) (pe (.agg #[i_ D.1.1,J]) (cg rfl rfl) (pe (.bool D.2) (cg rfl rfl) ?_));refine be S (dt rfl) ?_;intro pw oF S pq;refine aA (S.top 0 rfl) rfl [i_ D.1.1,J] rfl rfl (dt rfl) (all_cons rfl (all_cons (oc (S.rdAt (R:=R1_) 1 rfl)) rfl)) ?_;intro oT S;replace S:Sat Z oT (Box oF 26 [i_ D.1.1,J] :: Own R1_ [J] D.1.2 :: Box b0 60 [u0,i_ ou,i_ ov] :: Own R1_ [ot] ow :: Box Y 26 [i_ 0,n_] :: G0):=S;refine pa (.bool D.2) (en pi ?_);refine sg fun _ pj=>?_;replace S:Sat Z oT (Box oF 26 [i_ D.1.1,J] :: Own R1_ [J] D.1.2 :: Box b0 60 [u0,i_ ou,i_ ov] :: Box Y 26 [i_ 0,n_] :: G0):=S.rems 5 [3] rfl;refine am (pe (.agg #[i_ D.1.1,J]) (aB (cs:=[i_ D.1.1,J]) rfl rfl (aH (S.boxAt 0 rfl))) ?_);refine aA (S.top 3 rfl) oC [i_ D.1.1,J] rfl rfl (dt rfl) (all_cons rfl (all_cons (oc (S.rdAt (R:=R1_) 1 rfl)) rfl)) ?_;intro oG S;replace S:Sat Z oG (Box Y 26 [i_ D.1.1,J] :: Box oF 26 [i_ D.1.1,J] :: Own R1_ [J] D.1.2 :: Box b0 60 [u0,i_ ou,i_ ov] :: G0):=S;refine en pj (ai ?_);refine gb (cs:=[i_ D.1.1,J]) rfl oC rfl (aH (S.boxAt 0 rfl))  ?_;replace S:Sat Z oG (Own R1_ [J] D.1.2 :: Box b0 60 [u0,i_ ou,i_ ov] :: Box Y 26 [i_ D.1.1,J] :: Box oF 26 [i_ D.1.1,J] :: G0):=S.tops 4 [2,3] rfl;have hr:=Option.some.inj F;replace S:Sat Z oG (Own R1_ [J] D.1.2 :: Box b0 60 [u0,i_ ou,i_ ov] :: G0):=S.rems 4 [2,3] rfl;exact ⟨J,(congrArg (fun (r:T3_ × Int × Int)=>Ending.returned (.agg #[i_ r.1.1,J])) hr :),Eq.mp (congrArg (fun (r:T3_ × Int × Int)=>Sat Z oG (Own R1_ [J] r.1.2 :: Box b0 60 [u0,i_ r.2.1,i_ r.2.2] :: G0)) hr :) S⟩
theorem eZ {w0:World} {J:World} {G0:List Asn} {b0:Nat} {u0:Value} {a0:List Int} {a1:Int} {a2:Int} {u3:Value} {a3:List Int} (ha0:(aj u8R 5).rd J [u0] a0) (S:Sat J w0 (Box b0 60 [u0,i_ a1,i_ a2] :: Own R0_ [u3] a3 :: G0)) {N:Nat} {r:Int × Int × Int} (F:cS N a0 a1 a2 a3=some r): Calls Try.prog 32 #[.pointer (some ⟨b0,0,none⟩),u3] w0 fun e w'=>e=.returned (i_ r.1)∧Sat J w' (Box b0 60 [u0,i_ r.2.1,i_ r.2.2] :: G0) := by
 unfold cS at F;refine aI Try.func32 rfl rfl (dt rfl) ?_;refine sR fun _ ov=>?_;refine pa (i_ 0) (en ov ?_);refine sR fun _ ow=>?_;refine pm u3 (pm (.pointer (some ⟨b0,0,none⟩)) (pm u3 (pe (i_ (a3.length:Int)) (ap rfl (S.rdAt (R:=R0_) 1 rfl)) ?_)));obtain ⟨D,ou,F⟩:=ob F;refine aR fU (cN ha0 S ou) (ca (ak rfl (ak rfl rfl))) (dt rfl) ?_;rintro _ Y ⟨rfl,S⟩;refine ⟨_,rfl,?_⟩;replace S:Sat J Y (Box b0 60 [u0,i_ D.2.1,i_ D.2.2] :: Own R0_ [u3] a3 :: G0):=S;obtain ⟨ot,U,F⟩:=ob F;obtain ⟨ox,oy,Z⟩:=cR 1 S rfl U;refine pe (.pointer (some ⟨ox,D.1.toNat * 1,none⟩)) (cv (v:=u3) rfl Z rfl U) (pe (i_ ot) (ac rfl (S.ownCell 1 rfl Z U)) (pa (i_ ot) (en ow (ai (aC rfl rfl ?_)))));have hr:=Option.some.inj F;replace S:Sat J Y (Box b0 60 [u0,i_ D.2.1,i_ D.2.2] :: G0):=S.rems 2 [1] rfl;exact ⟨(congrArg (fun (r:Int × Int × Int)=>Ending.returned (i_ r.1)) hr :),Eq.mp (congrArg (fun (r:Int × Int × Int)=>Sat J Y (Box b0 60 [u0,i_ r.2.1,i_ r.2.2] :: G0)) hr :) S⟩
theorem gm {w0:World} {Y:World} {G0:List Asn} {b0:Nat} {u0:Value} {a0:List Int} {a1:Int} {a2:Int} (ha0:(aj u8R 5).rd Y [u0] a0) (S:Sat Y w0 (Box b0 60 [u0,i_ a1,i_ a2] :: G0)) {N:Nat} {r:T3_ × Int × Int} (F:dR N a0 a1 a2=some r): Calls Try.prog 14 #[.pointer (some ⟨b0,0,none⟩)] w0 fun e w'=>∃ (q0:Value),e=.returned (.agg #[i_ r.1.1,q0])∧Sat Y w' (Own R1_ [q0] r.1.2 :: Box b0 60 [u0,i_ r.2.1,i_ r.2.2] :: G0) := by
 unfold dR at F;refine aI Try.func14 rfl rfl (dt rfl) ?_;refine sR fun _ pw=>?_;refine be S (dt rfl) ?_;intro px Z S pV;refine en pw ?_;refine sR fun _ py=>?_;refine pm (.pointer (some ⟨b0,0,none⟩)) (pm (.pointer (some ⟨b0,0,none⟩)) ?_);replace S:Sat Y px (Box b0 60 [u0,i_ a1,i_ a2] :: Box Z 26 [i_ 0,n_] :: G0):=S.tops 2 [1] rfl;obtain ⟨o5,pg,F⟩:=ob F;refine aR fU (cN ha0 S pg) (ca (ak rfl (ak rfl rfl))) (dt rfl) ?_;rintro _ pz ⟨rfl,S⟩;refine ⟨_,rfl,?_⟩;replace S:Sat Y pz (Box b0 60 [u0,i_ o5.2.1,i_ o5.2.2] :: Box Z 26 [i_ 0,n_] :: G0):=S;obtain ⟨J,ph,F⟩:=ob F;refine aR nb (i8 ha0 S ph) (ca (ak rfl (ak rfl (ak rfl (ak rfl rfl))))) (dt rfl) ?_;rintro _ pA ⟨D,rfl,S⟩;refine ⟨_,rfl,?_⟩;replace S:Sat Y pA (Own R1_ [D] J.1.2 :: Box b0 60 [u0,i_ J.2.1,i_ J.2.2] :: Box Z 26 [i_ 0,n_] :: G0):=S;refine be S (dt rfl) ?_;intro pZ U S pW;refine aA (S.top 0 rfl) rfl [i_ J.1.1,D] rfl rfl (dt rfl) (all_cons rfl (all_cons (oc (S.rdAt (R:=R1_) 1 rfl)) rfl)) ?_;intro o6 S;replace S:Sat Y o6 (Box U 26 [i_ J.1.1,D] :: Own R1_ [D] J.1.2 :: Box b0 60 [u0,i_ J.2.1,i_ J.2.2] :: Box Z 26 [i_ 0,n_] :: G0):=S;refine en py ?_;refine sg fun _ oE=>?_;refine sR fun _ pB=>?_;refine pm (.pointer (some ⟨b0,0,none⟩)) ?_;replace S:Sat Y o6 (Box b0 60 [u0,i_ J.2.1,i_ J.2.2] :: Box U 26 [i_ J.1.1,D] :: Own R1_ [D] J.1.2 :: Box Z 26 [i_ 0,n_] :: G0):=S.tops 4 [2] rfl;obtain ⟨ot,pi,F⟩:=ob F;refine aR fU (cN ha0 S pi) (ca (ak rfl (ak rfl rfl))) (dt rfl) ?_;rintro _ oU ⟨rfl,S⟩;refine ⟨_,rfl,?_⟩;replace S:Sat Y oU (Box b0 60 [u0,i_ ot.2.1,i_ ot.2.2] :: Box U 26 [i_ J.1.1,D] :: Own R1_ [D] J.1.2 :: Box Z 26 [i_ 0,n_] :: G0):=S;refine en pB ?_;refine bg fun _ oF=>?_;refine sR fun _ pC=>?_;refine pe (.bool (ot.1 == 0)) (bB rfl rfl) (pa (.bool (ot.1 == 0)) (en pC ?_));rcases oif F with ⟨oJ,F⟩|⟨oJ,F⟩
 ·refine ct oJ (am (pm (.pointer (some ⟨b0,0,none⟩)) (pe (.pointer (some ⟨U,0 + 0,none⟩)) (ae rfl) (pe (i_ J.1.1) (ac rfl ((S.boxAt 1 rfl) 0 _ rfl)) ?_))));obtain ⟨oH,pj,F⟩:=ob F;refine pe (i_ oH) (aS rfl rfl pj) ?_;refine fZ (R:=cK) (xs:=([(-1),6,oH]:List Int)) [i_ (-1),i_ 6,i_ oH] rfl rfl rfl rfl (jY rfl (jY rfl (jY rfl rfl))) (jI ([(-1),6,oH]:List Int)) S (dt rfl) ?_;intro pD pE S pX;replace S:Sat Y pD (Box b0 60 [u0,i_ ot.2.1,i_ ot.2.2] :: Own R0_ [pE] ([(-1),6,oH]:List Int) :: Box U 26 [i_ J.1.1,D] :: Own R1_ [D] J.1.2 :: Box Z 26 [i_ 0,n_] :: G0):=S.tops 5 [1,0] rfl;obtain ⟨ow,pk,F⟩:=ob F;refine aR lF (eZ ha0 S pk) (ca (ak rfl (ak rfl rfl))) (dt rfl) ?_;rintro _ pF ⟨rfl,S⟩;refine ⟨_,rfl,?_⟩;replace S:Sat Y pF (Box b0 60 [u0,i_ ow.2.1,i_ ow.2.2] :: Box U 26 [i_ J.1.1,D] :: Own R1_ [D] J.1.2 :: Box Z 26 [i_ 0,n_] :: G0):=S;refine pe (.pointer (some ⟨U,0 + 0,none⟩)) (ae rfl) ?_;refine aA (S.top 1 rfl) rfl [i_ ow.1] rfl rfl (dt rfl) (all_cons rfl rfl) ?_;intro pG S;replace S:Sat Y pG (Box U 26 [i_ ow.1,D] :: Box b0 60 [u0,i_ ow.2.1,i_ ow.2.2] :: Own R1_ [D] J.1.2 :: Box Z 26 [i_ 0,n_] :: G0):=S;refine ag (bn oF (tn oE ?_));refine sR fun _ pH=>?_;refine pe (.agg #[i_ ow.1,D]) (aB (cs:=[i_ ow.1,D]) rfl rfl (aH (S.boxAt 0 rfl))) ?_;refine aA (S.top 3 rfl) rfl [i_ ow.1,D] rfl rfl (dt rfl) (all_cons rfl (all_cons (oc (S.rdAt (R:=R1_) 2 rfl)) rfl)) ?_;intro oK S;replace S:Sat Y oK (Box Z 26 [i_ ow.1,D] :: Box U 26 [i_ ow.1,D] :: Box b0 60 [u0,i_ ow.2.1,i_ ow.2.2] :: Own R1_ [D] J.1.2 :: G0):=S;refine en pH (ai ?_);refine gb (cs:=[i_ ow.1,D]) rfl rfl rfl (aH (S.boxAt 0 rfl))  ?_;replace S:Sat Y oK (Own R1_ [D] J.1.2 :: Box b0 60 [u0,i_ ow.2.1,i_ ow.2.2] :: Box Z 26 [i_ ow.1,D] :: Box U 26 [i_ ow.1,D] :: G0):=S.tops 4 [3,2] rfl;have hr:=Option.some.inj F;replace S:Sat Y oK (Own R1_ [D] J.1.2 :: Box b0 60 [u0,i_ ow.2.1,i_ ow.2.2] :: G0):=S.rems 4 [2,3] rfl;exact ⟨D,(congrArg (fun (r:T3_ × Int × Int)=>Ending.returned (.agg #[i_ r.1.1,D])) hr :),Eq.mp (congrArg (fun (r:T3_ × Int × Int)=>Sat Y oK (Own R1_ [D] r.1.2 :: Box b0 60 [u0,i_ r.2.1,i_ r.2.2] :: G0)) hr :) S⟩
 refine cf oJ ?_;refine sR fun _ pI=>?_;refine pe (.bool (ot.1 == 1)) (bB rfl rfl) (pa (.bool (ot.1 == 1)) (en pI ?_));rcases oif F with ⟨oL,F⟩|⟨oL,F⟩
 ·refine ct oL ?_;obtain ⟨C,hCd⟩:∃ C:World → Prop,∀ w,C w ↔ ∃ G,Sat Y w ([Box U 26 [i_ J.1.1,D]] ++ G):=⟨_,fun _=>Iff.rfl⟩;refine bR [0,1,2,3,4,5,6,7,8,9] C (by kernel_rfl) ?_;intro o7 pn;replace S:=S.ext pn;replace S:Sat Y o7 (Box U 26 [i_ J.1.1,D] :: Box b0 60 [u0,i_ ot.2.1,i_ ot.2.2] :: Own R1_ [D] J.1.2 :: Box Z 26 [i_ 0,n_] :: G0):=S.tops 4 [1] rfl;have hC:=(hCd _).2 ⟨_,S⟩;refine aP (.pointer (some ⟨U,0 + 1,none⟩)) 0 rfl rfl hC (ay rfl (fun w' hw'=>by obtain ⟨_,S⟩:=(hCd _).1 hw'; exact (ae rfl))) ?_;refine aP D 1 rfl rfl hC (ay rfl (fun w' hw'=>by obtain ⟨_,S⟩:=(hCd _).1 hw'; exact (ac rfl ((S.boxAt 0 rfl) 1 _ rfl)))) ?_;refine aP (.pointer (some ⟨b0,0,none⟩)) 2 rfl rfl hC (ay rfl (fun w' hw'=>by obtain ⟨_,S⟩:=(hCd _).1 hw'; exact (aF rfl))) ?_;refine aO 3 rfl ?_;refine pe (.pointer (some ⟨U,0 + 0,none⟩)) (ae rfl) (ag ?_);refine ⟨fun _=>hC,?_⟩;refine aO 4 rfl ?_;refine pe (i_ J.1.1) (ac rfl ((S.boxAt 0 rfl) 0 _ rfl)) (ag ?_);refine ⟨fun _=>hC,?_⟩;refine aO 5 rfl ?_;refine pe (i_ (imx 0 J.1.1)) (nv rfl rfl) (ag ?_);have hC:=(hCd _).2 ⟨_,S⟩;refine ⟨fun _=>hC,?_⟩;refine aO 6 rfl ?_;replace S:Sat Y o7 (Box b0 60 [u0,i_ ot.2.1,i_ ot.2.2] :: Box U 26 [i_ J.1.1,D] :: Own R1_ [D] J.1.2 :: Box Z 26 [i_ 0,n_] :: G0):=S.tops 4 [1] rfl;obtain ⟨ou,po,F⟩:=ob F;refine aR lq (gk ha0 S po) (ca (ak rfl (ak rfl (ak rfl rfl)))) (dt rfl) ?_;rintro _ o8 ⟨oA,rfl,S⟩;refine ⟨_,rfl,?_⟩;replace S:Sat Y o8 (Own R0_ [oA] ou.1 :: Box b0 60 [u0,i_ ou.2.1,i_ ou.2.2] :: Box U 26 [i_ J.1.1,D] :: Own R1_ [D] J.1.2 :: Box Z 26 [i_ 0,n_] :: G0):=S;refine ag ?_;replace S:Sat Y o8 (Box U 26 [i_ J.1.1,D] :: Own R0_ [oA] ou.1 :: Box b0 60 [u0,i_ ou.2.1,i_ ou.2.2] :: Own R1_ [D] J.1.2 :: Box Z 26 [i_ 0,n_] :: G0):=S.tops 5 [2] rfl;have hC:=(hCd _).2 ⟨_,S⟩;refine ⟨fun _=>hC,?_⟩;refine aO 7 rfl ?_;refine au [oA] (aG rfl (oc (S.rdAt (R:=R0_) 1 rfl))) (by rfl) (dt rfl) rfl (dt rfl) S (dt rfl) ?_;intro oV oI S pY;refine ag ?_;replace S:Sat Y oV (Box U 26 [i_ J.1.1,D] :: Box oI 29 [oA] :: Own R0_ [oA] ou.1 :: Box b0 60 [u0,i_ ou.2.1,i_ ou.2.2] :: Own R1_ [D] J.1.2 :: Box Z 26 [i_ 0,n_] :: G0):=S.tops 6 [1] rfl;have hC:=(hCd _).2 ⟨_,S⟩;refine ⟨fun _=>hC,?_⟩;refine aO 8 rfl ?_;obtain ⟨oG,pp,F⟩:=ob F;have o4:=S.boxRow 1 rfl;replace S:Sat Y oV (Own R1_ [D] J.1.2 :: Box U 26 [i_ J.1.1,D] :: Box oI 29 [oA] :: Own R0_ [oA] ou.1 :: Box b0 60 [u0,i_ ou.2.1,i_ ou.2.2] :: Box Z 26 [i_ 0,n_] :: G0):=S.top 4 rfl;replace S:Sat Y oV (Own R0_ [oA] ou.1 :: Own R1_ [D] J.1.2 :: Box U 26 [i_ J.1.1,D] :: Box oI 29 [oA] :: Box b0 60 [u0,i_ ou.2.1,i_ ou.2.2] :: Box Z 26 [i_ 0,n_] :: G0):=S.top 3 rfl;replace S:=S.one;refine aE rfl (dt rfl) rfl (dt rfl) S rfl rfl rfl (by simp) o4 pp (dt rfl) ?_;intro pJ ox S;refine ag ?_;replace S:Sat Y pJ (Box U 26 [i_ J.1.1,D] :: Own R1_ [ox] oG :: Box oI 29 [oA] :: Box b0 60 [u0,i_ ou.2.1,i_ ou.2.2] :: Box Z 26 [i_ 0,n_] :: G0):=S.tops 5 [1] rfl;have hC:=(hCd _).2 ⟨_,S⟩;refine ⟨fun _=>hC,?_⟩;refine aO 9 rfl ?_;refine pe (.pointer (some ⟨U,0 + 1,none⟩)) (ae rfl) (ag ?_);refine ⟨fun _=>hC,?_⟩;refine aO 10 rfl ?_;refine aA (S.top 0 rfl) rfl [ox] (aG rfl (oc (S.rdAt (R:=R1_) 1 rfl))) rfl (dt rfl) (all_cons (oc (S.rdAt (R:=R1_) 1 rfl)) rfl) ?_;intro o9 S;replace S:Sat Y o9 (Box U 26 [i_ J.1.1,ox] :: Own R1_ [ox] oG :: Box oI 29 [oA] :: Box b0 60 [u0,i_ ou.2.1,i_ ou.2.2] :: Box Z 26 [i_ 0,n_] :: G0):=S;refine ag ?_;refine ⟨fun h=>(nomatch (show false=true from h)),?_⟩;refine cl (by kernel_rfl) ?_;refine bn oF (tn oE ?_);refine sg fun _ pK=>?_;replace S:Sat Y o9 (Box U 26 [i_ J.1.1,ox] :: Own R1_ [ox] oG :: Box b0 60 [u0,i_ ou.2.1,i_ ou.2.2] :: Box Z 26 [i_ 0,n_] :: G0):=S.rems 5 [2] rfl;refine am (pe (.agg #[i_ J.1.1,ox]) (aB (cs:=[i_ J.1.1,ox]) rfl rfl (aH (S.boxAt 0 rfl))) ?_);refine aA (S.top 3 rfl) rfl [i_ J.1.1,ox] rfl rfl (dt rfl) (all_cons rfl (all_cons (oc (S.rdAt (R:=R1_) 1 rfl)) rfl)) ?_;intro oM S;replace S:Sat Y oM (Box Z 26 [i_ J.1.1,ox] :: Box U 26 [i_ J.1.1,ox] :: Own R1_ [ox] oG :: Box b0 60 [u0,i_ ou.2.1,i_ ou.2.2] :: G0):=S;refine en pK (ai ?_);refine gb (cs:=[i_ J.1.1,ox]) rfl rfl rfl (aH (S.boxAt 0 rfl))  ?_;replace S:Sat Y oM (Own R1_ [ox] oG :: Box b0 60 [u0,i_ ou.2.1,i_ ou.2.2] :: Box Z 26 [i_ J.1.1,ox] :: Box U 26 [i_ J.1.1,ox] :: G0):=S.tops 4 [2,3] rfl;have hr:=Option.some.inj F;replace S:Sat Y oM (Own R1_ [ox] oG :: Box b0 60 [u0,i_ ou.2.1,i_ ou.2.2] :: G0):=S.rems 4 [2,3] rfl;exact ⟨ox,(congrArg (fun (r:T3_ × Int × Int)=>Ending.returned (.agg #[i_ r.1.1,ox])) hr :),Eq.mp (congrArg (fun (r:T3_ × Int × Int)=>Sat Y oM (Own R1_ [ox] r.1.2 :: Box b0 60 [u0,i_ r.2.1,i_ r.2.2] :: G0)) hr :) S⟩
 refine cf oL ?_;refine sR fun _ pL=>?_;refine pe (.bool (ot.1 == 2)) (bB rfl rfl) (pa (.bool (ot.1 == 2)) (en pL ?_));rcases oif F with ⟨oN,F⟩|⟨oN,F⟩
 ·refine ct oN ?_;refine sR fun _ pb=>?_;refine pe (.pointer (some ⟨U,0 + 1,none⟩)) (ae rfl) (pe D (ac rfl ((S.boxAt 1 rfl) 1 _ rfl)) (pe (i_ (J.1.2.length:Int)) (ap rfl (S.rdAt (R:=R1_) 2 rfl)) (pe (.bool (decide (0 < (J.1.2.length:Int)))) (bD rfl rfl) (pm (.bool (decide (0 < (J.1.2.length:Int)))) ?_))));rcases oif F with ⟨oz,F⟩|⟨oz,F⟩
  ·refine ei oz (pe (.pointer (some ⟨U,0 + 0,none⟩)) (ae rfl) (ei oz (pe (i_ J.1.1) (ac rfl ((S.boxAt 1 rfl) 0 _ rfl)) (ei oz (pe (.bool (decide (0 < J.1.1))) (bD rfl rfl) (pe (.bool (decide (0 < J.1.1))) (aw rfl oz rfl) (en pb ?_)))))));rcases oif F with ⟨oO,F⟩|⟨oO,F⟩
   ·refine ct oO ?_;obtain ⟨oC,oY,F⟩:=ob F;replace S:Sat Y oU (Own R1_ [D] J.1.2 :: Box b0 60 [u0,i_ ot.2.1,i_ ot.2.2] :: Box U 26 [i_ J.1.1,D] :: Box Z 26 [i_ 0,n_] :: G0):=S.top 2 rfl;obtain ⟨oB,pT,p8,pq,oD,S⟩:=S.takeOutC (m:=1) oY rfl;obtain ⟨ov,rfl⟩:=ar oD;replace S:Sat Y oU (Own R0_ [ov] oC :: dT R0_ 29 D J.1.2 (0:Int).toNat [ov] oB 1 :: Box b0 60 [u0,i_ ot.2.1,i_ ot.2.2] :: Box U 26 [i_ J.1.1,D] :: Box Z 26 [i_ 0,n_] :: G0):=S;obtain ⟨C,hCd⟩:∃ C:World → Prop,∀ w,C w ↔ ∃ G,Sat Y w ([Box U 26 [i_ J.1.1,D],dT R0_ 29 D J.1.2 (0:Int).toNat [ov] oB 1] ++ G):=⟨_,fun _=>Iff.rfl⟩;refine bR [0,1,2,3,4,5,6,7] C (by kernel_rfl) ?_;intro pN oZ;replace S:=S.ext oZ;have oD:=bi oD oZ;replace S:Sat Y pN (Box U 26 [i_ J.1.1,D] :: dT R0_ 29 D J.1.2 (0:Int).toNat [ov] oB 1 :: Own R0_ [ov] oC :: Box b0 60 [u0,i_ ot.2.1,i_ ot.2.2] :: Box Z 26 [i_ 0,n_] :: G0):=S.tops 5 [3,1] rfl;have hC:=(hCd _).2 ⟨_,S⟩;refine aP (.pointer (some ⟨U,0 + 1,none⟩)) 0 rfl rfl hC (ay rfl (fun w' hw'=>by obtain ⟨_,S⟩:=(hCd _).1 hw'; exact (ae rfl))) ?_;refine aP D 1 rfl rfl hC (ay rfl (fun w' hw'=>by obtain ⟨_,S⟩:=(hCd _).1 hw'; exact (ac rfl ((S.boxAt 0 rfl) 1 _ rfl)))) ?_;refine aP (.pointer (some ⟨oB,(0:Int).toNat * 1,none⟩)) 2 rfl rfl hC (ay rfl (fun w' hw'=>by obtain ⟨_,S⟩:=(hCd _).1 hw'; exact (lJ (v:=D) rfl pq rfl oY))) ?_;refine aP ov 3 rfl rfl hC (ay rfl (fun w' hw'=>by obtain ⟨_,S⟩:=(hCd _).1 hw'; exact (ac rfl ((S.holeCells 1 rfl) 0 _ rfl)))) ?_;refine aP (.pointer (some ⟨b0,0,none⟩)) 4 rfl rfl hC (ay rfl (fun w' hw'=>by obtain ⟨_,S⟩:=(hCd _).1 hw'; exact (aF rfl))) ?_;refine aO 5 rfl ?_;refine fZ (R:=cK) (xs:=([(-1),100,99]:List Int)) [i_ (-1),i_ 100,i_ 99] rfl rfl rfl rfl (by rfl) (jI ([(-1),100,99]:List Int)) S (dt rfl) ?_;intro pc pd S pr;have oD:=bi oD pr;refine ag ?_;replace S:Sat Y pc (Box U 26 [i_ J.1.1,D] :: dT R0_ 29 D J.1.2 (0:Int).toNat [ov] oB 1 :: Own R0_ [pd] ([(-1),100,99]:List Int) :: Own R0_ [ov] oC :: Box b0 60 [u0,i_ ot.2.1,i_ ot.2.2] :: Box Z 26 [i_ 0,n_] :: G0):=S.tops 6 [1,2] rfl;have hC:=(hCd _).2 ⟨_,S⟩;refine ⟨fun _=>hC,?_⟩;refine aO 6 rfl ?_;replace S:Sat Y pc (Box b0 60 [u0,i_ ot.2.1,i_ ot.2.2] :: Own R0_ [pd] ([(-1),100,99]:List Int) :: Box U 26 [i_ J.1.1,D] :: dT R0_ 29 D J.1.2 (0:Int).toNat [ov] oB 1 :: Own R0_ [ov] oC :: Box Z 26 [i_ 0,n_] :: G0):=S.tops 6 [4,2] rfl;obtain ⟨oy,pt,F⟩:=ob F;refine aR lF (eZ ha0 S pt) (ca (ak rfl (ak rfl rfl))) (dt rfl) ?_;rintro _ oW ⟨rfl,S⟩;refine ⟨_,rfl,?_⟩;replace S:Sat Y oW (Box b0 60 [u0,i_ oy.2.1,i_ oy.2.2] :: Box U 26 [i_ J.1.1,D] :: dT R0_ 29 D J.1.2 (0:Int).toNat [ov] oB 1 :: Own R0_ [ov] oC :: Box Z 26 [i_ 0,n_] :: G0):=S;refine ag ?_;replace S:Sat Y oW (Box U 26 [i_ J.1.1,D] :: dT R0_ 29 D J.1.2 (0:Int).toNat [ov] oB 1 :: Box b0 60 [u0,i_ oy.2.1,i_ oy.2.2] :: Own R0_ [ov] oC :: Box Z 26 [i_ 0,n_] :: G0):=S.tops 5 [1,2] rfl;have hC:=(hCd _).2 ⟨_,S⟩;refine ⟨fun _=>hC,?_⟩;refine aO 7 rfl ?_;obtain ⟨p9,o0,F⟩:=ob F;obtain ⟨pO,pU,o3⟩:=cR 3 S rfl o0;refine pe (.pointer (some ⟨pO,(0:Int).toNat * 1,none⟩)) (cv (v:=ov) rfl o3 rfl o0) (ag ?_);refine ⟨fun _=>hC,?_⟩;refine aO 8 rfl ?_;obtain ⟨pf,pu,F⟩:=ob F;replace S:Sat Y oW (Own R0_ [ov] oC :: Box U 26 [i_ J.1.1,D] :: dT R0_ 29 D J.1.2 (0:Int).toNat [ov] oB 1 :: Box b0 60 [u0,i_ oy.2.1,i_ oy.2.2] :: Box Z 26 [i_ 0,n_] :: G0):=S.top 3 rfl;replace S:=S.int oy.1;refine eO rfl o3 S pu rfl rfl ?_;intro oX S;replace S:Sat Y oX (dT R0_ 29 D J.1.2 (0:Int).toNat [ov] oB 1 :: Own R0_ [ov] pf :: Box U 26 [i_ J.1.1,D] :: Box b0 60 [u0,i_ oy.2.1,i_ oy.2.2] :: Box Z 26 [i_ 0,n_] :: G0):=S.top 2 rfl;replace S:Sat Y oX (Own R0_ [ov] pf :: dT R0_ 29 D J.1.2 (0:Int).toNat [ov] oB 1 :: Box U 26 [i_ J.1.1,D] :: Box b0 60 [u0,i_ oy.2.1,i_ oy.2.2] :: Box Z 26 [i_ 0,n_] :: G0):=S.top 1 rfl;obtain ⟨oP,pv,F⟩:=ob F;replace S:=S.putBackC pv;replace S:Sat Y oX (Own R1_ [D] oP :: Box U 26 [i_ J.1.1,D] :: Box b0 60 [u0,i_ oy.2.1,i_ oy.2.2] :: Box Z 26 [i_ 0,n_] :: G0):=S;refine ag ?_;refine ⟨fun h=>(nomatch (show false=true from h)),?_⟩;refine cl (by kernel_rfl) ?_;refine bn oF (tn oE ?_);refine sR fun _ pP=>?_;refine pe (.agg #[i_ J.1.1,D]) (aB (cs:=[i_ J.1.1,D]) rfl rfl (aH (S.boxAt 1 rfl))) ?_;refine aA (S.top 3 rfl) rfl [i_ J.1.1,D] rfl rfl (dt rfl) (all_cons rfl (all_cons (oc (S.rdAt (R:=R1_) 0 rfl)) rfl)) ?_;intro oQ S;replace S:Sat Y oQ (Box Z 26 [i_ J.1.1,D] :: Own R1_ [D] oP :: Box U 26 [i_ J.1.1,D] :: Box b0 60 [u0,i_ oy.2.1,i_ oy.2.2] :: G0):=S;refine en pP (ai ?_);refine gb (cs:=[i_ J.1.1,D]) rfl rfl rfl (aH (S.boxAt 0 rfl))  ?_;replace S:Sat Y oQ (Own R1_ [D] oP :: Box b0 60 [u0,i_ oy.2.1,i_ oy.2.2] :: Box Z 26 [i_ J.1.1,D] :: Box U 26 [i_ J.1.1,D] :: G0):=S.tops 4 [1,3] rfl;have hr:=Option.some.inj F;replace S:Sat Y oQ (Own R1_ [D] oP :: Box b0 60 [u0,i_ oy.2.1,i_ oy.2.2] :: G0):=S.rems 4 [2,3] rfl;exact ⟨D,(congrArg (fun (r:T3_ × Int × Int)=>Ending.returned (.agg #[i_ r.1.1,D])) hr :),Eq.mp (congrArg (fun (r:T3_ × Int × Int)=>Sat Y oQ (Own R1_ [D] r.1.2 :: Box b0 60 [u0,i_ r.2.1,i_ r.2.2] :: G0)) hr :) S⟩
   refine cf oO (aZ (bn oF (tn oE ?_)));refine sR fun _ pQ=>?_;refine pe (.agg #[i_ J.1.1,D]) (aB (cs:=[i_ J.1.1,D]) rfl rfl (aH (S.boxAt 1 rfl))) ?_;refine aA (S.top 3 rfl) rfl [i_ J.1.1,D] rfl rfl (dt rfl) (all_cons rfl (all_cons (oc (S.rdAt (R:=R1_) 2 rfl)) rfl)) ?_;intro oR S;replace S:Sat Y oR (Box Z 26 [i_ J.1.1,D] :: Box b0 60 [u0,i_ ot.2.1,i_ ot.2.2] :: Box U 26 [i_ J.1.1,D] :: Own R1_ [D] J.1.2 :: G0):=S;refine en pQ (ai ?_);refine gb (cs:=[i_ J.1.1,D]) rfl rfl rfl (aH (S.boxAt 0 rfl))  ?_;replace S:Sat Y oR (Own R1_ [D] J.1.2 :: Box b0 60 [u0,i_ ot.2.1,i_ ot.2.2] :: Box Z 26 [i_ J.1.1,D] :: Box U 26 [i_ J.1.1,D] :: G0):=S.tops 4 [3,1] rfl;have hr:=Option.some.inj F;replace S:Sat Y oR (Own R1_ [D] J.1.2 :: Box b0 60 [u0,i_ ot.2.1,i_ ot.2.2] :: G0):=S.rems 4 [2,3] rfl;exact ⟨D,(congrArg (fun (r:T3_ × Int × Int)=>Ending.returned (.agg #[i_ r.1.1,D])) hr :),Eq.mp (congrArg (fun (r:T3_ × Int × Int)=>Sat Y oR (Own R1_ [D] r.1.2 :: Box b0 60 [u0,i_ r.2.1,i_ r.2.2] :: G0)) hr :) S⟩
  refine eo oz (eo oz (eo oz (pe (.bool false) (az rfl oz rfl) (en pb (cf rfl (aZ (bn oF (tn oE ?_))))))));refine sR fun _ pR=>?_;refine pe (.agg #[i_ J.1.1,D]) (aB (cs:=[i_ J.1.1,D]) rfl rfl (aH (S.boxAt 1 rfl))) ?_;refine aA (S.top 3 rfl) rfl [i_ J.1.1,D] rfl rfl (dt rfl) (all_cons rfl (all_cons (oc (S.rdAt (R:=R1_) 2 rfl)) rfl)) ?_;intro oS S;replace S:Sat Y oS (Box Z 26 [i_ J.1.1,D] :: Box b0 60 [u0,i_ ot.2.1,i_ ot.2.2] :: Box U 26 [i_ J.1.1,D] :: Own R1_ [D] J.1.2 :: G0):=S;refine en pR (ai ?_);refine gb (cs:=[i_ J.1.1,D]) rfl rfl rfl (aH (S.boxAt 0 rfl))  ?_;replace S:Sat Y oS (Own R1_ [D] J.1.2 :: Box b0 60 [u0,i_ ot.2.1,i_ ot.2.2] :: Box Z 26 [i_ J.1.1,D] :: Box U 26 [i_ J.1.1,D] :: G0):=S.tops 4 [3,1] rfl;have hr:=Option.some.inj F;replace S:Sat Y oS (Own R1_ [D] J.1.2 :: Box b0 60 [u0,i_ ot.2.1,i_ ot.2.2] :: G0):=S.rems 4 [2,3] rfl;exact ⟨D,(congrArg (fun (r:T3_ × Int × Int)=>Ending.returned (.agg #[i_ r.1.1,D])) hr :),Eq.mp (congrArg (fun (r:T3_ × Int × Int)=>Sat Y oS (Own R1_ [D] r.1.2 :: Box b0 60 [u0,i_ r.2.1,i_ r.2.2] :: G0)) hr :) S⟩
 refine cf oN (aZ (bn oF (tn oE ?_)));refine sR fun _ pS=>?_;refine pe (.agg #[i_ J.1.1,D]) (aB (cs:=[i_ J.1.1,D]) rfl rfl (aH (S.boxAt 1 rfl))) ?_;refine aA (S.top 3 rfl) rfl [i_ J.1.1,D] rfl rfl (dt rfl) (all_cons rfl (all_cons (oc (S.rdAt (R:=R1_) 2 rfl)) rfl)) ?_;intro oT S;replace S:Sat Y oT (Box Z 26 [i_ J.1.1,D] :: Box b0 60 [u0,i_ ot.2.1,i_ ot.2.2] :: Box U 26 [i_ J.1.1,D] :: Own R1_ [D] J.1.2 :: G0):=S;refine en pS (ai ?_);refine gb (cs:=[i_ J.1.1,D]) rfl rfl rfl (aH (S.boxAt 0 rfl))  ?_;replace S:Sat Y oT (Own R1_ [D] J.1.2 :: Box b0 60 [u0,i_ ot.2.1,i_ ot.2.2] :: Box Z 26 [i_ J.1.1,D] :: Box U 26 [i_ J.1.1,D] :: G0):=S.tops 4 [3,1] rfl;have hr:=Option.some.inj F;replace S:Sat Y oT (Own R1_ [D] J.1.2 :: Box b0 60 [u0,i_ ot.2.1,i_ ot.2.2] :: G0):=S.rems 4 [2,3] rfl;exact ⟨D,(congrArg (fun (r:T3_ × Int × Int)=>Ending.returned (.agg #[i_ r.1.1,D])) hr :),Eq.mp (congrArg (fun (r:T3_ × Int × Int)=>Sat Y oT (Own R1_ [D] r.1.2 :: Box b0 60 [u0,i_ r.2.1,i_ r.2.2] :: G0)) hr :) S⟩
theorem iE {w0:World} {J:World} {G0:List Asn} {b0:Nat} {u0:Value} {a0:List Int} {a1:Int} {a2:Int} {a3:Int} (ha0:(aj u8R 5).rd J [u0] a0) (S:Sat J w0 (Box b0 60 [u0,i_ a1,i_ a2] :: G0)) {N:Nat} {r:Bool × Int × Int} (F:eG N a0 a1 a2 a3=some r): Calls Try.prog 15 #[.pointer (some ⟨b0,0,none⟩),i_ a3] w0 fun e w'=>e=.returned (.bool r.1)∧Sat J w' (Box b0 60 [u0,i_ r.2.1,i_ r.2.2] :: G0) := by
 unfold eG at F;refine aI Try.func15 rfl rfl (dt rfl) ?_;refine sR fun _ Z=>?_;refine pa (.bool false) (en Z ?_);refine sR fun _ ot=>?_;refine pm (.pointer (some ⟨b0,0,none⟩)) (pm (i_ a3) ?_);obtain ⟨D,Y,F⟩:=ob F;refine aR fU (cN ha0 S Y) (ca (ak rfl (ak rfl rfl))) (dt rfl) ?_;rintro _ U ⟨rfl,S⟩;refine ⟨_,rfl,?_⟩;replace S:Sat J U (Box b0 60 [u0,i_ D.2.1,i_ D.2.2] :: G0):=S;refine pe (.bool (D.1 == 0)) (bB rfl rfl) (pa (.bool (D.1 == 0)) (en ot (ai (aC rfl rfl ?_))));have hr:=Option.some.inj F;exact ⟨(congrArg (fun (r:Bool × Int × Int)=>Ending.returned (.bool r.1)) hr :),Eq.mp (congrArg (fun (r:Bool × Int × Int)=>Sat J U (Box b0 60 [u0,i_ r.2.1,i_ r.2.2] :: G0)) hr :) S⟩
theorem eU {w0:World} {u0:Value} {a0:List Int} (ha0:(aj u8R 5).rd w0 [u0] a0) {N:Nat} {r:T3_ × Int × List T0_} (F:bW N a0=some r): Calls Try.prog 5 #[u0] w0 fun e w'=>∃ (q0:Value) (q1:Value),e=.returned (.tuple #[.agg #[i_ r.1.1,q0],.agg #[i_ r.2.1,q1]])∧Sat w0 w' [Own R1_ [q0] r.1.2,Own R1_ [q1] r.2.2] := by
 unfold bW at F;refine aI Try.func5 rfl rfl (dt rfl) ?_;have S:=Sat.start w0;refine sR fun _ oQ=>?_;refine be S (dt rfl) ?_;intro o5 Z S oY;refine be S (dt rfl) ?_;intro o6 ot S oZ;refine en oQ ?_;refine sR fun _ oR=>?_;refine pm u0 ?_;obtain ⟨o7,oJ,F⟩:=ob F;refine aR m8 (i7 (S.up ha0) oJ) (ca (ak rfl rfl)) (dt rfl) ?_;rintro _ o8 ⟨ou,rfl,S'⟩;refine ⟨_,rfl,?_⟩;have o0:=S'.below;replace S:=S.call1 S';refine pa (.pointer (some ⟨ou,0,none⟩)) (en oR ?_);refine sR fun _ oS=>?_;refine pm (.pointer (some ⟨ou,0,none⟩)) ?_;obtain ⟨D,oK,F⟩:=ob F;refine aR kY (gm ha0 S oK) (ca (ak rfl rfl)) (dt rfl) ?_;rintro _ oT ⟨J,rfl,S⟩;refine ⟨_,rfl,?_⟩;replace S:Sat w0 oT [Own R1_ [J] D.1.2,Box ou 60 [u0,i_ D.2.1,i_ D.2.2],Box ot 26 [i_ 0,n_],Box Z 26 [i_ 0,n_]]:=S;refine be S (dt rfl) ?_;intro o9 Y S o3;refine aA (S.top 0 rfl) rfl [i_ D.1.1,J] rfl rfl (dt rfl) (all_cons rfl (all_cons (oc (S.rdAt (R:=R1_) 1 rfl)) rfl)) ?_;intro oC S;replace S:Sat w0 oC [Box Y 26 [i_ D.1.1,J],Own R1_ [J] D.1.2,Box ou 60 [u0,i_ D.2.1,i_ D.2.2],Box ot 26 [i_ 0,n_],Box Z 26 [i_ 0,n_]]:=S;refine en oS ?_;refine sg fun _ oD=>?_;refine sR fun _ oU=>?_;refine pm (.pointer (some ⟨ou,0,none⟩)) ?_;replace S:Sat w0 oC [Box ou 60 [u0,i_ D.2.1,i_ D.2.2],Box Y 26 [i_ D.1.1,J],Own R1_ [J] D.1.2,Box ot 26 [i_ 0,n_],Box Z 26 [i_ 0,n_]]:=S.tops 5 [2] rfl;obtain ⟨oy,oL,F⟩:=ob F;refine aR nc (iE ha0 S oL) (ca (ak rfl (ak rfl rfl))) (dt rfl) ?_;rintro _ oE ⟨rfl,S⟩;refine ⟨_,rfl,?_⟩;replace S:Sat w0 oE [Box ou 60 [u0,i_ oy.2.1,i_ oy.2.2],Box Y 26 [i_ D.1.1,J],Own R1_ [J] D.1.2,Box ot 26 [i_ 0,n_],Box Z 26 [i_ 0,n_]]:=S;refine en oU ?_;rcases oif F with ⟨oz,F⟩|⟨oz,F⟩
 ·refine ct oz ?_;refine sg fun _ oV=>?_;obtain ⟨C,hCd⟩:∃ C:World → Prop,∀ w,C w ↔ ∃ G,Sat w0 w ([Box Y 26 [i_ D.1.1,J],Own R1_ [J] D.1.2] ++ G):=⟨_,fun _=>Iff.rfl⟩;refine bR [0,1,2,3,4] C (by kernel_rfl) ?_;intro oF oM;replace S:=S.ext oM;replace S:Sat w0 oF [Box Y 26 [i_ D.1.1,J],Own R1_ [J] D.1.2,Box ou 60 [u0,i_ oy.2.1,i_ oy.2.2],Box ot 26 [i_ 0,n_],Box Z 26 [i_ 0,n_]]:=S.tops 5 [1,2] rfl;have hC:=(hCd _).2 ⟨_,S⟩;refine aP (.agg #[i_ D.1.1,J]) 0 rfl rfl hC (ay rfl (fun w' hw'=>by obtain ⟨_,S⟩:=(hCd _).1 hw'; exact (aB (cs:=[i_ D.1.1,J]) rfl rfl (aH (S.boxAt 0 rfl))))) ?_;refine aO 1 rfl ?_;refine pm (.pointer (some ⟨ou,0,none⟩)) (ag ?_);refine ⟨fun _=>hC,?_⟩;refine aO 2 rfl ?_;replace S:Sat w0 oF [Box ou 60 [u0,i_ oy.2.1,i_ oy.2.2],Box Y 26 [i_ D.1.1,J],Own R1_ [J] D.1.2,Box ot 26 [i_ 0,n_],Box Z 26 [i_ 0,n_]]:=S.tops 5 [2] rfl;obtain ⟨U,oN,F⟩:=ob F;refine aR kY (gm ha0 S oN) (ca (ak rfl rfl)) (dt rfl) ?_;rintro _ oG ⟨ov,rfl,S⟩;refine ⟨_,rfl,?_⟩;replace S:Sat w0 oG [Own R1_ [ov] U.1.2,Box ou 60 [u0,i_ U.2.1,i_ U.2.2],Box Y 26 [i_ D.1.1,J],Own R1_ [J] D.1.2,Box ot 26 [i_ 0,n_],Box Z 26 [i_ 0,n_]]:=S;refine ag ?_;replace S:Sat w0 oG [Box Y 26 [i_ D.1.1,J],Own R1_ [J] D.1.2,Own R1_ [ov] U.1.2,Box ou 60 [u0,i_ U.2.1,i_ U.2.2],Box ot 26 [i_ 0,n_],Box Z 26 [i_ 0,n_]]:=S.tops 6 [2,3] rfl;have hC:=(hCd _).2 ⟨_,S⟩;refine ⟨fun _=>hC,?_⟩;refine aO 3 rfl ?_;refine aA (S.top 5 rfl) rfl [i_ D.1.1,J] rfl rfl (dt rfl) (all_cons rfl (all_cons (oc (S.rdAt (R:=R1_) 1 rfl)) rfl)) ?_;intro oH S;replace S:Sat w0 oH [Box Z 26 [i_ D.1.1,J],Box Y 26 [i_ D.1.1,J],Own R1_ [J] D.1.2,Own R1_ [ov] U.1.2,Box ou 60 [u0,i_ U.2.1,i_ U.2.2],Box ot 26 [i_ 0,n_]]:=S;refine ag ?_;replace S:Sat w0 oH [Box Y 26 [i_ D.1.1,J],Own R1_ [J] D.1.2,Box Z 26 [i_ D.1.1,J],Own R1_ [ov] U.1.2,Box ou 60 [u0,i_ U.2.1,i_ U.2.2],Box ot 26 [i_ 0,n_]]:=S.tops 6 [1,2] rfl;have hC:=(hCd _).2 ⟨_,S⟩;refine ⟨fun _=>hC,?_⟩;refine aO 4 rfl ?_;refine aA (S.top 5 rfl) rfl [i_ U.1.1,ov] rfl rfl (dt rfl) (all_cons rfl (all_cons (oc (S.rdAt (R:=R1_) 3 rfl)) rfl)) ?_;intro oA S;replace S:Sat w0 oA [Box ot 26 [i_ U.1.1,ov],Box Y 26 [i_ D.1.1,J],Own R1_ [J] D.1.2,Box Z 26 [i_ D.1.1,J],Own R1_ [ov] U.1.2,Box ou 60 [u0,i_ U.2.1,i_ U.2.2]]:=S;refine ag ?_;replace S:Sat w0 oA [Box Y 26 [i_ D.1.1,J],Own R1_ [J] D.1.2,Box ot 26 [i_ U.1.1,ov],Box Z 26 [i_ D.1.1,J],Own R1_ [ov] U.1.2,Box ou 60 [u0,i_ U.2.1,i_ U.2.2]]:=S.tops 6 [1,2] rfl;have hC:=(hCd _).2 ⟨_,S⟩;refine ⟨fun _=>hC,?_⟩;refine cl (by kernel_rfl) ?_;refine tn oV (ai (tr oD ?_));refine mA (cs0:=[i_ D.1.1,J]) (cs1:=[i_ U.1.1,ov]) rfl rfl rfl (aH (S.boxAt 3 rfl)) rfl rfl (aH (S.boxAt 2 rfl)) ?_;replace S:Sat w0 oA [Own R1_ [J] D.1.2,Own R1_ [ov] U.1.2,Box Y 26 [i_ D.1.1,J],Box ot 26 [i_ U.1.1,ov],Box Z 26 [i_ D.1.1,J],Box ou 60 [u0,i_ U.2.1,i_ U.2.2]]:=S.tops 6 [1,4] rfl;have hr:=Option.some.inj F;exact ⟨J,ov,congrArg (fun (r:T3_ × Int × List T0_)=>Ending.returned (.tuple #[.agg #[i_ r.1.1,J],.agg #[i_ r.2.1,ov]])) hr,Eq.mp (congrArg (fun (r:T3_ × Int × List T0_)=>Sat w0 oA [Own R1_ [J] r.1.2,Own R1_ [ov] r.2.2]) hr) (S.keep 2)⟩
 refine cf oz (sn oD ?_);refine sg fun _ oW=>?_;replace S:Sat w0 oE [Box Y 26 [i_ D.1.1,J],Own R1_ [J] D.1.2,Box ot 26 [i_ 0,n_],Box Z 26 [i_ 0,n_]]:=S.rems 5 [0] rfl;obtain ⟨C,hCd⟩:∃ C:World → Prop,∀ w,C w ↔ ∃ G,Sat w0 w ([Box Y 26 [i_ D.1.1,J],Own R1_ [J] D.1.2] ++ G):=⟨_,fun _=>Iff.rfl⟩;refine bR [0,1,2,3,4] C (by kernel_rfl) ?_;intro pb oO;replace S:=S.ext oO;have hC:=(hCd _).2 ⟨_,S⟩;refine aP (.agg #[i_ D.1.1,J]) 0 rfl rfl hC (ay rfl (fun w' hw'=>by obtain ⟨_,S⟩:=(hCd _).1 hw'; exact (aB (cs:=[i_ D.1.1,J]) rfl rfl (aH (S.boxAt 0 rfl))))) ?_;refine aO 1 rfl ?_;refine pe (.agg #[i_ D.1.1,J]) (aB (cs:=[i_ D.1.1,J]) rfl rfl (aH (S.boxAt 0 rfl))) (ag ?_);refine ⟨fun _=>hC,?_⟩;refine aO 2 rfl ?_;obtain ⟨ox,oP,F⟩:=ob F;refine ec1 lh (fV (S.rdAt (R:=R1_) 1 rfl) oP) (ca (ak rfl rfl)) S fun oX ow o4 S=>?_;refine ag ?_;replace S:Sat w0 oX [Box Y 26 [i_ D.1.1,J],Own R1_ [J] D.1.2,Own R1_ [ow] ox.2,Box ot 26 [i_ 0,n_],Box Z 26 [i_ 0,n_]]:=S.tops 5 [1,2] rfl;have hC:=(hCd _).2 ⟨_,S⟩;refine ⟨fun _=>hC,?_⟩;refine aO 3 rfl ?_;refine aA (S.top 4 rfl) rfl [i_ D.1.1,J] rfl rfl (dt rfl) (all_cons rfl (all_cons (oc (S.rdAt (R:=R1_) 1 rfl)) rfl)) ?_;intro oI S;replace S:Sat w0 oI [Box Z 26 [i_ D.1.1,J],Box Y 26 [i_ D.1.1,J],Own R1_ [J] D.1.2,Own R1_ [ow] ox.2,Box ot 26 [i_ 0,n_]]:=S;refine ag ?_;replace S:Sat w0 oI [Box Y 26 [i_ D.1.1,J],Own R1_ [J] D.1.2,Box Z 26 [i_ D.1.1,J],Own R1_ [ow] ox.2,Box ot 26 [i_ 0,n_]]:=S.tops 5 [1,2] rfl;have hC:=(hCd _).2 ⟨_,S⟩;refine ⟨fun _=>hC,?_⟩;refine aO 4 rfl ?_;refine aA (S.top 4 rfl) rfl [i_ ox.1,ow] rfl rfl (dt rfl) (all_cons rfl (all_cons (oc (S.rdAt (R:=R1_) 3 rfl)) rfl)) ?_;intro oB S;replace S:Sat w0 oB [Box ot 26 [i_ ox.1,ow],Box Y 26 [i_ D.1.1,J],Own R1_ [J] D.1.2,Box Z 26 [i_ D.1.1,J],Own R1_ [ow] ox.2]:=S;refine ag ?_;replace S:Sat w0 oB [Box Y 26 [i_ D.1.1,J],Own R1_ [J] D.1.2,Box ot 26 [i_ ox.1,ow],Box Z 26 [i_ D.1.1,J],Own R1_ [ow] ox.2]:=S.tops 5 [1,2] rfl;have hC:=(hCd _).2 ⟨_,S⟩;refine ⟨fun _=>hC,?_⟩;refine cl (by kernel_rfl) ?_;refine tn oW (ai ?_);refine mA (cs0:=[i_ D.1.1,J]) (cs1:=[i_ ox.1,ow]) rfl rfl rfl (aH (S.boxAt 3 rfl)) rfl rfl (aH (S.boxAt 2 rfl)) ?_;replace S:Sat w0 oB [Own R1_ [J] D.1.2,Own R1_ [ow] ox.2,Box Y 26 [i_ D.1.1,J],Box ot 26 [i_ ox.1,ow],Box Z 26 [i_ D.1.1,J]]:=S.tops 5 [1,4] rfl;have hr:=Option.some.inj F;exact ⟨J,ow,congrArg (fun (r:T3_ × Int × List T0_)=>Ending.returned (.tuple #[.agg #[i_ r.1.1,J],.agg #[i_ r.2.1,ow]])) hr,Eq.mp (congrArg (fun (r:T3_ × Int × List T0_)=>Sat w0 oB [Own R1_ [J] r.1.2,Own R1_ [ow] r.2.2]) hr) (S.keep 2)⟩
theorem dq {w0:World} {a0:Int} {a1:Int} {a2:Int}  {N:Nat} {r:Bool} (F:cF N a0 a1 a2=some r): Calls Try.prog 28 #[i_ a0,i_ a1,i_ a2] w0 fun e w'=>e=.returned (.bool r)∧Ext w0 w' := by
 unfold cF at F;refine aI Try.func28 rfl rfl (dt rfl) ?_;have S:=Sat.start w0;refine sR fun _ U=>?_;refine pa (.bool false) (en U ?_);refine sR fun _ J=>?_;refine pm (i_ a0) (pm (i_ a1) (pe (.bool (decide (a1 ≤ a0))) (fW rfl rfl) (pm (.bool (decide (a1 ≤ a0))) ?_)));rcases oif F with ⟨D,F⟩|⟨D,F⟩
 ·refine ei D (pm (i_ a0) (ei D (pm (i_ a2) (ei D (pe (.bool (decide (a0 ≤ a2))) (gB rfl rfl) (pe (.bool (decide (a0 ≤ a2))) (aw rfl D rfl) (pa (.bool (decide (a0 ≤ a2))) (en J (ai (aC rfl rfl ?_))))))))));exact rB F S
 refine eo D (eo D (eo D (pe (.bool false) (az rfl D rfl) (pa (.bool false) (en J (ai (aC rfl rfl ?_)))))));exact rB F S
theorem d5 {w0:World} {u0:Value} {a0:List Int} (ha0:R0_.rd w0 [u0] a0) {N:Nat} {r:Bool} (F:b7 N a0=some r): Calls Try.prog 39 #[u0] w0 fun e w'=>e=.returned (.bool r)∧Ext w0 w' := by
 unfold b7 at F;refine aI Try.func39 rfl rfl (dt rfl) ?_;have S:=Sat.start w0;refine sR fun _ oI=>?_;refine pa (.bool false) (en oI ?_);refine sg fun _ oy=>?_;refine sR fun _ oJ=>?_;refine pm u0 (pe (i_ (a0.length:Int)) (ap rfl ha0) (pm (i_ 0) (en oJ ?_)));refine bg fun _ oz=>?_;obtain ⟨oK,hL,ov⟩:=ob F;refine aV (fun k e w=>∃ (D:Int),e 5=u0∧e 6=i_ (a0.length:Int)∧e 7=i_ D∧Sat w0 w []∧bp N k a0 (a0.length:Int) D=some oK) N ?_ ?_ ?_
 ·exact ⟨0,rfl,rfl,rfl,S,hL⟩
 ·rintro e w ⟨_,_,_,_,_,hz⟩; exact nomatch (show none=some _ from hz)
 rintro k oT oU ⟨D,ow,ox,J,S,F⟩;refine gn fun _ Z=>?_;refine sR fun _ oL=>?_;refine pe (.bool (decide (D < (a0.length:Int)))) (a8 J ox) (en oL ?_);refine sg fun _ oA=>?_;rcases oif F with ⟨U,F⟩|⟨U,F⟩
 ·refine ct U (sn oA ?_);refine sg fun _ oB=>?_;refine bg fun _ oC=>?_;refine sR fun _ oM=>?_;obtain ⟨ot,oD,F⟩:=ob F;refine aD (wA:=w0) ow ha0 rfl (dt rfl) J oD (dt rfl) ?_;intro oV oR oW oE oF;obtain rfl:=oE;refine pe (i_ ot) (ac rfl ((ah S.below oF) 0 _ rfl)) (pa (i_ ot) (en oM ?_));refine sR fun _ oN=>?_;refine pm (i_ ot) ?_;obtain ⟨oO,oG,F⟩:=ob F;refine ec0 gG (dq oG) (ca (ak rfl (ak rfl (ak rfl rfl)))) S fun oX oS S=>?_;refine pe (.bool (!oO)) (bP rfl) (en oN ?_);rcases oif F with ⟨Y,F⟩|⟨Y,F⟩
  ·refine cf (av Y) (aZ (bn oC (tn oB (am ?_))));obtain ⟨ou,oH,F⟩:=ob F;refine pe (i_ ou) (aS J rfl oH) (pm (i_ ou) (en Z ?_));replace S:=S.keep 0;exact ⟨ou,ow,ox,rfl,S,F⟩
  refine ct (ax Y) ?_;refine sR fun _ oP=>?_;refine pa (.bool false) (en oP (ai (br oC (tr oB (tr Z (br oz (tr oy ?_)))))));replace F:=exL F ov;refine aC rfl rfl ?_;exact rB F S
 refine cf U (aT (tx oA (tx Z ?_)));replace F:=exA F ov;refine bS oz (tn oy ?_);refine sR fun _ oQ=>?_;refine pa (.bool true) (en oQ (ai (aC rfl rfl ?_)));exact rB F S
theorem dC {w0:World} {a0:Int} {a1:Int}  {N:Nat} {r:Int} (F:cj N a0 a1=some r): Calls Try.prog 47 #[i_ a0,i_ a1] w0 fun e w'=>e=.returned (i_ r)∧Ext w0 w' := by
 unfold cj at F;refine aI Try.func47 rfl rfl (dt rfl) ?_;have S:=Sat.start w0;refine sR fun _ Z=>?_;refine pa (i_ 0) (en Z ?_);refine sg fun _ U=>?_;refine bg fun _ Y=>?_;refine sR fun _ ot=>?_;refine pm (i_ a0) (pm (i_ a1) (pe (.bool (decide (a0 < a1))) (a8 rfl rfl) (pa (.bool (decide (a0 < a1))) (en ot ?_))));rcases oif F with ⟨D,F⟩|⟨D,F⟩
 ·refine ct D ?_;refine sR fun _ ou=>?_;refine pa (i_ (-1)) (en ou (ai (br Y (tr U (aC rfl rfl ?_)))));exact rI F S
 refine cf D ?_;refine sR fun _ ov=>?_;refine pm (i_ a0) (pm (i_ a1) (pe (.bool (decide (a1 < a0))) (bD rfl rfl) (pa (.bool (decide (a1 < a0))) (en ov ?_))));rcases oif F with ⟨J,F⟩|⟨J,F⟩
 ·refine ct J ?_;refine sR fun _ ow=>?_;refine pa (i_ 1) (en ow (ai (br Y (tr U (aC rfl rfl ?_)))));exact rI F S
 refine cf J (aZ (bn Y (tn U ?_)));refine sR fun _ ox=>?_;refine pa (i_ 0) (en ox (ai (aC rfl rfl ?_)));exact rI F S
theorem gq {w0:World} {u0:Value} {a0:List Int} {u1:Value} {a1:List Int} (ha0:R0_.rd w0 [u0] a0) (ha1:R0_.rd w0 [u1] a1) {N:Nat} {r:Int} (F:cV N a0 a1=some r): Calls Try.prog 43 #[u0,u1] w0 fun e w'=>e=.returned (i_ r)∧Ext w0 w' := by
 unfold cV at F;refine aI Try.func43 rfl rfl (dt rfl) ?_;have S:=Sat.start w0;refine sR fun _ oZ=>?_;refine pa (i_ 0) (en oZ ?_);refine sg fun _ ox=>?_;refine sR fun _ o0=>?_;refine pa (i_ 0) (en o0 ?_);refine bg fun _ oy=>?_;obtain ⟨o3,hL,ot⟩:=ob F;refine aV (fun k e w=>∃ (D:Int),e 0=u0∧e 1=u1∧e 5=i_ D∧Sat w0 w []∧cz N k a0 a1 D=some o3) N ?_ ?_ ?_
 ·exact ⟨0,rfl,rfl,rfl,S,hL⟩
 ·rintro e w ⟨_,_,_,_,_,hz⟩; exact nomatch (show none=some _ from hz)
 rintro k pk pn ⟨D,Y,Z,U,S,F⟩;refine gn fun _ ou=>?_;refine sg fun _ oz=>?_;refine sR fun _ oB=>?_;refine pM (i_ D) U (pM u0 Y (pe (i_ (a0.length:Int)) (ap rfl ha0) (pe (.bool (decide (D < (a0.length:Int)))) (a8 rfl rfl) (pm (.bool (decide (D < (a0.length:Int)))) ?_))));rcases oif F with ⟨J,F⟩|⟨J,F⟩
 ·refine ei J (pM (i_ D) U (ei J (pM u1 Z (ei J (pe (i_ (a1.length:Int)) (ap rfl ha1) (ei J (pe (.bool (decide (D < (a1.length:Int)))) (a8 rfl rfl) (pe (.bool (decide (D < (a1.length:Int)))) (aw rfl J rfl) (en oB ?_)))))))));rcases oif F with ⟨ov,F⟩|⟨ov,F⟩
  ·refine ct ov (sn oz ?_);refine sg fun _ oC=>?_;refine bg fun _ oD=>?_;refine sg fun _ o4=>?_;refine bA (by kernel_rfl) (by kernel_rfl) ?_;refine qM u0 Y (qM (i_ D) U ?_);obtain ⟨oE,oH,F⟩:=ob F;refine aJ (wA:=w0) rfl ha0 rfl (dt rfl) rfl oH (dt rfl) ?_;intro po pd pp oI oJ;obtain rfl:=oI;refine qe (i_ oE) (ac rfl ((ah S.below oJ) 0 _ rfl)) (qM u1 Z (qM (i_ D) U ?_));obtain ⟨oF,oK,F⟩:=ob F;refine aJ (wA:=w0) rfl ha1 rfl (dt rfl) rfl oK (dt rfl) ?_;intro pq pf pr oL oM;obtain rfl:=oL;refine qe (i_ oF) (ac rfl ((ah S.below oM) 0 _ rfl)) (qe (.bool (oE != oF)) (bO rfl rfl) (bf ?_));intro pt oN;replace S:=S.ext oN;refine tn o4 ?_;rcases oif F with ⟨ow,F⟩|⟨ow,F⟩
   ·refine ct ow ?_;refine sg fun _ o5=>?_;refine bA (by kernel_rfl) (by kernel_rfl) ?_;refine qM u0 Y (qM (i_ D) U ?_);obtain ⟨o6,oO,F⟩:=ob F;refine aJ (wA:=w0) rfl ha0 rfl (dt rfl) rfl oO (dt rfl) ?_;intro pu pg pv oP oQ;obtain rfl:=oP;refine qe (i_ o6) (ac rfl ((ah S.below oQ) 0 _ rfl)) (qM u1 Z (qM (i_ D) U ?_));obtain ⟨o7,oR,F⟩:=ob F;refine aJ (wA:=w0) rfl ha1 rfl (dt rfl) rfl oR (dt rfl) ?_;intro pw ph px oS oT;obtain rfl:=oS;refine qe (i_ o7) (ac rfl ((ah S.below oT) 0 _ rfl)) ?_;obtain ⟨oG,oU,F⟩:=ob F;refine b6 (i_ oG) jl (fun w' hw'=>dC oU) (ca (ak rfl (ak rfl rfl))) (dt rfl) ?_;refine qe (i_ oG) (cm rfl) (bf ?_);intro py oV;replace S:=S.ext oV;refine tn o5 (ai (br oD (tr oC (tr ou (br oy (tr ox ?_))))));replace F:=exL F ot;refine aC rfl rfl ?_;exact rI F S
   refine cf ow (aZ (bn oD (tn oC (am (pM (i_ D) U ?_)))));obtain ⟨oA,oW,F⟩:=ob F;refine pe (i_ oA) (aS rfl rfl oW) (pa (i_ oA) (en ou ?_));replace S:=S.keep 0;exact ⟨oA,Y,Z,rfl,S,F⟩
  refine cf ov (aT (tx oz (tx ou ?_)));replace F:=exA F ot;refine bS oy (tn ox ?_);refine sR fun _ o8=>?_;refine pM u0 Y (pe (i_ (a0.length:Int)) (ap rfl ha0) (pM u1 Z (pe (i_ (a1.length:Int)) (ap rfl ha1) ?_)));obtain ⟨o9,oX,F⟩:=ob F;refine ec0 jl (dC oX) (ca (ak rfl (ak rfl rfl))) S fun pz pi S=>?_;refine pa (i_ o9) (en o8 (ai (aC rfl rfl ?_)));exact rI F S
 refine eo J (eo J (eo J (eo J (pe (.bool false) (az rfl J rfl) (en oB (cf rfl (aT (tx oz (tx ou ?_)))))))));replace F:=exA F ot;refine bS oy (tn ox ?_);refine sR fun _ pb=>?_;refine pM u0 Y (pe (i_ (a0.length:Int)) (ap rfl ha0) (pM u1 Z (pe (i_ (a1.length:Int)) (ap rfl ha1) ?_)));obtain ⟨pc,oY,F⟩:=ob F;refine ec0 jl (dC oY) (ca (ak rfl (ak rfl rfl))) S fun pA pj S=>?_;refine pa (i_ pc) (en pb (ai (aC rfl rfl ?_)));exact rI F S
theorem gZ {w0:World} {a0:Int} {u1:Value} {a1:List T0_} (ha1:R1_.rd w0 [u1] a1) {N:Nat} {r:Bool} (F:dp N a0 a1=some r): Calls Try.prog 34 #[i_ a0,u1] w0 fun e w'=>e=.returned (.bool r)∧Ext w0 w' := by
 unfold dp at F;refine aI Try.func34 rfl rfl (dt rfl) ?_;have S:=Sat.start w0;refine sR fun _ o6=>?_;refine pa (.bool false) (en o6 ?_);refine sg fun _ oK=>?_;refine sR fun _ oR=>?_;refine pm (i_ a0) ?_;obtain ⟨oS,oU,F⟩:=ob F;refine ec0 gG (dq oU) (ca (ak rfl (ak rfl (ak rfl rfl)))) S fun pt pn S=>?_;refine pe (.bool (!oS)) (bP rfl) (pm (.bool (!oS)) ?_);rcases oif F with ⟨U,F⟩|⟨U,F⟩
 ·refine ei (av U) (pm u1 (ei (av U) (pe (i_ (a1.length:Int)) (ap rfl ha1) (ei (av U) (pe (.bool (decide (4000 < (a1.length:Int)))) (bD rfl rfl) (pe (.bool (decide (4000 < (a1.length:Int)))) (az rfl (av U) rfl) (en oR ?_)))))));rcases oif F with ⟨oA,F⟩|⟨oA,F⟩
  ·refine ct oA ?_;refine sR fun _ o7=>?_;refine pa (.bool false) (en o7 (ai (tr oK (aC rfl rfl ?_))));exact rB F S
  refine cf oA (sn oK ?_);refine sg fun _ oB=>?_;refine sR fun _ o8=>?_;refine pm u1 (pe (i_ (a1.length:Int)) (ap rfl ha1) (pm (i_ 0) (en o8 ?_)));refine bg fun _ oC=>?_;obtain ⟨o9,hL,ov⟩:=ob F;refine aV (fun k e w=>∃ (Z:Int),e 0=i_ a0∧e 1=u1∧e 15=u1∧e 16=i_ (a1.length:Int)∧e 17=i_ Z∧Sat w0 w []∧bx N k a0 a1 a1 (a1.length:Int) Z=some o9) N ?_ ?_ ?_
  ·exact ⟨0,rfl,rfl,rfl,rfl,rfl,S,hL⟩
  ·rintro e w ⟨_,_,_,_,_,_,_,hz⟩; exact nomatch (show none=some _ from hz)
  rintro k pu pv ⟨Z,oD,oE,oF,oG,ot,S,F⟩;refine gn fun _ ou=>?_;refine sR fun _ pb=>?_;refine pe (.bool (decide (Z < (a1.length:Int)))) (a8 ot oG) (en pb ?_);refine sg fun _ oT=>?_;rcases oif F with ⟨oH,F⟩|⟨oH,F⟩
  ·refine ct oH (sn oT ?_);refine sg fun _ ox=>?_;refine bg fun _ oy=>?_;refine sR fun _ pc=>?_;refine pM (i_ Z) ot ?_;obtain ⟨oL,oV,F⟩:=ob F;refine aD (wA:=w0) oF ha1 rfl (dt rfl) ot oV (dt rfl) ?_;intro pw po px ow oW;obtain ⟨oz,rfl⟩:=ar ow;refine pe oz (ac rfl ((ah S.below oW) 0 _ rfl)) (pa (i_ Z) (pa oz (en pc ?_)));refine sR fun _ oI=>?_;refine pm oz (pe (i_ (oL.length:Int)) (ap rfl ow) (pM (i_ a0) oD (pe (.bool ((oL.length:Int) != a0)) (bO rfl rfl) (pm (.bool ((oL.length:Int) != a0)) ?_))));rcases oif F with ⟨Y,F⟩|⟨Y,F⟩
   ·refine eo Y (eo Y (eo Y (pe (.bool true) (aw rfl Y rfl) (pm (.bool true) (eo rfl (eo rfl (eo rfl ?_)))))));refine cu rfl (dt rfl) ?_;refine cu rfl (dt rfl) ?_;refine cu rfl (dt rfl) ?_;refine cu rfl (dt rfl) ?_;refine cu rfl (dt rfl) ?_;refine cu rfl (dt rfl) ?_;refine cu rfl (dt rfl) ?_;refine cu rfl (dt rfl) ?_;refine eo rfl (pe (.bool true) (aw rfl rfl rfl) (en oI (ct rfl ?_)));refine sR fun _ pd=>?_;refine pa (.bool false) (en pd (ai (br oy (tr ox (tr ou (br oC (tr oB ?_)))))));replace F:=exL F ov;refine aC rfl rfl ?_;exact rB F S
   refine ei Y (pm oz (ei Y ?_));obtain ⟨oM,oX,F⟩:=ob F;refine ec0 lI (d5 (S.up ow) oX) (ca (ak rfl rfl)) S fun py pp S=>?_;refine ei Y (pe (.bool (!oM)) (bP rfl) (pe (.bool (!oM)) (az rfl Y rfl) (pm (.bool (!oM)) ?_)));rcases oif F with ⟨J,F⟩|⟨J,F⟩
   ·refine ei (av J) (pm (i_ Z) (ei (av J) (pe (.bool (decide (0 < Z))) (bD rfl rfl) (ei (av J) (pm (.bool (decide (0 < Z))) ?_)))));rcases oif F with ⟨D,F⟩|⟨D,F⟩
    ·refine ei D (pM u1 oE (ei D (pm (i_ Z) (ei D ?_))));obtain ⟨pf,oY,F⟩:=ob F;refine pe (i_ pf) (cd rfl rfl oY) (ei D ?_);obtain ⟨pz,oZ,F⟩:=ob F;refine aD (wA:=w0) rfl ha1 rfl (dt rfl) rfl oZ (dt rfl) ?_;intro pA pq pB oQ o0;obtain ⟨pg,rfl⟩:=ar oQ;refine ei D (pe pg (ac rfl ((ah S.below o0) 0 _ rfl)) (ei D (pm oz (ei D ?_))));obtain ⟨oN,o3,F⟩:=ob F;refine ec0 np (gq (S.up oQ) (S.up ow) o3) (ca (ak rfl (ak rfl rfl))) S fun pC pr S=>?_;refine ei D (pe (.bool (decide (0 ≤ oN))) (fW rfl rfl) (ei (av J) (pe (.bool (decide (0 ≤ oN))) (aw rfl D rfl) (pe (.bool (decide (0 ≤ oN))) (az rfl (av J) rfl) (en oI ?_)))));rcases oif F with ⟨oJ,F⟩|⟨oJ,F⟩
     ·refine ct oJ ?_;refine sR fun _ ph=>?_;refine pa (.bool false) (en ph (ai (br oy (tr ox (tr ou (br oC (tr oB ?_)))))));replace F:=exL F ov;refine aC rfl rfl ?_;exact rB F S
     refine cf oJ (aZ (bn oy (tn ox (am ?_))));obtain ⟨oO,o4,F⟩:=ob F;refine pe (i_ oO) (aS ot rfl o4) (pm (i_ oO) (en ou ?_));replace S:=S.keep 0;exact ⟨oO,oD,oE,oF,oG,rfl,S,F⟩
    refine eo D (eo D (eo D (eo D (eo D (eo D (eo D (eo D (ei (av J) (pe (.bool false) (az rfl D rfl) (pe (.bool false) (az rfl (av J) rfl) (en oI (cf rfl (aZ (bn oy (tn ox (am ?_))))))))))))))));obtain ⟨oP,o5,F⟩:=ob F;refine pe (i_ oP) (aS ot rfl o5) (pm (i_ oP) (en ou ?_));replace S:=S.keep 0;exact ⟨oP,oD,oE,oF,oG,rfl,S,F⟩
   refine eo (ax J) (eo (ax J) (eo (ax J) ?_));refine cu rfl (dt rfl) ?_;refine cu rfl (dt rfl) ?_;refine cu rfl (dt rfl) ?_;refine cu rfl (dt rfl) ?_;refine cu rfl (dt rfl) ?_;refine cu rfl (dt rfl) ?_;refine cu rfl (dt rfl) ?_;refine cu rfl (dt rfl) ?_;refine eo (ax J) (pe (.bool true) (aw rfl (ax J) rfl) (en oI (ct rfl ?_)));refine sR fun _ pi=>?_;refine pa (.bool false) (en pi (ai (br oy (tr ox (tr ou (br oC (tr oB ?_)))))));replace F:=exL F ov;refine aC rfl rfl ?_;exact rB F S
  refine cf oH (aT (tx oT (tx ou ?_)));replace F:=exA F ov;refine bS oC (tn oB ?_);refine sR fun _ pj=>?_;refine pa (.bool true) (en pj (ai (aC rfl rfl ?_)));exact rB F S
 refine eo (ax U) (eo (ax U) (eo (ax U) (pe (.bool true) (aw rfl (ax U) rfl) (en oR (ct rfl ?_)))));refine sR fun _ pk=>?_;refine pa (.bool false) (en pk (ai (tr oK (aC rfl rfl ?_))));exact rB F S
theorem fq {w0:World} {a0:Int} {u1:Value} {a1:List T0_} (ha1:R1_.rd w0 [u1] a1) {N:Nat} {r:Bool} (F:cr N a0 a1=some r): Calls Try.prog 17 #[.agg #[i_ a0,u1]] w0 fun e w'=>e=.returned (.bool r)∧Ext w0 w' := by
 unfold cr at F;refine aI Try.func17 rfl rfl (dt rfl) ?_;have S:=Sat.start w0;refine sR fun _ U=>?_;refine bY [i_ a0,u1] rfl S (dt rfl) ?_;intro ov D S ot;refine pa (.bool false) (en U ?_);refine sR fun _ Y=>?_;refine pe (.pointer (some ⟨D,0 + 0,none⟩)) (ae rfl) (pe (i_ a0) (ac rfl ((S.boxAt 0 rfl) 0 _ rfl)) (pe (.pointer (some ⟨D,0 + 1,none⟩)) (ae rfl) (pe u1 (ac rfl ((S.boxAt 0 rfl) 1 _ rfl)) ?_)));obtain ⟨Z,J,F⟩:=ob F;refine ec0 ni (gZ (S.up ha1) J) (ca (ak rfl (ak rfl rfl))) S fun ow ou S=>?_;refine pa (.bool Z) (en Y (ai (aC rfl rfl ?_)));exact rB F S
theorem dx {w0:World} {u0:Value} {a0:List Int} {u1:Value} {a1:List Int} (ha0:R0_.rd w0 [u0] a0) (ha1:R0_.rd w0 [u1] a1) {N:Nat} {r:Bool} (F:cw N a0 a1=some r): Calls Try.prog 25 #[u0,u1] w0 fun e w'=>e=.returned (.bool r)∧Ext w0 w' := by
 unfold cw at F;refine aI Try.func25 rfl rfl (dt rfl) ?_;have S:=Sat.start w0;refine sR fun _ oP=>?_;refine pa (.bool false) (en oP ?_);refine sg fun _ oz=>?_;refine sR fun _ oQ=>?_;refine pm u0 (pe (i_ (a0.length:Int)) (ap rfl ha0) (pm u1 (pe (i_ (a1.length:Int)) (ap rfl ha1) (pe (.bool ((a0.length:Int) != (a1.length:Int))) (bO rfl rfl) (en oQ ?_)))));rcases oif F with ⟨J,F⟩|⟨J,F⟩
 ·refine ct J ?_;refine sR fun _ oR=>?_;refine pa (.bool false) (en oR (ai (tr oz (aC rfl rfl ?_))));exact rB F S
 refine cf J (sn oz ?_);refine sg fun _ oA=>?_;refine sR fun _ oS=>?_;refine pm u0 (pe (i_ (a0.length:Int)) (ap rfl ha0) (pm (i_ 0) (en oS ?_)));refine bg fun _ oB=>?_;obtain ⟨oT,hL,ov⟩:=ob F;refine aV (fun k e w=>∃ (D:Int),e 0=u0∧e 1=u1∧e 12=i_ (a0.length:Int)∧e 13=i_ D∧Sat w0 w []∧bM N k a0 a1 (a0.length:Int) D=some oT) N ?_ ?_ ?_
 ·exact ⟨0,rfl,rfl,rfl,rfl,S,hL⟩
 ·rintro e w ⟨_,_,_,_,_,_,hz⟩; exact nomatch (show none=some _ from hz)
 rintro k o3 o4 ⟨D,ow,ox,oy,U,S,F⟩;refine gn fun _ ot=>?_;refine sR fun _ oU=>?_;refine pe (.bool (decide (D < (a0.length:Int)))) (a8 U oy) (en oU ?_);refine sg fun _ oC=>?_;rcases oif F with ⟨Y,F⟩|⟨Y,F⟩
 ·refine ct Y (sn oC ?_);refine sg fun _ oD=>?_;refine bg fun _ oE=>?_;refine sR fun _ oV=>?_;refine pM (i_ D) U (pa (i_ D) (en oV ?_));refine sg fun _ oW=>?_;refine bA (by kernel_rfl) (by kernel_rfl) ?_;refine qM u0 ow (qm (i_ D) ?_);obtain ⟨oF,oH,F⟩:=ob F;refine aJ (wA:=w0) rfl ha0 rfl (dt rfl) rfl oH (dt rfl) ?_;intro o5 oZ o6 oI oJ;obtain rfl:=oI;refine qe (i_ oF) (ac rfl ((ah S.below oJ) 0 _ rfl)) (qM u1 ox (qm (i_ D) ?_));obtain ⟨oG,oK,F⟩:=ob F;refine aJ (wA:=w0) rfl ha1 rfl (dt rfl) rfl oK (dt rfl) ?_;intro o7 o0 o8 oL oM;obtain rfl:=oL;refine qe (i_ oG) (ac rfl ((ah S.below oM) 0 _ rfl)) (qe (.bool (oF != oG)) (bO rfl rfl) (bf ?_));intro o9 oN;replace S:=S.ext oN;refine tn oW ?_;rcases oif F with ⟨Z,F⟩|⟨Z,F⟩
  ·refine ct Z ?_;refine sR fun _ oX=>?_;refine pa (.bool false) (en oX (ai (br oE (tr oD (tr ot (br oB (tr oA ?_)))))));replace F:=exL F ov;refine aC rfl rfl ?_;exact rB F S
  refine cf Z (aZ (bn oE (tn oD (am ?_))));obtain ⟨ou,oO,F⟩:=ob F;refine pe (i_ ou) (aS U rfl oO) (pm (i_ ou) (en ot ?_));replace S:=S.keep 0;exact ⟨ou,ow,ox,oy,rfl,S,F⟩
 refine cf Y (aT (tx oC (tx ot ?_)));replace F:=exA F ov;refine bS oB (tn oA ?_);refine sR fun _ oY=>?_;refine pa (.bool true) (en oY (ai (aC rfl rfl ?_)));exact rB F S

end Go.Proofs.Ytcpkiphiaebkmaa
namespace Go.Proofs.Ytcpkiphiaebkmaa
open Go.RowKit
set_option maxRecDepth 100000
set_option maxHeartbeats 4000000
theorem eh {w0:World} {u0:Value} {a0:List Int} {u1:Value} {a1:List Int} {u2:Value} {a2:List Int} {u3:Value} {a3:List Int} (ha0:R0_.rd w0 [u0] a0) (ha1:R0_.rd w0 [u1] a1) (ha2:R0_.rd w0 [u2] a2) (ha3:R0_.rd w0 [u3] a3) {N:Nat} {r:Bool} (F:cQ N a0 a1 a2 a3=some r): Calls Try.prog 26 #[.agg #[u0,u1],.agg #[u2,u3]] w0 fun e w'=>e=.returned (.bool r)∧Ext w0 w' := by
 unfold cQ at F;refine aI Try.func26 rfl rfl (dt rfl) ?_;have S:=Sat.start w0;refine sR fun _ ov=>?_;refine bY [u0,u1] rfl S (dt rfl) ?_;intro oB J S ox;refine bY [u2,u3] rfl S (dt rfl) ?_;intro oC U S oy;refine pa (.bool false) (en ov ?_);refine sR fun _ Y=>?_;refine pe (.pointer (some ⟨J,0 + 0,none⟩)) (ae rfl) (pe u0 (ac rfl ((S.boxAt 1 rfl) 0 _ rfl)) (pe (.pointer (some ⟨U,0 + 0,none⟩)) (ae rfl) (pe u2 (ac rfl ((S.boxAt 0 rfl) 0 _ rfl)) ?_)));obtain ⟨ow,ot,F⟩:=ob F;refine ec0 ir (dx (S.up ha0) (S.up ha2) ot) (ca (ak rfl (ak rfl rfl))) S fun oD oz S=>?_;refine pm (.bool ow) ?_;rcases oif F with ⟨D,F⟩|⟨D,F⟩
 ·refine ei D (pe (.pointer (some ⟨J,0 + 1,none⟩)) (ae rfl) (ei D (pe u1 (ac rfl ((S.boxAt 1 rfl) 1 _ rfl)) (ei D (pe (.pointer (some ⟨U,0 + 1,none⟩)) (ae rfl) (ei D (pe u3 (ac rfl ((S.boxAt 0 rfl) 1 _ rfl)) (ei D ?_))))))));obtain ⟨Z,ou,F⟩:=ob F;refine ec0 ir (dx (S.up ha1) (S.up ha3) ou) (ca (ak rfl (ak rfl rfl))) S fun oE oA S=>?_;refine pe (.bool Z) (aw rfl D rfl) (pa (.bool Z) (en Y (ai (aC rfl rfl ?_))));exact rB F S
 refine eo D (eo D (eo D (eo D (eo D (pe (.bool false) (az rfl D rfl) (pa (.bool false) (en Y (ai (aC rfl rfl ?_)))))))));exact rB F S
theorem eu {w0:World} {D:World} {G0:List Asn} {b0:Nat} {u0:Value} {a0:List T2_} {u1:Value} {a1:List Int} {u2:Value} {a2:List Int} (S:Sat D w0 (Box b0 68 [u0] :: Own R3_ [u0] a0 :: Own R0_ [u1] a1 :: Own R0_ [u2] a2 :: G0)) {N:Nat} {r:Int × T4_} (F:ck N a0 a1 a2=some r): Calls Try.prog 44 #[.pointer (some ⟨b0,0,none⟩),.agg #[u1,u2]] w0 fun e w'=>∃ (q0:Value),e=.returned (i_ r.1)∧Sat D w' (Box b0 68 [q0] :: Own R3_ [q0] r.2 :: G0) := by
 unfold ck at F;refine aI Try.func44 rfl rfl (dt rfl) ?_;refine sR fun _ oZ=>?_;refine bY [u1,u2] rfl S (dt rfl) ?_;intro ph U S pd;refine pa (i_ 0) (en oZ ?_);refine sg fun _ oK=>?_;refine sR fun _ o0=>?_;refine pa (i_ 1) (en o0 ?_);refine bg fun _ oL=>?_;obtain ⟨o3,hL,oI⟩:=ob F;refine aV (fun k e w=>∃ (Y:Int),e 0=.pointer (some ⟨b0,0,none⟩)∧e 3=.pointer (some ⟨U,0,none⟩)∧e 5=i_ Y∧Sat D w (Box U 56 [u1,u2] :: Box b0 68 [u0] :: Own R3_ [u0] a0 :: Own R0_ [u1] a1 :: Own R0_ [u2] a2 :: G0)∧b5 N k a0 a1 a2 Y=some o3) N ?_ ?_ ?_
 ·exact ⟨1,rfl,rfl,rfl,S,hL⟩
 ·rintro e w ⟨_,_,_,_,_,hz⟩; exact nomatch (show none=some _ from hz)
 rintro k pi o4 ⟨Y,Z,oy,ou,S,F⟩;refine gn fun _ oE=>?_;refine sg fun _ oM=>?_;refine sR fun _ o5=>?_;refine pM (i_ Y) ou (pM (.pointer (some ⟨b0,0,none⟩)) Z (pe (.pointer (some ⟨b0,0,none⟩)) (bu rfl) (pe (.pointer (some ⟨b0,0 + 0,none⟩)) (ae rfl) (pe u0 (ac rfl ((S.boxAt 1 rfl) 0 _ rfl)) (pe (i_ (a0.length:Int)) (ap rfl (S.rdAt (R:=R3_) 2 rfl)) (pe (.bool (decide (Y < (a0.length:Int)))) (a8 rfl rfl) (en o5 ?_)))))));rcases oif F with ⟨oz,F⟩|⟨oz,F⟩
 ·refine ct oz (sn oM ?_);refine sg fun _ oN=>?_;refine bg fun _ oO=>?_;refine sg fun _ o6=>?_;refine bA (by kernel_rfl) (by kernel_rfl) ?_;refine qM (.pointer (some ⟨b0,0,none⟩)) Z (qe (.pointer (some ⟨b0,0,none⟩)) (bu rfl) (qe (.pointer (some ⟨b0,0 + 0,none⟩)) (ae rfl) (qe u0 (ac rfl ((S.boxAt 1 rfl) 0 _ rfl)) (qM (i_ Y) ou ?_))));obtain ⟨pj,oS,F⟩:=ob F;refine aJ (wA:=o4) rfl (S.rdAt (R:=R3_) 2 rfl) rfl (dt rfl) rfl oS (dt rfl) ?_;intro pk pf pn oT oA;obtain ⟨_,_,rfl,ov,ow⟩:=oT;obtain ⟨oP,rfl⟩:=ar ov;obtain ⟨oQ,rfl⟩:=ar ow;refine qe (.agg #[oP,oQ]) (aB (cs:=[oP,oQ]) rfl rfl oA) (qe (.agg #[u1,u2]) (aB (cs:=[u1,u2]) oy rfl (aH (S.boxAt 0 rfl))) ?_);obtain ⟨o7,oU,F⟩:=ob F;refine b6 (.bool o7) jt (fun w' hw'=>eh (bi ov hw') (bi ow hw') (bi (S.rdAt (R:=R0_) 3 rfl) hw') (bi (S.rdAt (R:=R0_) 4 rfl) hw') oU) (ca (ak rfl (ak rfl rfl))) (dt rfl) ?_;refine bf ?_;intro oF ox;replace S:=S.ext ox;have oA:=ah ox oA;have ov:=bi ov ox;have ow:=bi ow ox;refine tn o6 ?_;rcases oif F with ⟨oB,F⟩|⟨oB,F⟩
  ·refine ct oB ?_;refine sg fun _ o8=>?_;replace S:Sat D oF (Box b0 68 [u0] :: Own R3_ [u0] a0 :: Own R0_ [u1] a1 :: Own R0_ [u2] a2 :: G0):=S.rems 5 [0] rfl;refine am (pM (i_ Y) ou (pa (i_ Y) (en o8 (ai (br oO (tr oN (tr oE (br oL (tr oK ?_)))))))));replace F:=exL F oI;refine aC rfl rfl ?_;have hr:=Option.some.inj F;replace S:Sat D oF (Box b0 68 [u0] :: Own R3_ [u0] a0 :: G0):=S.rems 4 [2,3] rfl;exact ⟨u0,(congrArg (fun (r:Int × T4_)=>Ending.returned (i_ r.1)) hr :),Eq.mp (congrArg (fun (r:Int × T4_)=>Sat D oF (Box b0 68 [u0] :: Own R3_ [u0] r.2 :: G0)) hr :) S⟩
  refine cf oB (aZ (bn oO (tn oN (am (pM (i_ Y) ou ?_)))));obtain ⟨oG,oV,F⟩:=ob F;refine pe (i_ oG) (aS rfl rfl oV) (pa (i_ oG) (en oE ?_));exact ⟨oG,Z,oy,rfl,S,F⟩
 refine cf oz (aT (tx oM (tx oE ?_)));replace F:=exA F oI;refine bS oL (tn oK ?_);refine sg fun _ o9=>?_;obtain ⟨C,hCd⟩:∃ C:World → Prop,∀ w,C w ↔ ∃ G,Sat D w ([Box U 56 [u1,u2],Box b0 68 [u0]] ++ G):=⟨_,fun _=>Iff.rfl⟩;refine bR [0,1,2,3,4,5,6,7,8,9] C (by kernel_rfl) ?_;intro po oW;replace S:=S.ext oW;have hC:=(hCd _).2 ⟨_,S⟩;refine aP (.pointer (some ⟨b0,0,none⟩)) 0 rfl rfl hC (ay rfl (fun w' hw'=>by obtain ⟨_,S⟩:=(hCd _).1 hw'; exact (aF Z))) ?_;refine aP (.pointer (some ⟨b0,0,none⟩)) 1 rfl rfl hC (ay rfl (fun w' hw'=>by obtain ⟨_,S⟩:=(hCd _).1 hw'; exact (aF Z))) ?_;refine aP (.pointer (some ⟨b0,0,none⟩)) 2 rfl rfl hC (ay rfl (fun w' hw'=>by obtain ⟨_,S⟩:=(hCd _).1 hw'; exact (bu rfl))) ?_;refine aP (.pointer (some ⟨b0,0 + 0,none⟩)) 3 rfl rfl hC (ay rfl (fun w' hw'=>by obtain ⟨_,S⟩:=(hCd _).1 hw'; exact (ae rfl))) ?_;refine aP u0 4 rfl rfl hC (ay rfl (fun w' hw'=>by obtain ⟨_,S⟩:=(hCd _).1 hw'; exact (ac rfl ((S.boxAt 1 rfl) 0 _ rfl)))) ?_;refine aO 5 rfl ?_;refine pe (.agg #[u1,u2]) (aB (cs:=[u1,u2]) oy rfl (aH (S.boxAt 0 rfl))) (ag ?_);refine ⟨fun _=>hC,?_⟩;refine aO 6 rfl ?_;refine au [u1,u2] rfl (by rfl) (dt rfl) rfl (dt rfl) S (dt rfl) ?_;intro oC ot S pg;refine ag ?_;replace S:Sat D oC (Box U 56 [u1,u2] :: Box b0 68 [u0] :: Box ot 56 [u1,u2] :: Own R3_ [u0] a0 :: Own R0_ [u1] a1 :: Own R0_ [u2] a2 :: G0):=S.tops 6 [1,2] rfl;have hC:=(hCd _).2 ⟨_,S⟩;refine ⟨fun _=>hC,?_⟩;refine aO 7 rfl ?_;obtain ⟨oD,oX,F⟩:=ob F;have oJ:=S.boxRow 2 rfl;replace S:Sat D oC (Own R3_ [u0] a0 :: Box U 56 [u1,u2] :: Box b0 68 [u0] :: Box ot 56 [u1,u2] :: Own R0_ [u1] a1 :: Own R0_ [u2] a2 :: G0):=S.top 3 rfl;replace S:Sat D oC (Own R0_ [u2] a2 :: Own R3_ [u0] a0 :: Box U 56 [u1,u2] :: Box b0 68 [u0] :: Box ot 56 [u1,u2] :: Own R0_ [u1] a1 :: G0):=S.top 5 rfl;replace S:Sat D oC (Own R0_ [u1] a1 :: _ :: Own R3_ [u0] a0 :: Box U 56 [u1,u2] :: Box b0 68 [u0] :: Box ot 56 [u1,u2] :: G0):=S.top 5 rfl;replace S:=S.pair;replace S:=S.one;refine aE rfl (dt rfl) rfl (dt rfl) S rfl rfl rfl (by simp) oJ oX (dt rfl) ?_;intro pb J S;refine ag ?_;replace S:Sat D pb (Box U 56 [u1,u2] :: Box b0 68 [u0] :: Own R3_ [J] oD :: Box ot 56 [u1,u2] :: G0):=S.tops 4 [1,2] rfl;have hC:=(hCd _).2 ⟨_,S⟩;refine ⟨fun _=>hC,?_⟩;refine aO 8 rfl ?_;refine pe (.pointer (some ⟨b0,0,none⟩)) (bu rfl) (ag ?_);refine ⟨fun _=>hC,?_⟩;refine aO 9 rfl ?_;refine pe (.pointer (some ⟨b0,0 + 0,none⟩)) (ae rfl) (ag ?_);refine ⟨fun _=>hC,?_⟩;refine aO 10 rfl ?_;refine aA (S.top 1 rfl) rfl [J] (aG rfl (oc (S.rdAt (R:=R3_) 2 rfl))) rfl (dt rfl) (all_cons (oc (S.rdAt (R:=R3_) 2 rfl)) rfl) ?_;intro oH S;replace S:Sat D oH (Box b0 68 [J] :: Box U 56 [u1,u2] :: Own R3_ [J] oD :: Box ot 56 [u1,u2] :: G0):=S;refine ag ?_;refine ⟨fun h=>(nomatch (show false=true from h)),?_⟩;refine cl (by kernel_rfl) ?_;refine tn o9 ?_;refine sg fun _ pc=>?_;replace S:Sat D oH (Box b0 68 [J] :: Own R3_ [J] oD :: G0):=S.rems 4 [1,3] rfl;refine am (pM (.pointer (some ⟨b0,0,none⟩)) Z (pe (.pointer (some ⟨b0,0,none⟩)) (bu rfl) (pe (.pointer (some ⟨b0,0 + 0,none⟩)) (ae rfl) (pe J (ac rfl ((S.boxAt 0 rfl) 0 _ rfl)) (pe (i_ (oD.length:Int)) (ap rfl (S.rdAt (R:=R3_) 1 rfl)) ?_)))));obtain ⟨oR,oY,F⟩:=ob F;refine pe (i_ oR) (cd rfl rfl oY) (pa (i_ oR) (en pc (ai (aC rfl rfl ?_))));have hr:=Option.some.inj F;exact ⟨J,(congrArg (fun (r:Int × T4_)=>Ending.returned (i_ r.1)) hr :),Eq.mp (congrArg (fun (r:Int × T4_)=>Sat D oH (Box b0 68 [J] :: Own R3_ [J] r.2 :: G0)) hr :) S⟩
theorem fG (N:Nat):∀ {w0:World} {D:World} {G0:List Asn} {b0:Nat} {u0:Value} {a0:List T2_} {u1:Value} {a1:List T0_} {a2:Int} (_:R1_.rd D [u1] a1) (_:Sat D w0 (Box b0 68 [u0] :: Own R3_ [u0] a0 :: G0)) {r:Int × T4_} (_:aL N a0 a1 a2=some r), Calls Try.prog 35 #[.pointer (some ⟨b0,0,none⟩),u1,i_ a2] w0 fun e w'=>∃ (q0:Value),e=.returned (i_ r.1)∧Sat D w' (Box b0 68 [q0] :: Own R3_ [q0] r.2 :: G0) := by
 induction N with
 | zero=>intros; exact nomatch (show none=some _ by assumption)
 | succ N ih=>
  intro w0 D G0 b0 u0 a0 u1 a1 a2 ha1 S r F;refine aI Try.func35 rfl rfl (dt rfl) ?_;refine sR fun _ sZ=>?_;refine pa (i_ 0) (en sZ ?_);refine sg fun _ pN=>?_;refine sR fun _ qN=>?_;refine pm u1 (pe (i_ (a1.length:Int)) (ap rfl ha1) (pe (.bool (decide (0 < (a1.length:Int)))) (bD rfl rfl) (pm (.bool (decide (0 < (a1.length:Int)))) ?_)));rcases oif F with ⟨oH,F⟩|⟨oH,F⟩
  ·refine ei oH (pm (i_ a2) (ei oH (pm u1 (ei oH ?_))));obtain ⟨pO,rk,F⟩:=ob F;refine aD (wA:=D) rfl ha1 rfl (dt rfl) rfl rk (dt rfl) ?_;intro uA t8 uB qj rl;obtain ⟨s0,rfl⟩:=ar qj;refine ei oH (pe s0 (ac rfl ((ah S.below rl) 0 _ rfl)) (ei oH (pe (i_ (pO.length:Int)) (ap rfl qj) (ei oH (pe (.bool (a2 == (pO.length:Int))) (bB rfl rfl) (pe (.bool (a2 == (pO.length:Int))) (aw rfl oH rfl) (en qN ?_)))))));rcases oif F with ⟨px,F⟩|⟨px,F⟩
   ·refine ct px ?_;refine sR fun _ s3=>?_;refine pa (i_ 0) (en s3 (ai (tr pN (aC rfl rfl ?_))));have hr:=Option.some.inj F;exact ⟨u0,(congrArg (fun (r:Int × T4_)=>Ending.returned (i_ r.1)) hr :),Eq.mp (congrArg (fun (r:Int × T4_)=>Sat D w0 (Box b0 68 [u0] :: Own R3_ [u0] r.2 :: G0)) hr :) S⟩
   refine cf px (sn pN ?_);refine sR fun _ s4=>?_;refine be S (dt rfl) ?_;intro uC Y S t9;refine en s4 ?_;refine sg fun _ s5=>?_;refine sR fun _ s6=>?_;refine pa (i_ 0) (en s6 ?_);refine bg fun _ s7=>?_;replace S:=S.nil cK 3;replace S:=S.nil cK 3;obtain ⟨s8,hL,rn⟩:=ob F;refine aV (fun k e w=>∃ (ov:Value),∃ (oF:List T2_),∃ (ox:Value),∃ (o4:List Int),∃ (J:Value),∃ (oy:List Int),∃ (oO:Int),e 0=.pointer (some ⟨b0,0,none⟩)∧e 1=u1∧e 2=i_ a2∧e 7=.pointer (some ⟨Y,0,none⟩)∧e 8=i_ oO∧Sat D w (Own R0_ [J] oy :: Own R0_ [ox] o4 :: Box Y 56 [ox,J] :: Box b0 68 [ov] :: Own R3_ [ov] oF :: G0)∧ba (aL N) N k oF a1 a2 o4 oy oO=some s8) N ?_ ?_ ?_
   ·exact ⟨u0,a0,n_,[],n_,[],0,rfl,rfl,rfl,rfl,rfl,S,hL⟩
   ·rintro e w ⟨_,_,_,_,_,_,_,_,_,_,_,_,_,hz⟩; exact nomatch (show none=some _ from hz)
   rintro k uD s9 ⟨ov,oF,ox,o4,J,oy,oO,qk,ql,ro,qn,py,S,F⟩;refine gn fun _ pP=>?_;refine sg fun _ qO=>?_;refine sR fun _ ta=>?_;refine pM (i_ oO) py (pM u1 ql (pe (i_ (a1.length:Int)) (ap rfl ha1) (pe (.bool (decide (oO < (a1.length:Int)))) (a8 rfl rfl) (en ta ?_))));rcases oif F with ⟨pz,F⟩|⟨pz,F⟩
   ·refine ct pz (sn qO ?_);refine bg fun _ qP=>?_;refine sR fun _ tb=>?_;refine pM (i_ oO) py (pa (i_ oO) (en tb ?_));refine sg fun _ qQ=>?_;refine bg fun _ qR=>?_;obtain ⟨tc,hL,qp⟩:=ob F;refine aV (fun k e w=>∃ (oM:Int),e 0=.pointer (some ⟨b0,0,none⟩)∧e 1=u1∧e 2=i_ a2∧e 7=.pointer (some ⟨Y,0,none⟩)∧e 8=i_ oO∧e 9=i_ oM∧Sat D w (Own R0_ [J] oy :: Own R0_ [ox] o4 :: Box Y 56 [ox,J] :: Box b0 68 [ov] :: Own R3_ [ov] oF :: G0)∧bz (aL N) N k oF a1 a2 o4 oy oO oM=some tc) N ?_ ?_ ?_
    ·exact ⟨oO,qk,ql,ro,qn,py,rfl,S,hL⟩
    ·rintro e w ⟨_,_,_,_,_,_,_,_,hz⟩; exact nomatch (show none=some _ from hz)
    rintro k uE uF ⟨oM,pq,o0,o6,oU,pg,o8,S,F⟩;refine gn fun _ pQ=>?_;refine sg fun _ pR=>?_;refine sg fun _ qS=>?_;refine bA (by kernel_rfl) (by kernel_rfl) ?_;refine qM (i_ oM) o8 (qM u1 o0 (qe (i_ (a1.length:Int)) (ap rfl ha1) (qe (.bool (decide (oM < (a1.length:Int)))) (a8 rfl rfl) (qm (.bool (decide (oM < (a1.length:Int)))) ?_))));rcases oif F with ⟨ot,F⟩|⟨ot,F⟩
    ·refine qi ot (qM u1 o0 (qi ot (qM (i_ oM) o8 (qi ot ?_))));obtain ⟨uG,rp,F⟩:=ob F;refine aJ (wA:=D) rfl ha1 rfl (dt rfl) rfl rp (dt rfl) ?_;intro uH ua uI qq rq;obtain ⟨td,rfl⟩:=ar qq;refine qi ot (qe td (ac rfl ((ah S.below rq) 0 _ rfl)) (qi ot (qM (i_ a2) o6 (qi ot ?_))));obtain ⟨pS,rr,F⟩:=ob F;refine aJ (wA:=D) rfl qq rfl (dt rfl) rfl rr (dt rfl) ?_;intro uJ ub uK rt ru;obtain rfl:=rt;refine qi ot (qe (i_ pS) (ac rfl ((ah S.below ru) 0 _ rfl)) (qi ot (qM u1 o0 (qi ot (qM (i_ oO) pg (qi ot ?_))))));obtain ⟨uL,rx,F⟩:=ob F;refine aJ (wA:=D) rfl ha1 rfl (dt rfl) rfl rx (dt rfl) ?_;intro uM uc uN qr ry;obtain ⟨te,rfl⟩:=ar qr;refine qi ot (qe te (ac rfl ((ah S.below ry) 0 _ rfl)) (qi ot (qM (i_ a2) o6 (qi ot ?_))));obtain ⟨pT,rz,F⟩:=ob F;refine aJ (wA:=D) rfl qr rfl (dt rfl) rfl rz (dt rfl) ?_;intro uO ud uP rA rC;obtain rfl:=rA;refine qi ot (qe (i_ pT) (ac rfl ((ah S.below rC) 0 _ rfl)) (qi ot (qe (.bool (pS == pT)) (bB rfl rfl) (qe (.bool (pS == pT)) (aw rfl ot rfl) (bf ?_)))));intro uQ rD;replace S:=S.ext rD;refine tn qS ?_;rcases oif F with ⟨pA,F⟩|⟨pA,F⟩
     ·refine ct pA (sn pR ?_);refine bg fun _ tf=>?_;refine am (pM (i_ oM) o8 ?_);obtain ⟨pU,rE,F⟩:=ob F;refine pe (i_ pU) (aS rfl rfl rE) (pa (i_ pU) (ag (bn tf (tn pQ ?_))));exact ⟨pU,pq,o0,o6,oU,pg,rfl,S,F⟩
     refine cf pA (aT (tx pR (tx pQ ?_)));replace F:=exB F qp;refine bS qR (tn qQ ?_);refine sg fun _ tg=>?_;obtain ⟨C,hCd⟩:∃ C:World → Prop,∀ w,C w ↔ ∃ G,Sat D w ([Box Y 56 [ox,J]] ++ G):=⟨_,fun _=>Iff.rfl⟩;refine bR [0,1,2,3,4,5,6,7,8,9,10,11] C (by kernel_rfl) ?_;intro th rF;replace S:=S.ext rF;replace S:Sat D th (Box Y 56 [ox,J] :: Own R0_ [J] oy :: Own R0_ [ox] o4 :: Box b0 68 [ov] :: Own R3_ [ov] oF :: G0):=S.tops 5 [2] rfl;have hC:=(hCd _).2 ⟨_,S⟩;refine aP (.pointer (some ⟨Y,0 + 0,none⟩)) 0 rfl rfl hC (ay rfl (fun w' hw'=>by obtain ⟨_,S⟩:=(hCd _).1 hw'; exact (ae oU))) ?_;refine aP ox 1 rfl rfl hC (ay rfl (fun w' hw'=>by obtain ⟨_,S⟩:=(hCd _).1 hw'; exact (ac rfl ((S.boxAt 0 rfl) 0 _ rfl)))) ?_;refine aP u1 2 rfl rfl hC (ay rfl (fun w' hw'=>by obtain ⟨_,S⟩:=(hCd _).1 hw'; exact (aF o0))) ?_;refine aP (i_ oO) 3 rfl rfl hC (ay rfl (fun w' hw'=>by obtain ⟨_,S⟩:=(hCd _).1 hw'; exact (aF pg))) ?_;obtain ⟨uR,rG,F⟩:=ob F;refine ez (wA:=D) (by kernel_rfl) 4 rfl hC (by kernel_rfl) (by kernel_rfl) rfl ha1 rfl (dt rfl) rfl rG (dt rfl) ?_;intro uS ue uT qu rH;obtain ⟨ti,rfl⟩:=ar qu;refine aP ti 5 rfl rfl hC (ay rfl (fun w' hw'=>by obtain ⟨_,S⟩:=(hCd _).1 hw'; exact (ac rfl ((ah S.below rH) 0 _ rfl)))) ?_;refine aO 6 rfl ?_;refine pM (i_ a2) o6 (ag ?_);refine ⟨fun _=>hC,?_⟩;refine aO 7 rfl ?_;obtain ⟨pi,rJ,F⟩:=ob F;refine aD (wA:=D) rfl qu rfl (dt rfl) rfl rJ (dt rfl) ?_;intro uU uf uV rK rL;obtain rfl:=rK;refine ag ?_;refine ⟨fun _=>hC,?_⟩;refine aO 8 rfl ?_;refine pe (i_ pi) (ac rfl ((ah S.below rL) 0 _ rfl)) (ag ?_);refine ⟨fun _=>hC,?_⟩;refine aO 9 rfl ?_;refine au [i_ pi] rfl (by rfl) (dt rfl) rfl (dt rfl) S (dt rfl) ?_;intro qT pB S ug;refine ag ?_;replace S:Sat D qT (Box Y 56 [ox,J] :: Box pB 3 [i_ pi] :: Own R0_ [J] oy :: Own R0_ [ox] o4 :: Box b0 68 [ov] :: Own R3_ [ov] oF :: G0):=S.tops 6 [1] rfl;have hC:=(hCd _).2 ⟨_,S⟩;refine ⟨fun _=>hC,?_⟩;refine aO 10 rfl ?_;obtain ⟨oW,rM,F⟩:=ob F;have qE:=S.boxRow 1 rfl;replace S:Sat D qT (Own R0_ [ox] o4 :: Box Y 56 [ox,J] :: Box pB 3 [i_ pi] :: Own R0_ [J] oy :: Box b0 68 [ov] :: Own R3_ [ov] oF :: G0):=S.top 3 rfl;replace S:=S.int pi;replace S:=S.one;refine aE rfl (dt rfl) rfl (dt rfl) S rfl rfl rfl (by simp) qE rM (dt rfl) ?_;intro tj oB S;refine ag ?_;replace S:Sat D tj (Box Y 56 [ox,J] :: Own R0_ [oB] oW :: Box pB 3 [i_ pi] :: Own R0_ [J] oy :: Box b0 68 [ov] :: Own R3_ [ov] oF :: G0):=S.tops 6 [1] rfl;have hC:=(hCd _).2 ⟨_,S⟩;refine ⟨fun _=>hC,?_⟩;refine aO 11 rfl ?_;refine pe (.pointer (some ⟨Y,0 + 0,none⟩)) (ae oU) (ag ?_);refine ⟨fun _=>hC,?_⟩;refine aO 12 rfl ?_;refine aA (S.top 0 rfl) rfl [oB] (aG rfl (oc (S.rdAt (R:=R0_) 1 rfl))) rfl (dt rfl) (all_cons (oc (S.rdAt (R:=R0_) 1 rfl)) rfl) ?_;intro qU S;replace S:Sat D qU (Box Y 56 [oB,J] :: Own R0_ [oB] oW :: Box pB 3 [i_ pi] :: Own R0_ [J] oy :: Box b0 68 [ov] :: Own R3_ [ov] oF :: G0):=S;refine ag ?_;refine ⟨fun h=>(nomatch (show false=true from h)),?_⟩;refine cl (by kernel_rfl) ?_;refine tn tg ?_;refine sg fun _ tk=>?_;replace S:Sat D qU (Box Y 56 [oB,J] :: Own R0_ [oB] oW :: Own R0_ [J] oy :: Box b0 68 [ov] :: Own R3_ [ov] oF :: G0):=S.rems 6 [2] rfl;obtain ⟨C,hCd⟩:∃ C:World → Prop,∀ w,C w ↔ ∃ G,Sat D w ([Box Y 56 [oB,J]] ++ G):=⟨_,fun _=>Iff.rfl⟩;refine bR [0,1,2,3,4,5,6,7,8,9,10,11,12] C (by kernel_rfl) ?_;intro tm rN;replace S:=S.ext rN;have hC:=(hCd _).2 ⟨_,S⟩;refine aP (.pointer (some ⟨Y,0 + 1,none⟩)) 0 rfl rfl hC (ay rfl (fun w' hw'=>by obtain ⟨_,S⟩:=(hCd _).1 hw'; exact (ae oU))) ?_;refine aP J 1 rfl rfl hC (ay rfl (fun w' hw'=>by obtain ⟨_,S⟩:=(hCd _).1 hw'; exact (ac rfl ((S.boxAt 0 rfl) 1 _ rfl)))) ?_;refine aP (.pointer (some ⟨b0,0,none⟩)) 2 rfl rfl hC (ay rfl (fun w' hw'=>by obtain ⟨_,S⟩:=(hCd _).1 hw'; exact (aF pq))) ?_;refine aP u1 3 rfl rfl hC (ay rfl (fun w' hw'=>by obtain ⟨_,S⟩:=(hCd _).1 hw'; exact (aF o0))) ?_;refine aP (i_ oO) 4 rfl rfl hC (ay rfl (fun w' hw'=>by obtain ⟨_,S⟩:=(hCd _).1 hw'; exact (aF pg))) ?_;refine aP (i_ oM) 5 rfl rfl hC (ay rfl (fun w' hw'=>by obtain ⟨_,S⟩:=(hCd _).1 hw'; exact (aF o8))) ?_;obtain ⟨uW,rO,F⟩:=ob F;refine gi (wA:=D) (by kernel_rfl) 6 rfl hC (by kernel_rfl) (by kernel_rfl) rfl rfl ha1 (.inl (congrArg some rfl)) (.inl (congrArg some rfl)) rO (dt rfl) ?_;intro uX rP;refine aO 7 rfl ?_;refine pM (i_ a2) o6 (ag ?_);refine ⟨fun _=>hC,?_⟩;refine aO 8 rfl ?_;obtain ⟨tp,rQ,F⟩:=ob F;refine pe (i_ tp) (aS rfl rfl rQ) (ag ?_);refine ⟨fun _=>hC,?_⟩;refine aO 9 rfl ?_;replace S:Sat D tm (Box b0 68 [ov] :: Own R3_ [ov] oF :: Box Y 56 [oB,J] :: Own R0_ [oB] oW :: Own R0_ [J] oy :: G0):=S.tops 5 [3,4] rfl;obtain ⟨oP,rR,F⟩:=ob F;refine aR gu (ih rP S rR) (ca (ak rfl (ak rfl (ak rfl rfl)))) (dt rfl) ?_;rintro _ qV ⟨oI,rfl,S⟩;refine ⟨_,rfl,?_⟩;replace S:Sat D qV (Box b0 68 [oI] :: Own R3_ [oI] oP.2 :: Box Y 56 [oB,J] :: Own R0_ [oB] oW :: Own R0_ [J] oy :: G0):=S;refine ag ?_;replace S:Sat D qV (Box Y 56 [oB,J] :: Box b0 68 [oI] :: Own R3_ [oI] oP.2 :: Own R0_ [oB] oW :: Own R0_ [J] oy :: G0):=S.tops 5 [2] rfl;have hC:=(hCd _).2 ⟨_,S⟩;refine ⟨fun _=>hC,?_⟩;refine aO 10 rfl ?_;refine au [i_ oP.1] rfl (by rfl) (dt rfl) rfl (dt rfl) S (dt rfl) ?_;intro qW pC S uh;refine ag ?_;replace S:Sat D qW (Box Y 56 [oB,J] :: Box pC 3 [i_ oP.1] :: Box b0 68 [oI] :: Own R3_ [oI] oP.2 :: Own R0_ [oB] oW :: Own R0_ [J] oy :: G0):=S.tops 6 [1] rfl;have hC:=(hCd _).2 ⟨_,S⟩;refine ⟨fun _=>hC,?_⟩;refine aO 11 rfl ?_;obtain ⟨pt,rS,F⟩:=ob F;have qF:=S.boxRow 1 rfl;replace S:Sat D qW (Own R0_ [J] oy :: Box Y 56 [oB,J] :: Box pC 3 [i_ oP.1] :: Box b0 68 [oI] :: Own R3_ [oI] oP.2 :: Own R0_ [oB] oW :: G0):=S.top 5 rfl;replace S:=S.int oP.1;replace S:=S.one;refine aE rfl (dt rfl) rfl (dt rfl) S rfl rfl rfl (by simp) qF rS (dt rfl) ?_;intro tq o9 S;refine ag ?_;replace S:Sat D tq (Box Y 56 [oB,J] :: Own R0_ [o9] pt :: Box pC 3 [i_ oP.1] :: Box b0 68 [oI] :: Own R3_ [oI] oP.2 :: Own R0_ [oB] oW :: G0):=S.tops 6 [1] rfl;have hC:=(hCd _).2 ⟨_,S⟩;refine ⟨fun _=>hC,?_⟩;refine aO 12 rfl ?_;refine pe (.pointer (some ⟨Y,0 + 1,none⟩)) (ae oU) (ag ?_);refine ⟨fun _=>hC,?_⟩;refine aO 13 rfl ?_;refine aA (S.top 0 rfl) rfl [o9] (aG rfl (oc (S.rdAt (R:=R0_) 1 rfl))) rfl (dt rfl) (all_cons (oc (S.rdAt (R:=R0_) 1 rfl)) rfl) ?_;intro pV S;replace S:Sat D pV (Box Y 56 [oB,o9] :: Own R0_ [o9] pt :: Box pC 3 [i_ oP.1] :: Box b0 68 [oI] :: Own R3_ [oI] oP.2 :: Own R0_ [oB] oW :: G0):=S;refine ag ?_;refine ⟨fun h=>(nomatch (show false=true from h)),?_⟩;refine cl (by kernel_rfl) ?_;refine tn tk ?_;replace S:Sat D pV (Box Y 56 [oB,o9] :: Own R0_ [o9] pt :: Box b0 68 [oI] :: Own R3_ [oI] oP.2 :: Own R0_ [oB] oW :: G0):=S.rems 6 [2] rfl;refine am (pM (i_ oM) o8 (pa (i_ oM) (ag (bn qP (tn pP ?_)))));replace S:Sat D pV (Own R0_ [o9] pt :: Own R0_ [oB] oW :: Box Y 56 [oB,o9] :: Box b0 68 [oI] :: Own R3_ [oI] oP.2 :: G0):=S.tops 5 [1,4,0,2,3] rfl;exact ⟨oI,oP.2,oB,oW,o9,pt,oM,pq,o0,o6,oU,rfl,S,F⟩
    refine qo ot (qo ot (qo ot (qo ot (qo ot (qo ot (qo ot (qo ot (qo ot (qo ot (qo ot (qo ot (qo ot (qo ot (qo ot (qe (.bool false) (az rfl ot rfl) (bf ?_))))))))))))))));intro uY rT;replace S:=S.ext rT;refine tn qS (cf rfl (aT (tx pR (tx pQ ?_))));replace F:=exB F qp;refine bS qR (tn qQ ?_);refine sg fun _ tt=>?_;obtain ⟨C,hCd⟩:∃ C:World → Prop,∀ w,C w ↔ ∃ G,Sat D w ([Box Y 56 [ox,J]] ++ G):=⟨_,fun _=>Iff.rfl⟩;refine bR [0,1,2,3,4,5,6,7,8,9,10,11] C (by kernel_rfl) ?_;intro tu rU;replace S:=S.ext rU;replace S:Sat D tu (Box Y 56 [ox,J] :: Own R0_ [J] oy :: Own R0_ [ox] o4 :: Box b0 68 [ov] :: Own R3_ [ov] oF :: G0):=S.tops 5 [2] rfl;have hC:=(hCd _).2 ⟨_,S⟩;refine aP (.pointer (some ⟨Y,0 + 0,none⟩)) 0 rfl rfl hC (ay rfl (fun w' hw'=>by obtain ⟨_,S⟩:=(hCd _).1 hw'; exact (ae oU))) ?_;refine aP ox 1 rfl rfl hC (ay rfl (fun w' hw'=>by obtain ⟨_,S⟩:=(hCd _).1 hw'; exact (ac rfl ((S.boxAt 0 rfl) 0 _ rfl)))) ?_;refine aP u1 2 rfl rfl hC (ay rfl (fun w' hw'=>by obtain ⟨_,S⟩:=(hCd _).1 hw'; exact (aF o0))) ?_;refine aP (i_ oO) 3 rfl rfl hC (ay rfl (fun w' hw'=>by obtain ⟨_,S⟩:=(hCd _).1 hw'; exact (aF pg))) ?_;obtain ⟨uZ,rV,F⟩:=ob F;refine ez (wA:=D) (by kernel_rfl) 4 rfl hC (by kernel_rfl) (by kernel_rfl) rfl ha1 rfl (dt rfl) rfl rV (dt rfl) ?_;intro u5 ui u6 qv rW;obtain ⟨tv,rfl⟩:=ar qv;refine aP tv 5 rfl rfl hC (ay rfl (fun w' hw'=>by obtain ⟨_,S⟩:=(hCd _).1 hw'; exact (ac rfl ((ah S.below rW) 0 _ rfl)))) ?_;refine aO 6 rfl ?_;refine pM (i_ a2) o6 (ag ?_);refine ⟨fun _=>hC,?_⟩;refine aO 7 rfl ?_;obtain ⟨pj,rX,F⟩:=ob F;refine aD (wA:=D) rfl qv rfl (dt rfl) rfl rX (dt rfl) ?_;intro u7 uj u9 rY rZ;obtain rfl:=rY;refine ag ?_;refine ⟨fun _=>hC,?_⟩;refine aO 8 rfl ?_;refine pe (i_ pj) (ac rfl ((ah S.below rZ) 0 _ rfl)) (ag ?_);refine ⟨fun _=>hC,?_⟩;refine aO 9 rfl ?_;refine au [i_ pj] rfl (by rfl) (dt rfl) rfl (dt rfl) S (dt rfl) ?_;intro qX pD S uk;refine ag ?_;replace S:Sat D qX (Box Y 56 [ox,J] :: Box pD 3 [i_ pj] :: Own R0_ [J] oy :: Own R0_ [ox] o4 :: Box b0 68 [ov] :: Own R3_ [ov] oF :: G0):=S.tops 6 [1] rfl;have hC:=(hCd _).2 ⟨_,S⟩;refine ⟨fun _=>hC,?_⟩;refine aO 10 rfl ?_;obtain ⟨oX,r3,F⟩:=ob F;have qG:=S.boxRow 1 rfl;replace S:Sat D qX (Own R0_ [ox] o4 :: Box Y 56 [ox,J] :: Box pD 3 [i_ pj] :: Own R0_ [J] oy :: Box b0 68 [ov] :: Own R3_ [ov] oF :: G0):=S.top 3 rfl;replace S:=S.int pj;replace S:=S.one;refine aE rfl (dt rfl) rfl (dt rfl) S rfl rfl rfl (by simp) qG r3 (dt rfl) ?_;intro tw oC S;refine ag ?_;replace S:Sat D tw (Box Y 56 [ox,J] :: Own R0_ [oC] oX :: Box pD 3 [i_ pj] :: Own R0_ [J] oy :: Box b0 68 [ov] :: Own R3_ [ov] oF :: G0):=S.tops 6 [1] rfl;have hC:=(hCd _).2 ⟨_,S⟩;refine ⟨fun _=>hC,?_⟩;refine aO 11 rfl ?_;refine pe (.pointer (some ⟨Y,0 + 0,none⟩)) (ae oU) (ag ?_);refine ⟨fun _=>hC,?_⟩;refine aO 12 rfl ?_;refine aA (S.top 0 rfl) rfl [oC] (aG rfl (oc (S.rdAt (R:=R0_) 1 rfl))) rfl (dt rfl) (all_cons (oc (S.rdAt (R:=R0_) 1 rfl)) rfl) ?_;intro qY S;replace S:Sat D qY (Box Y 56 [oC,J] :: Own R0_ [oC] oX :: Box pD 3 [i_ pj] :: Own R0_ [J] oy :: Box b0 68 [ov] :: Own R3_ [ov] oF :: G0):=S;refine ag ?_;refine ⟨fun h=>(nomatch (show false=true from h)),?_⟩;refine cl (by kernel_rfl) ?_;refine tn tt ?_;refine sg fun _ tz=>?_;replace S:Sat D qY (Box Y 56 [oC,J] :: Own R0_ [oC] oX :: Own R0_ [J] oy :: Box b0 68 [ov] :: Own R3_ [ov] oF :: G0):=S.rems 6 [2] rfl;obtain ⟨C,hCd⟩:∃ C:World → Prop,∀ w,C w ↔ ∃ G,Sat D w ([Box Y 56 [oC,J]] ++ G):=⟨_,fun _=>Iff.rfl⟩;refine bR [0,1,2,3,4,5,6,7,8,9,10,11,12] C (by kernel_rfl) ?_;intro tA r4;replace S:=S.ext r4;have hC:=(hCd _).2 ⟨_,S⟩;refine aP (.pointer (some ⟨Y,0 + 1,none⟩)) 0 rfl rfl hC (ay rfl (fun w' hw'=>by obtain ⟨_,S⟩:=(hCd _).1 hw'; exact (ae oU))) ?_;refine aP J 1 rfl rfl hC (ay rfl (fun w' hw'=>by obtain ⟨_,S⟩:=(hCd _).1 hw'; exact (ac rfl ((S.boxAt 0 rfl) 1 _ rfl)))) ?_;refine aP (.pointer (some ⟨b0,0,none⟩)) 2 rfl rfl hC (ay rfl (fun w' hw'=>by obtain ⟨_,S⟩:=(hCd _).1 hw'; exact (aF pq))) ?_;refine aP u1 3 rfl rfl hC (ay rfl (fun w' hw'=>by obtain ⟨_,S⟩:=(hCd _).1 hw'; exact (aF o0))) ?_;refine aP (i_ oO) 4 rfl rfl hC (ay rfl (fun w' hw'=>by obtain ⟨_,S⟩:=(hCd _).1 hw'; exact (aF pg))) ?_;refine aP (i_ oM) 5 rfl rfl hC (ay rfl (fun w' hw'=>by obtain ⟨_,S⟩:=(hCd _).1 hw'; exact (aF o8))) ?_;obtain ⟨va,r5,F⟩:=ob F;refine gi (wA:=D) (by kernel_rfl) 6 rfl hC (by kernel_rfl) (by kernel_rfl) rfl rfl ha1 (.inl (congrArg some rfl)) (.inl (congrArg some rfl)) r5 (dt rfl) ?_;intro vb r6;refine aO 7 rfl ?_;refine pM (i_ a2) o6 (ag ?_);refine ⟨fun _=>hC,?_⟩;refine aO 8 rfl ?_;obtain ⟨tB,r7,F⟩:=ob F;refine pe (i_ tB) (aS rfl rfl r7) (ag ?_);refine ⟨fun _=>hC,?_⟩;refine aO 9 rfl ?_;replace S:Sat D tA (Box b0 68 [ov] :: Own R3_ [ov] oF :: Box Y 56 [oC,J] :: Own R0_ [oC] oX :: Own R0_ [J] oy :: G0):=S.tops 5 [3,4] rfl;obtain ⟨oQ,r8,F⟩:=ob F;refine aR gu (ih r6 S r8) (ca (ak rfl (ak rfl (ak rfl rfl)))) (dt rfl) ?_;rintro _ qZ ⟨oJ,rfl,S⟩;refine ⟨_,rfl,?_⟩;replace S:Sat D qZ (Box b0 68 [oJ] :: Own R3_ [oJ] oQ.2 :: Box Y 56 [oC,J] :: Own R0_ [oC] oX :: Own R0_ [J] oy :: G0):=S;refine ag ?_;replace S:Sat D qZ (Box Y 56 [oC,J] :: Box b0 68 [oJ] :: Own R3_ [oJ] oQ.2 :: Own R0_ [oC] oX :: Own R0_ [J] oy :: G0):=S.tops 5 [2] rfl;have hC:=(hCd _).2 ⟨_,S⟩;refine ⟨fun _=>hC,?_⟩;refine aO 10 rfl ?_;refine au [i_ oQ.1] rfl (by rfl) (dt rfl) rfl (dt rfl) S (dt rfl) ?_;intro q5 pE S ul;refine ag ?_;replace S:Sat D q5 (Box Y 56 [oC,J] :: Box pE 3 [i_ oQ.1] :: Box b0 68 [oJ] :: Own R3_ [oJ] oQ.2 :: Own R0_ [oC] oX :: Own R0_ [J] oy :: G0):=S.tops 6 [1] rfl;have hC:=(hCd _).2 ⟨_,S⟩;refine ⟨fun _=>hC,?_⟩;refine aO 11 rfl ?_;obtain ⟨pu,r9,F⟩:=ob F;have qH:=S.boxRow 1 rfl;replace S:Sat D q5 (Own R0_ [J] oy :: Box Y 56 [oC,J] :: Box pE 3 [i_ oQ.1] :: Box b0 68 [oJ] :: Own R3_ [oJ] oQ.2 :: Own R0_ [oC] oX :: G0):=S.top 5 rfl;replace S:=S.int oQ.1;replace S:=S.one;refine aE rfl (dt rfl) rfl (dt rfl) S rfl rfl rfl (by simp) qH r9 (dt rfl) ?_;intro tC pb S;refine ag ?_;replace S:Sat D tC (Box Y 56 [oC,J] :: Own R0_ [pb] pu :: Box pE 3 [i_ oQ.1] :: Box b0 68 [oJ] :: Own R3_ [oJ] oQ.2 :: Own R0_ [oC] oX :: G0):=S.tops 6 [1] rfl;have hC:=(hCd _).2 ⟨_,S⟩;refine ⟨fun _=>hC,?_⟩;refine aO 12 rfl ?_;refine pe (.pointer (some ⟨Y,0 + 1,none⟩)) (ae oU) (ag ?_);refine ⟨fun _=>hC,?_⟩;refine aO 13 rfl ?_;refine aA (S.top 0 rfl) rfl [pb] (aG rfl (oc (S.rdAt (R:=R0_) 1 rfl))) rfl (dt rfl) (all_cons (oc (S.rdAt (R:=R0_) 1 rfl)) rfl) ?_;intro pW S;replace S:Sat D pW (Box Y 56 [oC,pb] :: Own R0_ [pb] pu :: Box pE 3 [i_ oQ.1] :: Box b0 68 [oJ] :: Own R3_ [oJ] oQ.2 :: Own R0_ [oC] oX :: G0):=S;refine ag ?_;refine ⟨fun h=>(nomatch (show false=true from h)),?_⟩;refine cl (by kernel_rfl) ?_;refine tn tz ?_;replace S:Sat D pW (Box Y 56 [oC,pb] :: Own R0_ [pb] pu :: Box b0 68 [oJ] :: Own R3_ [oJ] oQ.2 :: Own R0_ [oC] oX :: G0):=S.rems 6 [2] rfl;refine am (pM (i_ oM) o8 (pa (i_ oM) (ag (bn qP (tn pP ?_)))));replace S:Sat D pW (Own R0_ [pb] pu :: Own R0_ [oC] oX :: Box Y 56 [oC,pb] :: Box b0 68 [oJ] :: Own R3_ [oJ] oQ.2 :: G0):=S.tops 5 [1,4,0,2,3] rfl;exact ⟨oJ,oQ.2,oC,oX,pb,pu,oM,pq,o0,o6,oU,rfl,S,F⟩
   refine cf pz (aT (tx qO (tx pP ?_)));replace F:=exB F rn;refine bS s7 (tn s5 ?_);refine sR fun _ tD=>?_;refine pM (.pointer (some ⟨b0,0,none⟩)) qk (pe (.agg #[ox,J]) (aB (cs:=[ox,J]) qn rfl (aH (S.boxAt 2 rfl))) ?_);replace S:Sat D s9 (Box b0 68 [ov] :: Own R3_ [ov] oF :: Own R0_ [ox] o4 :: Own R0_ [J] oy :: Box Y 56 [ox,J] :: G0):=S.tops 5 [3,4,1,0] rfl;obtain ⟨pX,sa,F⟩:=ob F;refine aR kZ (eu S sa) (ca (ak rfl (ak rfl rfl))) (dt rfl) ?_;rintro _ pY ⟨pk,rfl,S⟩;refine ⟨_,rfl,?_⟩;replace S:Sat D pY (Box b0 68 [pk] :: Own R3_ [pk] pX.2 :: Box Y 56 [ox,J] :: G0):=S;refine pa (i_ pX.1) (en tD (ai (aC rfl rfl ?_)));have hr:=Option.some.inj F;replace S:Sat D pY (Box b0 68 [pk] :: Own R3_ [pk] pX.2 :: G0):=S.rems 3 [2] rfl;exact ⟨pk,(congrArg (fun (r:Int × T4_)=>Ending.returned (i_ r.1)) hr :),Eq.mp (congrArg (fun (r:Int × T4_)=>Sat D pY (Box b0 68 [pk] :: Own R3_ [pk] r.2 :: G0)) hr :) S⟩
  refine eo oH (eo oH (eo oH (eo oH (eo oH (eo oH (pe (.bool false) (az rfl oH rfl) (en qN (cf rfl (sn pN ?_)))))))));refine sR fun _ tE=>?_;refine be S (dt rfl) ?_;intro vc Z S um;refine en tE ?_;refine sg fun _ tF=>?_;refine sR fun _ tG=>?_;refine pa (i_ 0) (en tG ?_);refine bg fun _ tH=>?_;replace S:=S.nil cK 3;replace S:=S.nil cK 3;obtain ⟨tI,hL,sc⟩:=ob F;refine aV (fun k e w=>∃ (ow:Value),∃ (oG:List T2_),∃ (oz:Value),∃ (o5:List Int),∃ (U:Value),∃ (oA:List Int),∃ (oR:Int),e 0=.pointer (some ⟨b0,0,none⟩)∧e 1=u1∧e 2=i_ a2∧e 7=.pointer (some ⟨Z,0,none⟩)∧e 8=i_ oR∧Sat D w (Own R0_ [U] oA :: Own R0_ [oz] o5 :: Box Z 56 [oz,U] :: Box b0 68 [ow] :: Own R3_ [ow] oG :: G0)∧ba (aL N) N k oG a1 a2 o5 oA oR=some tI) N ?_ ?_ ?_
  ·exact ⟨u0,a0,n_,[],n_,[],0,rfl,rfl,rfl,rfl,rfl,S,hL⟩
  ·rintro e w ⟨_,_,_,_,_,_,_,_,_,_,_,_,_,hz⟩; exact nomatch (show none=some _ from hz)
  rintro k vd tJ ⟨ow,oG,oz,o5,U,oA,oR,qw,qx,sd,qy,pF,S,F⟩;refine gn fun _ pZ=>?_;refine sg fun _ q6=>?_;refine sR fun _ tK=>?_;refine pM (i_ oR) pF (pM u1 qx (pe (i_ (a1.length:Int)) (ap rfl ha1) (pe (.bool (decide (oR < (a1.length:Int)))) (a8 rfl rfl) (en tK ?_))));rcases oif F with ⟨pG,F⟩|⟨pG,F⟩
  ·refine ct pG (sn q6 ?_);refine bg fun _ q7=>?_;refine sR fun _ tL=>?_;refine pM (i_ oR) pF (pa (i_ oR) (en tL ?_));refine sg fun _ q8=>?_;refine bg fun _ q9=>?_;obtain ⟨tM,hL,qz⟩:=ob F;refine aV (fun k e w=>∃ (oN:Int),e 0=.pointer (some ⟨b0,0,none⟩)∧e 1=u1∧e 2=i_ a2∧e 7=.pointer (some ⟨Z,0,none⟩)∧e 8=i_ oR∧e 9=i_ oN∧Sat D w (Own R0_ [U] oA :: Own R0_ [oz] o5 :: Box Z 56 [oz,U] :: Box b0 68 [ow] :: Own R3_ [ow] oG :: G0)∧bz (aL N) N k oG a1 a2 o5 oA oR oN=some tM) N ?_ ?_ ?_
   ·exact ⟨oR,qw,qx,sd,qy,pF,rfl,S,hL⟩
   ·rintro e w ⟨_,_,_,_,_,_,_,_,hz⟩; exact nomatch (show none=some _ from hz)
   rintro k ve vf ⟨oN,pr,o3,o7,oV,ph,pc,S,F⟩;refine gn fun _ p8=>?_;refine sg fun _ p9=>?_;refine sg fun _ ra=>?_;refine bA (by kernel_rfl) (by kernel_rfl) ?_;refine qM (i_ oN) pc (qM u1 o3 (qe (i_ (a1.length:Int)) (ap rfl ha1) (qe (.bool (decide (oN < (a1.length:Int)))) (a8 rfl rfl) (qm (.bool (decide (oN < (a1.length:Int)))) ?_))));rcases oif F with ⟨ou,F⟩|⟨ou,F⟩
   ·refine qi ou (qM u1 o3 (qi ou (qM (i_ oN) pc (qi ou ?_))));obtain ⟨vg,se,F⟩:=ob F;refine aJ (wA:=D) rfl ha1 rfl (dt rfl) rfl se (dt rfl) ?_;intro vh un vi qA sf;obtain ⟨tN,rfl⟩:=ar qA;refine qi ou (qe tN (ac rfl ((ah S.below sf) 0 _ rfl)) (qi ou (qM (i_ a2) o7 (qi ou ?_))));obtain ⟨qa,sh,F⟩:=ob F;refine aJ (wA:=D) rfl qA rfl (dt rfl) rfl sh (dt rfl) ?_;intro vj uo vk si sj;obtain rfl:=si;refine qi ou (qe (i_ qa) (ac rfl ((ah S.below sj) 0 _ rfl)) (qi ou (qM u1 o3 (qi ou (qM (i_ oR) ph (qi ou ?_))))));obtain ⟨vl,sk,F⟩:=ob F;refine aJ (wA:=D) rfl ha1 rfl (dt rfl) rfl sk (dt rfl) ?_;intro vm uq vn qB sl;obtain ⟨tO,rfl⟩:=ar qB;refine qi ou (qe tO (ac rfl ((ah S.below sl) 0 _ rfl)) (qi ou (qM (i_ a2) o7 (qi ou ?_))));obtain ⟨qb,sm,F⟩:=ob F;refine aJ (wA:=D) rfl qB rfl (dt rfl) rfl sm (dt rfl) ?_;intro vo ur vp sp sq;obtain rfl:=sp;refine qi ou (qe (i_ qb) (ac rfl ((ah S.below sq) 0 _ rfl)) (qi ou (qe (.bool (qa == qb)) (bB rfl rfl) (qe (.bool (qa == qb)) (aw rfl ou rfl) (bf ?_)))));intro vq ss;replace S:=S.ext ss;refine tn ra ?_;rcases oif F with ⟨pH,F⟩|⟨pH,F⟩
    ·refine ct pH (sn p9 ?_);refine bg fun _ tP=>?_;refine am (pM (i_ oN) pc ?_);obtain ⟨qc,su,F⟩:=ob F;refine pe (i_ qc) (aS rfl rfl su) (pa (i_ qc) (ag (bn tP (tn p8 ?_))));exact ⟨qc,pr,o3,o7,oV,ph,rfl,S,F⟩
    refine cf pH (aT (tx p9 (tx p8 ?_)));replace F:=exB F qz;refine bS q9 (tn q8 ?_);refine sg fun _ tQ=>?_;obtain ⟨C,hCd⟩:∃ C:World → Prop,∀ w,C w ↔ ∃ G,Sat D w ([Box Z 56 [oz,U]] ++ G):=⟨_,fun _=>Iff.rfl⟩;refine bR [0,1,2,3,4,5,6,7,8,9,10,11] C (by kernel_rfl) ?_;intro tR sv;replace S:=S.ext sv;replace S:Sat D tR (Box Z 56 [oz,U] :: Own R0_ [U] oA :: Own R0_ [oz] o5 :: Box b0 68 [ow] :: Own R3_ [ow] oG :: G0):=S.tops 5 [2] rfl;have hC:=(hCd _).2 ⟨_,S⟩;refine aP (.pointer (some ⟨Z,0 + 0,none⟩)) 0 rfl rfl hC (ay rfl (fun w' hw'=>by obtain ⟨_,S⟩:=(hCd _).1 hw'; exact (ae oV))) ?_;refine aP oz 1 rfl rfl hC (ay rfl (fun w' hw'=>by obtain ⟨_,S⟩:=(hCd _).1 hw'; exact (ac rfl ((S.boxAt 0 rfl) 0 _ rfl)))) ?_;refine aP u1 2 rfl rfl hC (ay rfl (fun w' hw'=>by obtain ⟨_,S⟩:=(hCd _).1 hw'; exact (aF o3))) ?_;refine aP (i_ oR) 3 rfl rfl hC (ay rfl (fun w' hw'=>by obtain ⟨_,S⟩:=(hCd _).1 hw'; exact (aF ph))) ?_;obtain ⟨vr,sw,F⟩:=ob F;refine ez (wA:=D) (by kernel_rfl) 4 rfl hC (by kernel_rfl) (by kernel_rfl) rfl ha1 rfl (dt rfl) rfl sw (dt rfl) ?_;intro vt us vu qC sx;obtain ⟨tS,rfl⟩:=ar qC;refine aP tS 5 rfl rfl hC (ay rfl (fun w' hw'=>by obtain ⟨_,S⟩:=(hCd _).1 hw'; exact (ac rfl ((ah S.below sx) 0 _ rfl)))) ?_;refine aO 6 rfl ?_;refine pM (i_ a2) o7 (ag ?_);refine ⟨fun _=>hC,?_⟩;refine aO 7 rfl ?_;obtain ⟨pn,sy,F⟩:=ob F;refine aD (wA:=D) rfl qC rfl (dt rfl) rfl sy (dt rfl) ?_;intro vv ut vw sA sB;obtain rfl:=sA;refine ag ?_;refine ⟨fun _=>hC,?_⟩;refine aO 8 rfl ?_;refine pe (i_ pn) (ac rfl ((ah S.below sB) 0 _ rfl)) (ag ?_);refine ⟨fun _=>hC,?_⟩;refine aO 9 rfl ?_;refine au [i_ pn] rfl (by rfl) (dt rfl) rfl (dt rfl) S (dt rfl) ?_;intro rb pI S uu;refine ag ?_;replace S:Sat D rb (Box Z 56 [oz,U] :: Box pI 3 [i_ pn] :: Own R0_ [U] oA :: Own R0_ [oz] o5 :: Box b0 68 [ow] :: Own R3_ [ow] oG :: G0):=S.tops 6 [1] rfl;have hC:=(hCd _).2 ⟨_,S⟩;refine ⟨fun _=>hC,?_⟩;refine aO 10 rfl ?_;obtain ⟨oY,sC,F⟩:=ob F;have qI:=S.boxRow 1 rfl;replace S:Sat D rb (Own R0_ [oz] o5 :: Box Z 56 [oz,U] :: Box pI 3 [i_ pn] :: Own R0_ [U] oA :: Box b0 68 [ow] :: Own R3_ [ow] oG :: G0):=S.top 3 rfl;replace S:=S.int pn;replace S:=S.one;refine aE rfl (dt rfl) rfl (dt rfl) S rfl rfl rfl (by simp) qI sC (dt rfl) ?_;intro tT oD S;refine ag ?_;replace S:Sat D tT (Box Z 56 [oz,U] :: Own R0_ [oD] oY :: Box pI 3 [i_ pn] :: Own R0_ [U] oA :: Box b0 68 [ow] :: Own R3_ [ow] oG :: G0):=S.tops 6 [1] rfl;have hC:=(hCd _).2 ⟨_,S⟩;refine ⟨fun _=>hC,?_⟩;refine aO 11 rfl ?_;refine pe (.pointer (some ⟨Z,0 + 0,none⟩)) (ae oV) (ag ?_);refine ⟨fun _=>hC,?_⟩;refine aO 12 rfl ?_;refine aA (S.top 0 rfl) rfl [oD] (aG rfl (oc (S.rdAt (R:=R0_) 1 rfl))) rfl (dt rfl) (all_cons (oc (S.rdAt (R:=R0_) 1 rfl)) rfl) ?_;intro rc S;replace S:Sat D rc (Box Z 56 [oD,U] :: Own R0_ [oD] oY :: Box pI 3 [i_ pn] :: Own R0_ [U] oA :: Box b0 68 [ow] :: Own R3_ [ow] oG :: G0):=S;refine ag ?_;refine ⟨fun h=>(nomatch (show false=true from h)),?_⟩;refine cl (by kernel_rfl) ?_;refine tn tQ ?_;refine sg fun _ tU=>?_;replace S:Sat D rc (Box Z 56 [oD,U] :: Own R0_ [oD] oY :: Own R0_ [U] oA :: Box b0 68 [ow] :: Own R3_ [ow] oG :: G0):=S.rems 6 [2] rfl;obtain ⟨C,hCd⟩:∃ C:World → Prop,∀ w,C w ↔ ∃ G,Sat D w ([Box Z 56 [oD,U]] ++ G):=⟨_,fun _=>Iff.rfl⟩;refine bR [0,1,2,3,4,5,6,7,8,9,10,11,12] C (by kernel_rfl) ?_;intro tV sD;replace S:=S.ext sD;have hC:=(hCd _).2 ⟨_,S⟩;refine aP (.pointer (some ⟨Z,0 + 1,none⟩)) 0 rfl rfl hC (ay rfl (fun w' hw'=>by obtain ⟨_,S⟩:=(hCd _).1 hw'; exact (ae oV))) ?_;refine aP U 1 rfl rfl hC (ay rfl (fun w' hw'=>by obtain ⟨_,S⟩:=(hCd _).1 hw'; exact (ac rfl ((S.boxAt 0 rfl) 1 _ rfl)))) ?_;refine aP (.pointer (some ⟨b0,0,none⟩)) 2 rfl rfl hC (ay rfl (fun w' hw'=>by obtain ⟨_,S⟩:=(hCd _).1 hw'; exact (aF pr))) ?_;refine aP u1 3 rfl rfl hC (ay rfl (fun w' hw'=>by obtain ⟨_,S⟩:=(hCd _).1 hw'; exact (aF o3))) ?_;refine aP (i_ oR) 4 rfl rfl hC (ay rfl (fun w' hw'=>by obtain ⟨_,S⟩:=(hCd _).1 hw'; exact (aF ph))) ?_;refine aP (i_ oN) 5 rfl rfl hC (ay rfl (fun w' hw'=>by obtain ⟨_,S⟩:=(hCd _).1 hw'; exact (aF pc))) ?_;obtain ⟨vx,sE,F⟩:=ob F;refine gi (wA:=D) (by kernel_rfl) 6 rfl hC (by kernel_rfl) (by kernel_rfl) rfl rfl ha1 (.inl (congrArg some rfl)) (.inl (congrArg some rfl)) sE (dt rfl) ?_;intro vy sF;refine aO 7 rfl ?_;refine pM (i_ a2) o7 (ag ?_);refine ⟨fun _=>hC,?_⟩;refine aO 8 rfl ?_;obtain ⟨tW,sG,F⟩:=ob F;refine pe (i_ tW) (aS rfl rfl sG) (ag ?_);refine ⟨fun _=>hC,?_⟩;refine aO 9 rfl ?_;replace S:Sat D tV (Box b0 68 [ow] :: Own R3_ [ow] oG :: Box Z 56 [oD,U] :: Own R0_ [oD] oY :: Own R0_ [U] oA :: G0):=S.tops 5 [3,4] rfl;obtain ⟨oS,sH,F⟩:=ob F;refine aR gu (ih sF S sH) (ca (ak rfl (ak rfl (ak rfl rfl)))) (dt rfl) ?_;rintro _ re ⟨oK,rfl,S⟩;refine ⟨_,rfl,?_⟩;replace S:Sat D re (Box b0 68 [oK] :: Own R3_ [oK] oS.2 :: Box Z 56 [oD,U] :: Own R0_ [oD] oY :: Own R0_ [U] oA :: G0):=S;refine ag ?_;replace S:Sat D re (Box Z 56 [oD,U] :: Box b0 68 [oK] :: Own R3_ [oK] oS.2 :: Own R0_ [oD] oY :: Own R0_ [U] oA :: G0):=S.tops 5 [2] rfl;have hC:=(hCd _).2 ⟨_,S⟩;refine ⟨fun _=>hC,?_⟩;refine aO 10 rfl ?_;refine au [i_ oS.1] rfl (by rfl) (dt rfl) rfl (dt rfl) S (dt rfl) ?_;intro rf pJ S uv;refine ag ?_;replace S:Sat D rf (Box Z 56 [oD,U] :: Box pJ 3 [i_ oS.1] :: Box b0 68 [oK] :: Own R3_ [oK] oS.2 :: Own R0_ [oD] oY :: Own R0_ [U] oA :: G0):=S.tops 6 [1] rfl;have hC:=(hCd _).2 ⟨_,S⟩;refine ⟨fun _=>hC,?_⟩;refine aO 11 rfl ?_;obtain ⟨pv,sI,F⟩:=ob F;have qJ:=S.boxRow 1 rfl;replace S:Sat D rf (Own R0_ [U] oA :: Box Z 56 [oD,U] :: Box pJ 3 [i_ oS.1] :: Box b0 68 [oK] :: Own R3_ [oK] oS.2 :: Own R0_ [oD] oY :: G0):=S.top 5 rfl;replace S:=S.int oS.1;replace S:=S.one;refine aE rfl (dt rfl) rfl (dt rfl) S rfl rfl rfl (by simp) qJ sI (dt rfl) ?_;intro tX pd S;refine ag ?_;replace S:Sat D tX (Box Z 56 [oD,U] :: Own R0_ [pd] pv :: Box pJ 3 [i_ oS.1] :: Box b0 68 [oK] :: Own R3_ [oK] oS.2 :: Own R0_ [oD] oY :: G0):=S.tops 6 [1] rfl;have hC:=(hCd _).2 ⟨_,S⟩;refine ⟨fun _=>hC,?_⟩;refine aO 12 rfl ?_;refine pe (.pointer (some ⟨Z,0 + 1,none⟩)) (ae oV) (ag ?_);refine ⟨fun _=>hC,?_⟩;refine aO 13 rfl ?_;refine aA (S.top 0 rfl) rfl [pd] (aG rfl (oc (S.rdAt (R:=R0_) 1 rfl))) rfl (dt rfl) (all_cons (oc (S.rdAt (R:=R0_) 1 rfl)) rfl) ?_;intro qd S;replace S:Sat D qd (Box Z 56 [oD,pd] :: Own R0_ [pd] pv :: Box pJ 3 [i_ oS.1] :: Box b0 68 [oK] :: Own R3_ [oK] oS.2 :: Own R0_ [oD] oY :: G0):=S;refine ag ?_;refine ⟨fun h=>(nomatch (show false=true from h)),?_⟩;refine cl (by kernel_rfl) ?_;refine tn tU ?_;replace S:Sat D qd (Box Z 56 [oD,pd] :: Own R0_ [pd] pv :: Box b0 68 [oK] :: Own R3_ [oK] oS.2 :: Own R0_ [oD] oY :: G0):=S.rems 6 [2] rfl;refine am (pM (i_ oN) pc (pa (i_ oN) (ag (bn q7 (tn pZ ?_)))));replace S:Sat D qd (Own R0_ [pd] pv :: Own R0_ [oD] oY :: Box Z 56 [oD,pd] :: Box b0 68 [oK] :: Own R3_ [oK] oS.2 :: G0):=S.tops 5 [1,4,0,2,3] rfl;exact ⟨oK,oS.2,oD,oY,pd,pv,oN,pr,o3,o7,oV,rfl,S,F⟩
   refine qo ou (qo ou (qo ou (qo ou (qo ou (qo ou (qo ou (qo ou (qo ou (qo ou (qo ou (qo ou (qo ou (qo ou (qo ou (qe (.bool false) (az rfl ou rfl) (bf ?_))))))))))))))));intro vz sJ;replace S:=S.ext sJ;refine tn ra (cf rfl (aT (tx p9 (tx p8 ?_))));replace F:=exB F qz;refine bS q9 (tn q8 ?_);refine sg fun _ tY=>?_;obtain ⟨C,hCd⟩:∃ C:World → Prop,∀ w,C w ↔ ∃ G,Sat D w ([Box Z 56 [oz,U]] ++ G):=⟨_,fun _=>Iff.rfl⟩;refine bR [0,1,2,3,4,5,6,7,8,9,10,11] C (by kernel_rfl) ?_;intro tZ sK;replace S:=S.ext sK;replace S:Sat D tZ (Box Z 56 [oz,U] :: Own R0_ [U] oA :: Own R0_ [oz] o5 :: Box b0 68 [ow] :: Own R3_ [ow] oG :: G0):=S.tops 5 [2] rfl;have hC:=(hCd _).2 ⟨_,S⟩;refine aP (.pointer (some ⟨Z,0 + 0,none⟩)) 0 rfl rfl hC (ay rfl (fun w' hw'=>by obtain ⟨_,S⟩:=(hCd _).1 hw'; exact (ae oV))) ?_;refine aP oz 1 rfl rfl hC (ay rfl (fun w' hw'=>by obtain ⟨_,S⟩:=(hCd _).1 hw'; exact (ac rfl ((S.boxAt 0 rfl) 0 _ rfl)))) ?_;refine aP u1 2 rfl rfl hC (ay rfl (fun w' hw'=>by obtain ⟨_,S⟩:=(hCd _).1 hw'; exact (aF o3))) ?_;refine aP (i_ oR) 3 rfl rfl hC (ay rfl (fun w' hw'=>by obtain ⟨_,S⟩:=(hCd _).1 hw'; exact (aF ph))) ?_;obtain ⟨vA,sL,F⟩:=ob F;refine ez (wA:=D) (by kernel_rfl) 4 rfl hC (by kernel_rfl) (by kernel_rfl) rfl ha1 rfl (dt rfl) rfl sL (dt rfl) ?_;intro vB uw vC qD sM;obtain ⟨t0,rfl⟩:=ar qD;refine aP t0 5 rfl rfl hC (ay rfl (fun w' hw'=>by obtain ⟨_,S⟩:=(hCd _).1 hw'; exact (ac rfl ((ah S.below sM) 0 _ rfl)))) ?_;refine aO 6 rfl ?_;refine pM (i_ a2) o7 (ag ?_);refine ⟨fun _=>hC,?_⟩;refine aO 7 rfl ?_;obtain ⟨po,sN,F⟩:=ob F;refine aD (wA:=D) rfl qD rfl (dt rfl) rfl sN (dt rfl) ?_;intro vD ux vE sO sP;obtain rfl:=sO;refine ag ?_;refine ⟨fun _=>hC,?_⟩;refine aO 8 rfl ?_;refine pe (i_ po) (ac rfl ((ah S.below sP) 0 _ rfl)) (ag ?_);refine ⟨fun _=>hC,?_⟩;refine aO 9 rfl ?_;refine au [i_ po] rfl (by rfl) (dt rfl) rfl (dt rfl) S (dt rfl) ?_;intro rg pK S uy;refine ag ?_;replace S:Sat D rg (Box Z 56 [oz,U] :: Box pK 3 [i_ po] :: Own R0_ [U] oA :: Own R0_ [oz] o5 :: Box b0 68 [ow] :: Own R3_ [ow] oG :: G0):=S.tops 6 [1] rfl;have hC:=(hCd _).2 ⟨_,S⟩;refine ⟨fun _=>hC,?_⟩;refine aO 10 rfl ?_;obtain ⟨oZ,sQ,F⟩:=ob F;have qK:=S.boxRow 1 rfl;replace S:Sat D rg (Own R0_ [oz] o5 :: Box Z 56 [oz,U] :: Box pK 3 [i_ po] :: Own R0_ [U] oA :: Box b0 68 [ow] :: Own R3_ [ow] oG :: G0):=S.top 3 rfl;replace S:=S.int po;replace S:=S.one;refine aE rfl (dt rfl) rfl (dt rfl) S rfl rfl rfl (by simp) qK sQ (dt rfl) ?_;intro t1 oE S;refine ag ?_;replace S:Sat D t1 (Box Z 56 [oz,U] :: Own R0_ [oE] oZ :: Box pK 3 [i_ po] :: Own R0_ [U] oA :: Box b0 68 [ow] :: Own R3_ [ow] oG :: G0):=S.tops 6 [1] rfl;have hC:=(hCd _).2 ⟨_,S⟩;refine ⟨fun _=>hC,?_⟩;refine aO 11 rfl ?_;refine pe (.pointer (some ⟨Z,0 + 0,none⟩)) (ae oV) (ag ?_);refine ⟨fun _=>hC,?_⟩;refine aO 12 rfl ?_;refine aA (S.top 0 rfl) rfl [oE] (aG rfl (oc (S.rdAt (R:=R0_) 1 rfl))) rfl (dt rfl) (all_cons (oc (S.rdAt (R:=R0_) 1 rfl)) rfl) ?_;intro rh S;replace S:Sat D rh (Box Z 56 [oE,U] :: Own R0_ [oE] oZ :: Box pK 3 [i_ po] :: Own R0_ [U] oA :: Box b0 68 [ow] :: Own R3_ [ow] oG :: G0):=S;refine ag ?_;refine ⟨fun h=>(nomatch (show false=true from h)),?_⟩;refine cl (by kernel_rfl) ?_;refine tn tY ?_;refine sg fun _ t3=>?_;replace S:Sat D rh (Box Z 56 [oE,U] :: Own R0_ [oE] oZ :: Own R0_ [U] oA :: Box b0 68 [ow] :: Own R3_ [ow] oG :: G0):=S.rems 6 [2] rfl;obtain ⟨C,hCd⟩:∃ C:World → Prop,∀ w,C w ↔ ∃ G,Sat D w ([Box Z 56 [oE,U]] ++ G):=⟨_,fun _=>Iff.rfl⟩;refine bR [0,1,2,3,4,5,6,7,8,9,10,11,12] C (by kernel_rfl) ?_;intro t4 sS;replace S:=S.ext sS;have hC:=(hCd _).2 ⟨_,S⟩;refine aP (.pointer (some ⟨Z,0 + 1,none⟩)) 0 rfl rfl hC (ay rfl (fun w' hw'=>by obtain ⟨_,S⟩:=(hCd _).1 hw'; exact (ae oV))) ?_;refine aP U 1 rfl rfl hC (ay rfl (fun w' hw'=>by obtain ⟨_,S⟩:=(hCd _).1 hw'; exact (ac rfl ((S.boxAt 0 rfl) 1 _ rfl)))) ?_;refine aP (.pointer (some ⟨b0,0,none⟩)) 2 rfl rfl hC (ay rfl (fun w' hw'=>by obtain ⟨_,S⟩:=(hCd _).1 hw'; exact (aF pr))) ?_;refine aP u1 3 rfl rfl hC (ay rfl (fun w' hw'=>by obtain ⟨_,S⟩:=(hCd _).1 hw'; exact (aF o3))) ?_;refine aP (i_ oR) 4 rfl rfl hC (ay rfl (fun w' hw'=>by obtain ⟨_,S⟩:=(hCd _).1 hw'; exact (aF ph))) ?_;refine aP (i_ oN) 5 rfl rfl hC (ay rfl (fun w' hw'=>by obtain ⟨_,S⟩:=(hCd _).1 hw'; exact (aF pc))) ?_;obtain ⟨vF,sT,F⟩:=ob F;refine gi (wA:=D) (by kernel_rfl) 6 rfl hC (by kernel_rfl) (by kernel_rfl) rfl rfl ha1 (.inl (congrArg some rfl)) (.inl (congrArg some rfl)) sT (dt rfl) ?_;intro vG sU;refine aO 7 rfl ?_;refine pM (i_ a2) o7 (ag ?_);refine ⟨fun _=>hC,?_⟩;refine aO 8 rfl ?_;obtain ⟨t5,sV,F⟩:=ob F;refine pe (i_ t5) (aS rfl rfl sV) (ag ?_);refine ⟨fun _=>hC,?_⟩;refine aO 9 rfl ?_;replace S:Sat D t4 (Box b0 68 [ow] :: Own R3_ [ow] oG :: Box Z 56 [oE,U] :: Own R0_ [oE] oZ :: Own R0_ [U] oA :: G0):=S.tops 5 [3,4] rfl;obtain ⟨oT,sW,F⟩:=ob F;refine aR gu (ih sU S sW) (ca (ak rfl (ak rfl (ak rfl rfl)))) (dt rfl) ?_;rintro _ ri ⟨oL,rfl,S⟩;refine ⟨_,rfl,?_⟩;replace S:Sat D ri (Box b0 68 [oL] :: Own R3_ [oL] oT.2 :: Box Z 56 [oE,U] :: Own R0_ [oE] oZ :: Own R0_ [U] oA :: G0):=S;refine ag ?_;replace S:Sat D ri (Box Z 56 [oE,U] :: Box b0 68 [oL] :: Own R3_ [oL] oT.2 :: Own R0_ [oE] oZ :: Own R0_ [U] oA :: G0):=S.tops 5 [2] rfl;have hC:=(hCd _).2 ⟨_,S⟩;refine ⟨fun _=>hC,?_⟩;refine aO 10 rfl ?_;refine au [i_ oT.1] rfl (by rfl) (dt rfl) rfl (dt rfl) S (dt rfl) ?_;intro rj pL S uz;refine ag ?_;replace S:Sat D rj (Box Z 56 [oE,U] :: Box pL 3 [i_ oT.1] :: Box b0 68 [oL] :: Own R3_ [oL] oT.2 :: Own R0_ [oE] oZ :: Own R0_ [U] oA :: G0):=S.tops 6 [1] rfl;have hC:=(hCd _).2 ⟨_,S⟩;refine ⟨fun _=>hC,?_⟩;refine aO 11 rfl ?_;obtain ⟨pw,sX,F⟩:=ob F;have qL:=S.boxRow 1 rfl;replace S:Sat D rj (Own R0_ [U] oA :: Box Z 56 [oE,U] :: Box pL 3 [i_ oT.1] :: Box b0 68 [oL] :: Own R3_ [oL] oT.2 :: Own R0_ [oE] oZ :: G0):=S.top 5 rfl;replace S:=S.int oT.1;replace S:=S.one;refine aE rfl (dt rfl) rfl (dt rfl) S rfl rfl rfl (by simp) qL sX (dt rfl) ?_;intro t6 pf S;refine ag ?_;replace S:Sat D t6 (Box Z 56 [oE,U] :: Own R0_ [pf] pw :: Box pL 3 [i_ oT.1] :: Box b0 68 [oL] :: Own R3_ [oL] oT.2 :: Own R0_ [oE] oZ :: G0):=S.tops 6 [1] rfl;have hC:=(hCd _).2 ⟨_,S⟩;refine ⟨fun _=>hC,?_⟩;refine aO 12 rfl ?_;refine pe (.pointer (some ⟨Z,0 + 1,none⟩)) (ae oV) (ag ?_);refine ⟨fun _=>hC,?_⟩;refine aO 13 rfl ?_;refine aA (S.top 0 rfl) rfl [pf] (aG rfl (oc (S.rdAt (R:=R0_) 1 rfl))) rfl (dt rfl) (all_cons (oc (S.rdAt (R:=R0_) 1 rfl)) rfl) ?_;intro qf S;replace S:Sat D qf (Box Z 56 [oE,pf] :: Own R0_ [pf] pw :: Box pL 3 [i_ oT.1] :: Box b0 68 [oL] :: Own R3_ [oL] oT.2 :: Own R0_ [oE] oZ :: G0):=S;refine ag ?_;refine ⟨fun h=>(nomatch (show false=true from h)),?_⟩;refine cl (by kernel_rfl) ?_;refine tn t3 ?_;replace S:Sat D qf (Box Z 56 [oE,pf] :: Own R0_ [pf] pw :: Box b0 68 [oL] :: Own R3_ [oL] oT.2 :: Own R0_ [oE] oZ :: G0):=S.rems 6 [2] rfl;refine am (pM (i_ oN) pc (pa (i_ oN) (ag (bn q7 (tn pZ ?_)))));replace S:Sat D qf (Own R0_ [pf] pw :: Own R0_ [oE] oZ :: Box Z 56 [oE,pf] :: Box b0 68 [oL] :: Own R3_ [oL] oT.2 :: G0):=S.tops 5 [1,4,0,2,3] rfl;exact ⟨oL,oT.2,oE,oZ,pf,pw,oN,pr,o3,o7,oV,rfl,S,F⟩
  refine cf pG (aT (tx q6 (tx pZ ?_)));replace F:=exB F sc;refine bS tH (tn tF ?_);refine sR fun _ t7=>?_;refine pM (.pointer (some ⟨b0,0,none⟩)) qw (pe (.agg #[oz,U]) (aB (cs:=[oz,U]) qy rfl (aH (S.boxAt 2 rfl))) ?_);replace S:Sat D tJ (Box b0 68 [ow] :: Own R3_ [ow] oG :: Own R0_ [oz] o5 :: Own R0_ [U] oA :: Box Z 56 [oz,U] :: G0):=S.tops 5 [3,4,1,0] rfl;obtain ⟨qg,sY,F⟩:=ob F;refine aR kZ (eu S sY) (ca (ak rfl (ak rfl rfl))) (dt rfl) ?_;rintro _ qh ⟨pp,rfl,S⟩;refine ⟨_,rfl,?_⟩;replace S:Sat D qh (Box b0 68 [pp] :: Own R3_ [pp] qg.2 :: Box Z 56 [oz,U] :: G0):=S;refine pa (i_ qg.1) (en t7 (ai (aC rfl rfl ?_)));have hr:=Option.some.inj F;replace S:Sat D qh (Box b0 68 [pp] :: Own R3_ [pp] qg.2 :: G0):=S.rems 3 [2] rfl;exact ⟨pp,(congrArg (fun (r:Int × T4_)=>Ending.returned (i_ r.1)) hr :),Eq.mp (congrArg (fun (r:Int × T4_)=>Sat D qh (Box b0 68 [pp] :: Own R3_ [pp] r.2 :: G0)) hr :) S⟩
theorem fN {w0 : World} {D : World} {G0 : List Asn} {b0 : Nat} {u0 : Value} {a0 : List T2_} {u1 : Value} {a1 : List T0_} {a2 : Int} (ha1 : R1_.rd D [u1] a1) (hS : Sat D w0 (Box b0 68 [u0] :: Own R3_ [u0] a0 :: G0)) {N : Nat} {r : Int × T4_} (hF : aL N a0 a1 a2 = some r) :
    Calls Try.prog 35 #[.pointer (some ⟨b0, 0, none⟩), u1, .int .i64 a2] w0 fun e w' => ∃ (q0 : Value), e = .returned (.int .i64 r.1) ∧ Sat D w' (Box b0 68 [q0] :: Own R3_ [q0] r.2 :: G0) := fG N ha1 hS hF
theorem dz {w0:World} {u0:Value} {a0:List Int} (ha0:R0_.rd w0 [u0] a0) {N:Nat} {r:T0_} (F:ci N a0=some r): Calls Try.prog 36 #[u0] w0 fun e w'=>∃ (q0:Value),e=.returned (q0)∧Sat w0 w' [Own R0_ [q0] r] := by
 unfold ci at F;refine aI Try.func36 rfl rfl (dt rfl) ?_;have S:=Sat.start w0;refine sR fun _ ot=>?_;refine pa n_ (en ot ?_);refine sR fun _ ou=>?_;refine bF cK S (dt rfl) ?_;intro oy oz S ow;refine pm u0 ?_;obtain ⟨oA,U,F⟩:=ob F;obtain ⟨ox,oB,Y,Z,J⟩:=jy (S.up ha0);replace S:=S.ints (xs:=a0);refine aE rfl (dt rfl) rfl (dt rfl) S rfl (rfl.trans Y) rfl Z J U (dt rfl) ?_;intro ov D S;refine pa D (en ou (ai (aC rfl rfl ?_)));have hr:=Option.some.inj F;exact ⟨D,congrArg (fun (r:T0_)=>Ending.returned (D)) hr,Eq.mp (congrArg (fun (r:T0_)=>Sat w0 ov [Own R0_ [D] r]) hr) (S.keep 1)⟩
theorem gH {w0:World} {u0:Value} {a0:List Int} {u1:Value} {a1:List T0_} (ha0:R0_.rd w0 [u0] a0) (ha1:R1_.rd w0 [u1] a1) {N:Nat} {r:T5_} (F:cO N a0 a1=some r): Calls Try.prog 18 #[u0,u1] w0 fun e w'=>∃ (q0:Value) (q1:Value),e=.returned (.agg #[q0,q1])∧Sat w0 w' [Own R0_ [q0] r.1,Own R3_ [q1] r.2] := by
 unfold cO at F;refine aI Try.func18 rfl rfl (dt rfl) ?_;have S:=Sat.start w0;refine sR fun _ oB=>?_;refine be S (dt rfl) ?_;intro oM ot S oI;refine en oB ?_;refine sR fun _ oC=>?_;obtain ⟨oN,ox,F⟩:=ob F;refine iM (R:=R2_) (x0:=([],[])) rfl (dt rfl) rfl (fun _=>⟨_,_,[],[],rfl,rfl,.inl ⟨rfl,rfl,rfl⟩,.inl ⟨rfl,rfl,rfl⟩⟩) rfl rfl ox S (dt rfl) ?_;intro oO ou Y S oJ oH;refine pe (.agg #[(.slice (some ⟨ou,0,none⟩) Y Y)]) (cB [(0,[(.slice (some ⟨ou,0,none⟩) Y Y)])] [(.slice (some ⟨ou,0,none⟩) Y Y)] (d9 (aG rfl (oc (S.rdAt (R:=R3_) 0 rfl))) rfl) rfl) ?_;refine bY [(.slice (some ⟨ou,0,none⟩) Y Y)] rfl S (dt rfl) ?_;intro oP U S oK;refine pa (.pointer (some ⟨U,0,none⟩)) (en oC ?_);refine sR fun _ oD=>?_;refine pm (.pointer (some ⟨U,0,none⟩)) (pm u1 ?_);obtain ⟨Z,oy,F⟩:=ob F;refine aR gu (fN ha1 S oy) (ca (ak rfl (ak rfl (ak rfl rfl)))) (dt rfl) ?_;rintro _ oE ⟨D,rfl,S⟩;refine ⟨_,rfl,?_⟩;replace S:Sat w0 oE [Box U 68 [D],Own R3_ [D] Z.2,Box ot 32 [n_,n_]]:=S;refine en oD ?_;refine sg fun _ oF=>?_;obtain ⟨C,hCd⟩:∃ C:World → Prop,∀ w,C w ↔ ∃ G,Sat w0 w ([Box U 68 [D],Own R3_ [D] Z.2] ++ G):=⟨_,fun _=>Iff.rfl⟩;refine bR [0,1,2,3,4,5,6,7] C (by kernel_rfl) ?_;intro oQ oz;replace S:=S.ext oz;have hC:=(hCd _).2 ⟨_,S⟩;refine aP u0 0 rfl rfl hC (ay rfl (fun w' hw'=>by obtain ⟨_,S⟩:=(hCd _).1 hw'; exact (aF rfl))) ?_;refine aP (.pointer (some ⟨U,0,none⟩)) 2 rfl rfl hC (ay rfl (fun w' hw'=>by obtain ⟨_,S⟩:=(hCd _).1 hw'; exact (aF rfl))) ?_;refine aP (.pointer (some ⟨U,0,none⟩)) 3 rfl rfl hC (ay rfl (fun w' hw'=>by obtain ⟨_,S⟩:=(hCd _).1 hw'; exact (bu rfl))) ?_;refine aP (.pointer (some ⟨U,0 + 0,none⟩)) 4 rfl rfl hC (ay rfl (fun w' hw'=>by obtain ⟨_,S⟩:=(hCd _).1 hw'; exact (ae rfl))) ?_;refine aP D 5 rfl rfl hC (ay rfl (fun w' hw'=>by obtain ⟨_,S⟩:=(hCd _).1 hw'; exact (ac rfl ((S.boxAt 0 rfl) 0 _ rfl)))) ?_;refine aO 1 rfl ?_;obtain ⟨ov,oA,F⟩:=ob F;refine ec1 ib (dz (S.up ha0) oA) (ca (ak rfl rfl)) S fun oG J oL S=>?_;refine ag ?_;replace S:Sat w0 oG [Box U 68 [D],Own R3_ [D] Z.2,Own R0_ [J] ov,Box ot 32 [n_,n_]]:=S.tops 4 [1,2] rfl;have hC:=(hCd _).2 ⟨_,S⟩;refine ⟨fun _=>hC,?_⟩;refine aO 6 rfl ?_;refine pe (.agg #[J,D]) (cB [(0,[J]),(1,[D])] [J,D] (d9 (aG rfl (oc (S.rdAt (R:=R0_) 2 rfl))) (d9 (aG rfl (oc (S.rdAt (R:=R3_) 1 rfl))) rfl)) rfl) (ag ?_);refine ⟨fun _=>hC,?_⟩;refine aO 7 rfl ?_;refine aA (S.top 3 rfl) rfl [J,D] rfl rfl (dt rfl) (all_cons (oc (S.rdAt (R:=R0_) 2 rfl)) (all_cons (oc (S.rdAt (R:=R3_) 1 rfl)) rfl)) ?_;intro ow S;replace S:Sat w0 ow [Box ot 32 [J,D],Box U 68 [D],Own R3_ [D] Z.2,Own R0_ [J] ov]:=S;refine ag ?_;replace S:Sat w0 ow [Box U 68 [D],Own R3_ [D] Z.2,Box ot 32 [J,D],Own R0_ [J] ov]:=S.tops 4 [1,2] rfl;have hC:=(hCd _).2 ⟨_,S⟩;refine ⟨fun _=>hC,?_⟩;refine cl (by kernel_rfl) ?_;refine tn oF (ai ?_);refine gb (cs:=[J,D]) rfl rfl rfl (aH (S.boxAt 2 rfl))  ?_;replace S:Sat w0 ow [Own R0_ [J] ov,Own R3_ [D] Z.2,Box U 68 [D],Box ot 32 [J,D]]:=S.tops 4 [3,1] rfl;have hr:=Option.some.inj F;exact ⟨J,D,congrArg (fun (r:T5_)=>Ending.returned (.agg #[J,D])) hr,Eq.mp (congrArg (fun (r:T5_)=>Sat w0 ow [Own R0_ [J] r.1,Own R3_ [D] r.2]) hr) (S.keep 2)⟩
theorem dE {w0:World} {a0:Int} {u1:Value} {a1:List T0_} (ha1:R1_.rd w0 [u1] a1) {N:Nat} {r:T5_ × Bool} (F:bG N a0 a1=some r): Calls Try.prog 6 #[.agg #[i_ a0,u1]] w0 fun e w'=>∃ (q0:Value) (q1:Value),e=.returned (.tuple #[.agg #[q0,q1],.bool r.2])∧Sat w0 w' [Own R0_ [q0] r.1.1,Own R3_ [q1] r.1.2] := by
 unfold bG at F;refine aI Try.func6 rfl rfl (dt rfl) ?_;have S:=Sat.start w0;refine sR fun _ oQ=>?_;refine bY [i_ a0,u1] rfl S (dt rfl) ?_;intro pg Z S o9;refine be S (dt rfl) ?_;intro ph J S pb;refine pa (.bool false) (en oQ ?_);refine sg fun _ oH=>?_;refine sR fun _ oR=>?_;refine pe (.agg #[i_ a0,u1]) (aB (cs:=[i_ a0,u1]) rfl rfl (aH (S.boxAt 1 rfl))) ?_;obtain ⟨oS,oL,F⟩:=ob F;refine ec0 nF (fq (S.up ha1) oL) (ca (ak rfl rfl)) S fun oT pc S=>?_;refine pe (.bool (!oS)) (bP rfl) (en oR ?_);rcases oif F with ⟨ov,F⟩|⟨ov,F⟩
 ·refine cf (av ov) (sn oH ?_);refine sR fun _ oU=>?_;refine pa n_ (en oU ?_);refine sg fun _ oV=>?_;refine sR fun _ oW=>?_;refine pa (i_ 0) (en oW ?_);refine bg fun _ oX=>?_;replace S:=S.nil cK 3;obtain ⟨oY,hL,oM⟩:=ob F;refine aV (fun k e w=>∃ (ot:Value),∃ (ou:List Int),∃ (D:Int),e 1=.pointer (some ⟨Z,0,none⟩)∧e 2=.pointer (some ⟨J,0,none⟩)∧e 4=ot∧e 5=i_ D∧Sat w0 w [Own R0_ [ot] ou,Box J 32 [n_,n_],Box Z 26 [i_ a0,u1]]∧aX N k a0 a1 [] [] ou D=some oY) N ?_ ?_ ?_
  ·exact ⟨n_,[],0,rfl,rfl,rfl,rfl,S,hL⟩
  ·rintro e w ⟨_,_,_,_,_,_,_,_,hz⟩; exact nomatch (show none=some _ from hz)
  rintro k pi pj ⟨ot,ou,D,ow,ox,oF,oy,S,F⟩;refine gn fun _ oI=>?_;refine sg fun _ oJ=>?_;refine sR fun _ oZ=>?_;refine pM (i_ D) oy (pe (.pointer (some ⟨Z,0 + 0,none⟩)) (ae ow) (pe (i_ a0) (ac rfl ((S.boxAt 2 rfl) 0 _ rfl)) (pe (.bool (decide (D < a0))) (a8 rfl rfl) (en oZ ?_))));rcases oif F with ⟨oz,F⟩|⟨oz,F⟩
  ·refine ct oz (sn oJ ?_);refine sg fun _ o0=>?_;refine bg fun _ o3=>?_;refine am (pM ot oF (pM (i_ D) oy ?_));refine au [i_ D] rfl (by rfl) (dt rfl) rfl (dt rfl) S (dt rfl) ?_;intro o4 o5 S pd;obtain ⟨oK,oN,F⟩:=ob F;have oG:=S.boxRow 0 rfl;replace S:Sat w0 o4 [Own R0_ [ot] ou,Box o5 3 [i_ D],Box J 32 [n_,n_],Box Z 26 [i_ a0,u1]]:=S.top 1 rfl;replace S:=S.int D;replace S:=S.one;refine aE rfl (dt rfl) rfl (dt rfl) S rfl rfl rfl (by simp) oG oN (dt rfl) ?_;intro o6 oB S;refine pa oB (ag (bn o3 (tn o0 ?_)));replace S:Sat w0 o6 [Own R0_ [oB] oK,Box J 32 [n_,n_],Box Z 26 [i_ a0,u1]]:=S.rems 4 [1] rfl;refine am (pM (i_ D) oy ?_);obtain ⟨oC,oO,F⟩:=ob F;refine pe (i_ oC) (aS rfl rfl oO) (pa (i_ oC) (en oI ?_));replace S:=S.keep 3;exact ⟨oB,oK,oC,ow,ox,rfl,rfl,S,F⟩
  refine cf oz (aT (tx oJ (tx oI ?_)));replace F:=exB F oM;refine bS oX (tn oV ?_);refine sR fun _ o7=>?_;refine pM ot oF (pe (.pointer (some ⟨Z,0 + 1,none⟩)) (ae ow) (pe u1 (ac rfl ((S.boxAt 2 rfl) 1 _ rfl)) ?_));obtain ⟨oA,oP,F⟩:=ob F;refine aR nm (gH (S.rdAt (R:=R0_) 0 rfl) (S.up ha1) oP) (ca (ak rfl (ak rfl rfl))) (dt rfl) ?_;rintro _ pk ⟨U,Y,rfl,S'⟩;refine ⟨_,rfl,?_⟩;have pf:=S'.below;replace S:=S.call2 S';refine aA (S.top 3 rfl) ox [U,Y] rfl rfl (dt rfl) (all_cons (oc (S.rdAt (R:=R0_) 0 rfl)) (all_cons (oc (S.rdAt (R:=R3_) 1 rfl)) rfl)) ?_;intro oD S;replace S:Sat w0 oD [Box J 32 [U,Y],Own R0_ [U] oA.1,Own R3_ [Y] oA.2,Own R0_ [ot] ou,Box Z 26 [i_ a0,u1]]:=S;refine pa (.bool true) (en o7 (ai ?_));refine fb (cs:=[U,Y]) rfl ox rfl (aH (S.boxAt 0 rfl)) rfl ?_;replace S:Sat w0 oD [Own R0_ [U] oA.1,Own R3_ [Y] oA.2,Box J 32 [U,Y],Own R0_ [ot] ou,Box Z 26 [i_ a0,u1]]:=S.tops 5 [1,2] rfl;have hr:=Option.some.inj F;exact ⟨U,Y,congrArg (fun (r:T5_ × Bool)=>Ending.returned (.tuple #[.agg #[U,Y],.bool r.2])) hr,Eq.mp (congrArg (fun (r:T5_ × Bool)=>Sat w0 oD [Own R0_ [U] r.1.1,Own R3_ [Y] r.1.2]) hr) (S.keep 2)⟩
 refine ct (ax ov) ?_;refine sg fun _ o8=>?_;replace S:Sat w0 oT [Box J 32 [n_,n_]]:=S.rems 2 [1] rfl;refine am (pe (.agg #[n_,n_]) (cB [] [n_,n_] rfl rfl) ?_);refine aA (S.top 0 rfl) rfl [n_,n_] rfl rfl (dt rfl) (all_cons rfl (all_cons rfl rfl)) ?_;intro oE S;replace S:Sat w0 oE [Box J 32 [n_,n_]]:=S;refine pa (.bool false) (en o8 (ai (tr oH ?_)));replace S:=S.nil cK 3;replace S:=S.nil R2_ 56;refine fb (cs:=[n_,n_]) rfl rfl rfl (aH (S.boxAt 2 rfl)) rfl ?_;replace S:Sat w0 oE [Own R0_ [n_] [],Own R3_ [n_] [],Box J 32 [n_,n_]]:=S.tops 3 [1,0] rfl;have hr:=Option.some.inj F;exact ⟨n_,n_,congrArg (fun (r:T5_ × Bool)=>Ending.returned (.tuple #[.agg #[n_,n_],.bool r.2])) hr,Eq.mp (congrArg (fun (r:T5_ × Bool)=>Sat w0 oE [Own R0_ [n_] r.1.1,Own R3_ [n_] r.1.2]) hr) (S.keep 2)⟩
theorem hP {w0:World} {u0:Value} {a0:List T0_} {u1:Value} {a1:List T0_} (ha0:R1_.rd w0 [u0] a0) (ha1:R1_.rd w0 [u1] a1) {N:Nat} {r:Bool} (F:dA N a0 a1=some r): Calls Try.prog 22 #[u0,u1] w0 fun e w'=>e=.returned (.bool r)∧Ext w0 w' := by
 unfold dA at F;refine aI Try.func22 rfl rfl (dt rfl) ?_;have S:=Sat.start w0;refine sR fun _ oP=>?_;refine pa (.bool false) (en oP ?_);refine sg fun _ oB=>?_;refine sR fun _ oQ=>?_;refine pm u0 (pe (i_ (a0.length:Int)) (ap rfl ha0) (pm u1 (pe (i_ (a1.length:Int)) (ap rfl ha1) (pe (.bool ((a0.length:Int) != (a1.length:Int))) (bO rfl rfl) (en oQ ?_)))));rcases oif F with ⟨J,F⟩|⟨J,F⟩
 ·refine ct J ?_;refine sR fun _ oR=>?_;refine pa (.bool false) (en oR (ai (tr oB (aC rfl rfl ?_))));exact rB F S
 refine cf J (sn oB ?_);refine sg fun _ oC=>?_;refine sR fun _ oS=>?_;refine pm u0 (pe (i_ (a0.length:Int)) (ap rfl ha0) (pm (i_ 0) (en oS ?_)));refine bg fun _ oD=>?_;obtain ⟨oT,hL,ov⟩:=ob F;refine aV (fun k e w=>∃ (D:Int),e 0=u0∧e 1=u1∧e 12=i_ (a0.length:Int)∧e 13=i_ D∧Sat w0 w []∧bL N k a0 a1 (a0.length:Int) D=some oT) N ?_ ?_ ?_
 ·exact ⟨0,rfl,rfl,rfl,rfl,S,hL⟩
 ·rintro e w ⟨_,_,_,_,_,_,hz⟩; exact nomatch (show none=some _ from hz)
 rintro k o5 o6 ⟨D,ow,ox,oy,U,S,F⟩;refine gn fun _ ot=>?_;refine sR fun _ oU=>?_;refine pe (.bool (decide (D < (a0.length:Int)))) (a8 U oy) (en oU ?_);refine sg fun _ oE=>?_;rcases oif F with ⟨Y,F⟩|⟨Y,F⟩
 ·refine ct Y (sn oE ?_);refine sg fun _ oF=>?_;refine bg fun _ oG=>?_;refine sR fun _ oV=>?_;refine pM (i_ D) U (pa (i_ D) (en oV ?_));refine sg fun _ oW=>?_;refine bA (by kernel_rfl) (by kernel_rfl) ?_;refine qM u0 ow (qm (i_ D) ?_);obtain ⟨o7,oI,F⟩:=ob F;refine aJ (wA:=w0) rfl ha0 rfl (dt rfl) rfl oI (dt rfl) ?_;intro o8 o3 o9 oz oJ;obtain ⟨oX,rfl⟩:=ar oz;refine qe oX (ac rfl ((ah S.below oJ) 0 _ rfl)) (qM u1 ox (qm (i_ D) ?_));obtain ⟨pb,oK,F⟩:=ob F;refine aJ (wA:=w0) rfl ha1 rfl (dt rfl) rfl oK (dt rfl) ?_;intro pc o4 pd oA oL;obtain ⟨oY,rfl⟩:=ar oA;refine qe oY (ac rfl ((ah S.below oL) 0 _ rfl)) ?_;obtain ⟨oH,oM,F⟩:=ob F;refine b6 (.bool oH) ir (fun w' hw'=>dx (bi (S.up oz) hw') (bi (S.up oA) hw') oM) (ca (ak rfl (ak rfl rfl))) (dt rfl) ?_;refine qe (.bool (!oH)) (bP rfl) (bf ?_);intro pf oN;replace S:=S.ext oN;refine tn oW ?_;rcases oif F with ⟨Z,F⟩|⟨Z,F⟩
  ·refine cf (av Z) (aZ (bn oG (tn oF (am ?_))));obtain ⟨ou,oO,F⟩:=ob F;refine pe (i_ ou) (aS U rfl oO) (pm (i_ ou) (en ot ?_));replace S:=S.keep 0;exact ⟨ou,ow,ox,oy,rfl,S,F⟩
  refine ct (ax Z) ?_;refine sR fun _ oZ=>?_;refine pa (.bool false) (en oZ (ai (br oG (tr oF (tr ot (br oD (tr oC ?_)))))));replace F:=exL F ov;refine aC rfl rfl ?_;exact rB F S
 refine cf Y (aT (tx oE (tx ot ?_)));replace F:=exA F ov;refine bS oD (tn oC ?_);refine sR fun _ o0=>?_;refine pa (.bool true) (en o0 (ai (aC rfl rfl ?_)));exact rB F S
theorem fE {w0:World} {a0:Int} {u1:Value} {a1:List T0_} {a2:Int} {u3:Value} {a3:List T0_} (ha1:R1_.rd w0 [u1] a1) (ha3:R1_.rd w0 [u3] a3) {N:Nat} {r:Bool} (F:cy N a0 a1 a2 a3=some r): Calls Try.prog 8 #[.agg #[i_ a0,u1],.agg #[i_ a2,u3]] w0 fun e w'=>e=.returned (.bool r)∧Ext w0 w' := by
 unfold cy at F;refine aI Try.func8 rfl rfl (dt rfl) ?_;have S:=Sat.start w0;refine sR fun _ ou=>?_;refine bY [i_ a0,u1] rfl S (dt rfl) ?_;intro oy J S ov;refine bY [i_ a2,u3] rfl S (dt rfl) ?_;intro oz U S ow;refine pa (.bool false) (en ou ?_);refine sR fun _ Y=>?_;refine pe (.pointer (some ⟨J,0 + 0,none⟩)) (ae rfl) (pe (i_ a0) (ac rfl ((S.boxAt 1 rfl) 0 _ rfl)) (pe (.pointer (some ⟨U,0 + 0,none⟩)) (ae rfl) (pe (i_ a2) (ac rfl ((S.boxAt 0 rfl) 0 _ rfl)) (pe (.bool (a0 == a2)) (bB rfl rfl) (pm (.bool (a0 == a2)) ?_)))));rcases oif F with ⟨D,F⟩|⟨D,F⟩
 ·refine ei D (pe (.pointer (some ⟨J,0 + 1,none⟩)) (ae rfl) (ei D (pe u1 (ac rfl ((S.boxAt 1 rfl) 1 _ rfl)) (ei D (pe (.pointer (some ⟨U,0 + 1,none⟩)) (ae rfl) (ei D (pe u3 (ac rfl ((S.boxAt 0 rfl) 1 _ rfl)) (ei D ?_))))))));obtain ⟨Z,ot,F⟩:=ob F;refine ec0 nt (hP (S.up ha1) (S.up ha3) ot) (ca (ak rfl (ak rfl rfl))) S fun oA ox S=>?_;refine pe (.bool Z) (aw rfl D rfl) (pa (.bool Z) (en Y (ai (aC rfl rfl ?_))));exact rB F S
 refine eo D (eo D (eo D (eo D (eo D (pe (.bool false) (az rfl D rfl) (pa (.bool false) (en Y (ai (aC rfl rfl ?_)))))))));exact rB F S
theorem dk {w0:World} {a0:Int} {u1:Value} {a1:List T0_} {a2:Int} {u3:Value} {a3:List T0_} (ha1:R1_.rd w0 [u1] a1) (ha3:R1_.rd w0 [u3] a3) {N:Nat} {r:Bool} (F:bH N a0 a1 a2 a3=some r): Calls Try.prog 9 #[.agg #[i_ a0,u1],.agg #[i_ a2,u3]] w0 fun e w'=>e=.returned (.bool r)∧Ext w0 w' := by
 unfold bH at F;refine aI Try.func9 rfl rfl (dt rfl) ?_;have S:=Sat.start w0;refine sR fun _ oT=>?_;refine bY [i_ a0,u1] rfl S (dt rfl) ?_;intro pd U S o8;refine bY [i_ a2,u3] rfl S (dt rfl) ?_;intro oE Z S o9;refine pa (.bool false) (en oT ?_);refine sg fun _ ox=>?_;refine sR fun _ oF=>?_;refine pe (.pointer (some ⟨U,0 + 0,none⟩)) (ae rfl) (pe (i_ a0) (ac rfl ((S.boxAt 1 rfl) 0 _ rfl)) (pe (.pointer (some ⟨Z,0 + 0,none⟩)) (ae rfl) (pe (i_ a2) (ac rfl ((S.boxAt 0 rfl) 0 _ rfl)) (pe (.bool (a0 != a2)) (bO rfl rfl) (pm (.bool (a0 != a2)) ?_)))));rcases oif F with ⟨D,F⟩|⟨D,F⟩
 ·refine eo D (eo D (eo D (eo D (eo D (eo D (eo D (pe (.bool true) (aw rfl D rfl) (en oF (ct rfl ?_)))))))));refine sg fun _ oU=>?_;replace S:Sat w0 oE []:=S.rems 2 [0,1] rfl;refine am (pa (.bool false) (en oU (ai (tr ox (aC rfl rfl ?_)))));exact rB F S
 refine ei D (pe (.pointer (some ⟨U,0 + 1,none⟩)) (ae rfl) (ei D (pe u1 (ac rfl ((S.boxAt 1 rfl) 1 _ rfl)) (ei D (pe (i_ (a1.length:Int)) (ap rfl ha1) (ei D (pe (.pointer (some ⟨Z,0 + 1,none⟩)) (ae rfl) (ei D (pe u3 (ac rfl ((S.boxAt 0 rfl) 1 _ rfl)) (ei D (pe (i_ (a3.length:Int)) (ap rfl ha3) (ei D (pe (.bool ((a1.length:Int) != (a3.length:Int))) (bO rfl rfl) (pe (.bool ((a1.length:Int) != (a3.length:Int))) (az rfl D rfl) (en oF ?_)))))))))))))));rcases oif F with ⟨ot,F⟩|⟨ot,F⟩
 ·refine ct ot ?_;refine sg fun _ oV=>?_;replace S:Sat w0 oE []:=S.rems 2 [0,1] rfl;refine am (pa (.bool false) (en oV (ai (tr ox (aC rfl rfl ?_)))));exact rB F S
 refine cf ot (sn ox ?_);refine sg fun _ oG=>?_;refine sR fun _ oW=>?_;refine pa (i_ 0) (en oW ?_);refine bg fun _ oH=>?_;obtain ⟨oX,hL,oA⟩:=ob F;refine aV (fun k e w=>∃ (J:Int),e 2=.pointer (some ⟨U,0,none⟩)∧e 3=.pointer (some ⟨Z,0,none⟩)∧e 5=i_ J∧Sat w0 w [Box Z 26 [i_ a2,u3],Box U 26 [i_ a0,u1]]∧bo N k a0 a1 a2 a3 J=some oX) N ?_ ?_ ?_
 ·exact ⟨0,rfl,rfl,rfl,S,hL⟩
 ·rintro e w ⟨_,_,_,_,_,hz⟩; exact nomatch (show none=some _ from hz)
 rintro k pf oY ⟨J,ou,oB,Y,S,F⟩;refine gn fun _ oy=>?_;refine sg fun _ oI=>?_;refine sR fun _ oZ=>?_;refine pM (i_ J) Y (pe (.pointer (some ⟨U,0 + 1,none⟩)) (ae ou) (pe u1 (ac rfl ((S.boxAt 1 rfl) 1 _ rfl)) (pe (i_ (a1.length:Int)) (ap rfl ha1) (pe (.bool (decide (J < (a1.length:Int)))) (a8 rfl rfl) (en oZ ?_)))));rcases oif F with ⟨ov,F⟩|⟨ov,F⟩
 ·refine ct ov (sn oI ?_);refine sg fun _ oJ=>?_;refine bg fun _ oK=>?_;refine sg fun _ o0=>?_;refine bA (by kernel_rfl) (by kernel_rfl) ?_;refine qe (.pointer (some ⟨U,0 + 1,none⟩)) (ae ou) (qe u1 (ac rfl ((S.boxAt 1 rfl) 1 _ rfl)) (qM (i_ J) Y ?_));obtain ⟨pg,oM,F⟩:=ob F;refine aJ (wA:=w0) rfl ha1 rfl (dt rfl) rfl oM (dt rfl) ?_;intro ph pb pi oC oN;obtain ⟨o3,rfl⟩:=ar oC;refine qe o3 (ac rfl ((ah S.below oN) 0 _ rfl)) (qe (.pointer (some ⟨Z,0 + 1,none⟩)) (ae oB) (qe u3 (ac rfl ((S.boxAt 0 rfl) 1 _ rfl)) (qM (i_ J) Y ?_)));obtain ⟨pj,oO,F⟩:=ob F;refine aJ (wA:=w0) rfl ha3 rfl (dt rfl) rfl oO (dt rfl) ?_;intro pk pc pn oD oP;obtain ⟨o4,rfl⟩:=ar oD;refine qe o4 (ac rfl ((ah S.below oP) 0 _ rfl)) ?_;obtain ⟨oL,oQ,F⟩:=ob F;refine b6 (i_ oL) de (fun w' hw'=>aN (bi (S.up oC) hw') (bi (S.up oD) hw') oQ) (ca (ak rfl (ak rfl rfl))) (dt rfl) ?_;refine qe (.bool (oL != 0)) (bO rfl rfl) (bf ?_);intro o5 oR;replace S:=S.ext oR;refine tn o0 ?_;rcases oif F with ⟨ow,F⟩|⟨ow,F⟩
  ·refine ct ow ?_;refine sg fun _ o6=>?_;replace S:Sat w0 o5 []:=S.rems 2 [0,1] rfl;refine am (pa (.bool false) (en o6 (ai (br oK (tr oJ (tr oy (br oH (tr oG ?_))))))));replace F:=exL F oA;refine aC rfl rfl ?_;exact rB F S
  refine cf ow (aZ (bn oK (tn oJ (am (pM (i_ J) Y ?_)))));obtain ⟨oz,oS,F⟩:=ob F;refine pe (i_ oz) (aS rfl rfl oS) (pa (i_ oz) (en oy ?_));replace S:=S.keep 2;exact ⟨oz,ou,oB,rfl,S,F⟩
 refine cf ov (aT (tx oI (tx oy ?_)));replace F:=exA F oA;refine bS oH (tn oG ?_);refine sg fun _ o7=>?_;replace S:Sat w0 oY []:=S.rems 2 [0,1] rfl;refine am (pa (.bool true) (en o7 (ai (aC rfl rfl ?_))));exact rB F S
theorem iy {w0:World} {u0:Value} {a0:List Int} {a1:Int} (ha0:R0_.rd w0 [u0] a0) {N:Nat} {r:Int} (F:dG N a0 a1=some r): Calls Try.prog 48 #[u0,i_ a1] w0 fun e w'=>e=.returned (i_ r)∧Ext w0 w' := by
 unfold dG at F;refine aI Try.func48 rfl rfl (dt rfl) ?_;have S:=Sat.start w0;refine sR fun _ oI=>?_;refine pa (i_ 0) (en oI ?_);refine sg fun _ oz=>?_;refine sR fun _ oJ=>?_;refine pm u0 (pe (i_ (a0.length:Int)) (ap rfl ha0) (pm (i_ 0) (en oJ ?_)));refine bg fun _ oA=>?_;obtain ⟨oK,hL,ov⟩:=ob F;refine aV (fun k e w=>∃ (D:Int),e 1=i_ a1∧e 7=u0∧e 8=i_ (a0.length:Int)∧e 9=i_ D∧Sat w0 w []∧dg N k a1 a0 (a0.length:Int) D=some oK) N ?_ ?_ ?_
 ·exact ⟨0,rfl,rfl,rfl,rfl,S,hL⟩
 ·rintro e w ⟨_,_,_,_,_,_,hz⟩; exact nomatch (show none=some _ from hz)
 rintro k oR oS ⟨D,ow,ox,oy,J,S,F⟩;refine gn fun _ ot=>?_;refine sR fun _ oL=>?_;refine pe (.bool (decide (D < (a0.length:Int)))) (a8 J oy) (en oL ?_);refine sg fun _ oB=>?_;rcases oif F with ⟨U,F⟩|⟨U,F⟩
 ·refine ct U (sn oB ?_);refine sg fun _ oC=>?_;refine bg fun _ oD=>?_;refine sR fun _ oM=>?_;refine pM (i_ D) J ?_;obtain ⟨Y,oE,F⟩:=ob F;refine aD (wA:=w0) ox ha0 rfl (dt rfl) J oE (dt rfl) ?_;intro oT oQ oU oF oG;obtain rfl:=oF;refine pe (i_ Y) (ac rfl ((ah S.below oG) 0 _ rfl)) (pa (i_ D) (pa (i_ Y) (en oM ?_)));refine sR fun _ oN=>?_;refine pm (i_ Y) (pM (i_ a1) ow (pe (.bool (Y == a1)) (bB rfl rfl) (en oN ?_)));rcases oif F with ⟨Z,F⟩|⟨Z,F⟩
  ·refine ct Z ?_;refine sR fun _ oO=>?_;refine pm (i_ D) (pa (i_ D) (en oO (ai (br oD (tr oC (tr ot (br oA (tr oz ?_))))))));replace F:=exL F ov;refine aC rfl rfl ?_;exact rI F S
  refine cf Z (aZ (bn oD (tn oC (am ?_))));obtain ⟨ou,oH,F⟩:=ob F;refine pe (i_ ou) (aS J rfl oH) (pm (i_ ou) (en ot ?_));replace S:=S.keep 0;exact ⟨ou,ow,ox,oy,rfl,S,F⟩
 refine cf U (aT (tx oB (tx ot ?_)));replace F:=exA F ov;refine bS oA (tn oz ?_);refine sR fun _ oP=>?_;refine pa (i_ (-1)) (en oP (ai (aC rfl rfl ?_)));exact rI F S
theorem iI {w0:World} {u0:Value} {a0:List Int} {a1:Int} (ha0:R0_.rd w0 [u0] a0) {N:Nat} {r:Bool} (F:d6 N a0 a1=some r): Calls Try.prog 45 #[u0,i_ a1] w0 fun e w'=>e=.returned (.bool r)∧Ext w0 w' := by
 unfold d6 at F;refine aI Try.func45 rfl rfl (dt rfl) ?_;have S:=Sat.start w0;refine sR fun _ U=>?_;refine pa (.bool false) (en U ?_);refine sR fun _ Y=>?_;refine pm u0 (pm (i_ a1) ?_);obtain ⟨D,J,F⟩:=ob F;refine ec0 nw (iy (S.up ha0) J) (ca (ak rfl (ak rfl rfl))) S fun ot Z S=>?_;refine pe (.bool (decide (0 ≤ D))) (fW rfl rfl) (pa (.bool (decide (0 ≤ D))) (en Y (ai (aC rfl rfl ?_))));exact rB F S
theorem ia {w0:World} {u0:Value} {a0:List Int} {a1:Int} (ha0:R0_.rd w0 [u0] a0) {N:Nat} {r:Bool} (F:dJ N a0 a1=some r): Calls Try.prog 38 #[u0,i_ a1] w0 fun e w'=>e=.returned (.bool r)∧Ext w0 w' := by
 unfold dJ at F;refine aI Try.func38 rfl rfl (dt rfl) ?_;have S:=Sat.start w0;refine sR fun _ oR=>?_;refine pa (.bool false) (en oR ?_);refine sg fun _ ow=>?_;refine sR fun _ oS=>?_;refine pm u0 (pe (i_ (a0.length:Int)) (ap rfl ha0) (pm (i_ 0) (en oS ?_)));refine bg fun _ ox=>?_;obtain ⟨oT,hL,Y⟩:=ob F;refine aV (fun k e w=>∃ (J:Int),e 0=u0∧e 1=i_ a1∧e 7=u0∧e 8=i_ (a0.length:Int)∧e 9=i_ J∧Sat w0 w []∧bZ N k a0 a1 a0 (a0.length:Int) J=some oT) N ?_ ?_ ?_
 ·exact ⟨0,rfl,rfl,rfl,rfl,rfl,S,hL⟩
 ·rintro e w ⟨_,_,_,_,_,_,_,hz⟩; exact nomatch (show none=some _ from hz)
 rintro k o6 o7 ⟨J,oB,oC,oD,oE,U,S,F⟩;refine gn fun _ Z=>?_;refine sR fun _ oU=>?_;refine pe (.bool (decide (J < (a0.length:Int)))) (a8 U oE) (en oU ?_);refine sg fun _ oF=>?_;rcases oif F with ⟨ot,F⟩|⟨ot,F⟩
 ·refine ct ot (sn oF ?_);refine sg fun _ oy=>?_;refine bg fun _ oz=>?_;refine sR fun _ oV=>?_;refine pM (i_ J) U ?_;obtain ⟨ou,oI,F⟩:=ob F;refine aD (wA:=w0) oD ha0 rfl (dt rfl) U oI (dt rfl) ?_;intro o8 o3 o9 oJ oK;obtain rfl:=oJ;refine pe (i_ ou) (ac rfl ((ah S.below oK) 0 _ rfl)) (pa (i_ J) (pa (i_ ou) (en oV ?_)));refine sR fun _ oG=>?_;refine pm (i_ ou) (pM (i_ a1) oC ?_);obtain ⟨oW,oL,F⟩:=ob F;refine pe (i_ oW) (cd rfl rfl oL) ?_;obtain ⟨oH,oM,F⟩:=ob F;refine ec0 gG (dq oM) (ca (ak rfl (ak rfl (ak rfl rfl)))) S fun pb o4 S=>?_;refine pe (.bool (!oH)) (bP rfl) (pm (.bool (!oH)) ?_);rcases oif F with ⟨D,F⟩|⟨D,F⟩
  ·refine ei (av D) (pM u0 oB (ei (av D) (pm (i_ J) (ei (av D) ?_))));obtain ⟨pc,oN,F⟩:=ob F;refine cq (wA:=w0) rfl rfl ha0 (.inr ⟨rfl,rfl⟩) (.inl (congrArg some rfl)) oN (dt rfl) ?_;intro pd oO;refine ei (av D) (pm (i_ ou) (ei (av D) ?_));obtain ⟨oX,oP,F⟩:=ob F;refine ec0 nD (iI (S.up oO) oP) (ca (ak rfl (ak rfl rfl))) S fun pf o5 S=>?_;refine pe (.bool oX) (az rfl (av D) rfl) (en oG ?_);rcases oif F with ⟨ov,F⟩|⟨ov,F⟩
   ·refine ct ov ?_;refine sR fun _ oY=>?_;refine pa (.bool false) (en oY (ai (br oz (tr oy (tr Z (br ox (tr ow ?_)))))));replace F:=exL F Y;refine aC rfl rfl ?_;exact rB F S
   refine cf ov (aZ (bn oz (tn oy (am ?_))));obtain ⟨oA,oQ,F⟩:=ob F;refine pe (i_ oA) (aS U rfl oQ) (pm (i_ oA) (en Z ?_));replace S:=S.keep 0;exact ⟨oA,oB,oC,oD,oE,rfl,S,F⟩
  refine eo (ax D) (eo (ax D) (eo (ax D) (eo (ax D) (eo (ax D) (pe (.bool true) (aw rfl (ax D) rfl) (en oG (ct rfl ?_)))))));refine sR fun _ oZ=>?_;refine pa (.bool false) (en oZ (ai (br oz (tr oy (tr Z (br ox (tr ow ?_)))))));replace F:=exL F Y;refine aC rfl rfl ?_;exact rB F S
 refine cf ot (aT (tx oF (tx Z ?_)));replace F:=exA F Y;refine bS ox (tn ow ?_);refine sR fun _ o0=>?_;refine pa (.bool true) (en o0 (ai (aC rfl rfl ?_)));exact rB F S

end Go.Proofs.Ytcpkiphiaebkmaa
