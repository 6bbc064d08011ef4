/- Plain laws: the joins: what they come to. -/
import Derived.Test.YtoijldeajagjjaaGreatV1
namespace Go.Proofs.YtoijldeajagjjaaGreat
open Go.RowKit

def iK (ts:List nJ):Bool:=ts.any fun t=>decide (t.2.length=0)
def okQ (ts:List aV) (n:Int) (atoms:List aS) (out order:List Int):Bool:=c9 ts n atoms out&&jE n atoms out order
abbrev su:=(Int × aG) × Int × Bool
def nt:su:=((0,[]),0,false)
def kL (k:Int) (w:aG × Int):su:=bif decide ((w.1.length:Int)≤4000) then ((k,w.1),w.2,true) else nt
def f6 (ts:List aV) (n:Int) (atoms:List aS) (out order:List Int):su :=
 bif okQ ts n atoms out order then (bif iK (bv ts order atoms) then ((n,[]),0,true) else kL n (bu (aY ts order atoms) n.toNat [])) else nt
def dE (out order:List Int):List Int:=out.map (cb order)
def q8 (j:su) (out order:List Int):(Int × aG) × Bool:=bif j.2.2 then ir j.1.1 j.1.2 (dE out order) else hX
theorem kZ {f:Nxt} (hf:NxtOk f) {k:Nat} (hk:k≤5):cC (bu f k []).1∧(∀ r∈(bu f k []).1,r.length=k∧bk r=true)∧iq (bu f k []).1:=by
 have h1:=mE hf k []
 have hp:16 ^ k≤16 ^ 5:=Nat.pow_le_pow_right (by decide) (by omega)
 have h2:∀ r∈(bu f k []).1,r.length=k∧bk r=true:=fun r hr=>by
  obtain ⟨s,e1,e⟩:=jR hr
  exact ⟨by rw [e1];exact e,sx hf rfl hr⟩
 exact ⟨⟨by omega,fun r hr=>⟨by have:=(h2 r hr).1;omega,fun _ _=>trivial⟩⟩,h2,ub hf k []⟩
theorem zg {f:Nxt} (hf:NxtOk f) {k:Nat} (hk:k≤5):eB (k:Int) (bu f k []).1=((kL k (bu f k [])).1,(kL k (bu f k [])).2.2):=by
 obtain ⟨h1,h2,h3⟩:=kZ hf hk
 rw [v8 (by omega) h1.1 (fun r hr=>by have:=h2 r hr;exact ⟨by omega,this.2⟩) h3]
 unfold kL
 cases decide (((bu f k []).1.length:Int)≤4000) <;> rfl
theorem yd {f:Nxt} (hf:NxtOk f) {k:Nat} (hk:k≤5):cC (kL k (bu f k [])).1.2:=by
 unfold kL
 cases decide (((bu f k []).1.length:Int)≤4000)
 ·exact ⟨by simp [nt],by simp [nt]⟩
 ·exact (kZ hf hk).1
theorem uz {ts:List aV} {n:Int} {atoms:List aS} {out order:List Int} (h:okQ ts n atoms out order=true):∃ m:Nat,n=(m:Int)∧QFor ts m atoms order∧dS n atoms out=true:=by
 unfold okQ at h
 rw [Bool.and_eq_true] at h
 obtain ⟨m,e,q⟩:=uW h.1 h.2
 refine ⟨m,e,q,?_⟩
 have:=h.1
 unfold c9 at this
 rw [Bool.and_eq_true] at this
 exact this.1
theorem sV {ts:List aV} {n:Int} {atoms:List aS} {out order:List Int}:cC (f6 ts n atoms out order).1.2:=by
 unfold f6
 cases h:okQ ts n atoms out order with
 | false=>exact ⟨by simp [nt],by simp [nt]⟩
 | true =>
  obtain ⟨m,rfl,q,_⟩:=uz h
  cases iK (bv ts order atoms)
  ·exact yd (iT q) q.n5
  ·exact ⟨by simp,by simp⟩
theorem yX {n:Int} {rows:aG} {cols:List Int} (h:cC rows) (hc:cols.length≤1048576):cC (ir n rows cols).1.2:=by
 unfold ir
 cases aZ n rows&&(decide ((cols.length:Int)≤5)&&fB n cols)
 ·exact ⟨by simp [hX],by simp [hX]⟩
 ·refine xv ⟨by rw [List.length_map];exact h.1,fun r hr=>?_⟩
  obtain ⟨x,_,rfl⟩:=List.mem_map.1 hr
  exact ⟨by rw [lj];exact hc,fun _ _=>trivial⟩
theorem zu {j:su} {out order:List Int} (h:cC j.1.2) (ho:okI out):cC (q8 j out order).1.2:=by
 unfold q8
 cases j.2.2
 ·exact ⟨by simp [hX],by simp [hX]⟩
 ·exact yX h (by unfold dE;rw [List.length_map];exact ho.1)
theorem oe {α:Type} (p:α→Bool):∀ xs:List α,(xs.all fun x=>!p x)=!xs.any p
 | []=>rfl
 | x :: xs=>by rw [List.all_cons,List.any_cons,oe p xs,Bool.not_or]
section
variable {N:Nat}
theorem uN (hN:1073741824≤N) {ts:List nJ} (hl:ts.length≤1048576):ig N ts=some (iK ts):=by
 have h:=gP (L:=fun k i=>dD N k ts (ts.length:Int) i) ts.length (by omega) true (fun i=>if h:i<ts.length then !decide (ts[i].2.length=0) else true) (ts.length:Int)
  (fun k i h=>by
   show dD N (k+1) ts (ts.length:Int) (i:Int)=_
   rw [dD,dlt h,cond_true,aN h,bs,show ((ts[i].2.length:Int) == 0)=decide (ts[i].2.length=0) from na _ 0,ad1 (by omega),bs]
   simp only [dif_pos h]
   cases decide (ts[i].2.length=0) <;> rfl)
  (fun k=>by
   show dD N (k+1) ts (ts.length:Int) (ts.length:Int)=_
   rw [dD,dge (by omega),cond_false]) N 0 (by omega) (by omega)
 rw [Nat.sub_zero,gH ts (fun t=>!decide (t.2.length=0)) _ (fun i hi=>by rw [dif_pos hi]),oe] at h
 have h':dD N N ts (ts.length:Int) 0=some (bif !iK ts then .inr (ts.length:Int) else .inl true):=h
 unfold ig
 rw [h',bs]
 cases iK ts <;> rfl
theorem wg (hN:1073741824≤N) {ts:List nJ} (hl:ts.length≤1048576):iD N ts=some (iK ts):=by
 have h:=gP (L:=fun k i=>dO N k ts i) ts.length (by omega) true (fun i=>if h:i<ts.length then !decide (ts[i].2.length=0) else true) (ts.length:Int)
  (fun k i h=>by
   show dO N (k+1) ts (i:Int)=_
   rw [dO,dlt h,cond_true,aN h,bs,show ((ts[i].2.length:Int) == 0)=decide (ts[i].2.length=0) from na _ 0,ad1 (by omega),bs]
   simp only [dif_pos h]
   cases decide (ts[i].2.length=0) <;> rfl)
  (fun k=>by
   show dO N (k+1) ts (ts.length:Int)=_
   rw [dO,dge (by omega),cond_false]) N 0 (by omega) (by omega)
 rw [Nat.sub_zero,gH ts (fun t=>!decide (t.2.length=0)) _ (fun i hi=>by rw [dif_pos hi]),oe] at h
 have h':dO N N ts 0=some (bif !iK ts then .inr (ts.length:Int) else .inl true):=h
 unfold iD
 rw [h',bs]
 cases iK ts <;> rfl
theorem uF (ts:List aV) (n:Int) (atoms:List aS) (out order:List Int):vO ts n atoms out order=bif okQ ts n atoms out order then (bv ts order atoms,true) else ([],false):=rfl
theorem lw (hM:1073742848≤N) {ts:List aV} {n:Int} {atoms:List aS} {out order:List Int} (ht:iU ts) (ha:cx atoms) (ho:okI out) (hr:okI order):fZ N ts n atoms out order=some (f6 ts n atoms out order):=by
 unfold fZ f6
 rw [qv hM ht ha ho hr,bs,uF]
 cases h:okQ ts n atoms out order with
 | false=>rfl
 | true =>
  obtain ⟨m,rfl,q,_⟩:=uz h
  have h4:=q.a4
  rw [cond_true,cond_true]
  show ((ig N (bv ts order atoms)).bind _)=_
  rw [uN (by omega) (by rw [lz];omega),bs]
  cases iK (bv ts order atoms) with
  | true=>rfl
  | false =>
   rw [cond_false,cond_false]
   show ((cr N (m:Int) atoms out (bv ts order atoms) order (m:Int)).bind _)=_
   rw [vF (by omega) q ha (Nat.le_refl _),bs]
   unfold kL
   rw [show ((m:Nat):Int).toNat=m from rfl]
   show (bif decide (((bu (aY ts order atoms) m []).1.length:Int)≤4000) then _ else _)=_
   cases decide (((bu (aY ts order atoms) m []).1.length:Int)≤4000) <;> rfl
theorem pb (hM:1073742848≤N) {ts:List aV} {n:Int} {atoms:List aS} {out order:List Int} (ht:iU ts) (ha:cx atoms) (ho:okI out) (hr:okI order):gW N ts n atoms out order=some (f6 ts n atoms out order):=by
 unfold gW f6
 rw [qp hM ht ha ho hr,bs,uF]
 cases h:okQ ts n atoms out order with
 | false=>rfl
 | true =>
  obtain ⟨m,rfl,q,hq⟩:=uz h
  have h4:=q.a4
  have h5:=q.n5
  have hol:=q.ol
  rw [cond_true,cond_true]
  show ((iD N (bv ts order atoms)).bind _)=_
  rw [wg (by omega) (by rw [lz];omega),bs,hol]
  cases iK (bv ts order atoms) with
  | true=>rfl
  | false =>
   obtain ⟨w1,_,_⟩:=kZ (iT q) h5
   rw [cond_false,cond_false]
   show ((db N (bv ts order atoms) (m:Int) atoms out order []).bind _)=_
   rw [xb q ha ho hq m N [] (by simp) (by omega),bs,gj hM w1,bs,zg (iT q) h5]
   unfold kL
   rw [show ((m:Nat):Int).toNat=m from rfl]
   cases decide (((bu (aY ts order atoms) m []).1.length:Int)≤4000) <;> rfl
theorem yt (hN:1073741824≤N) {n:Int} {atoms:List aS} {out order:List Int} (ho:okI out) (hr:okI order):kN N n atoms out order=some (dE out order):=by
 have hol:=ho.1
 have h:=dz (fun k (o:List Int) i=>dT N k order o out (out.length:Int) i) out.length (fun i=>dE (out.take i) order) (dE out order,(out.length:Int))
  (fun k i h=>by
   show dT N (k+1) order (dE (out.take i) order) out (out.length:Int) (i:Int)=dT N k order (dE (out.take (i+1)) order) out (out.length:Int) ((i+1:Nat):Int)
   unfold dE
   rw [dT,dlt h,cond_true,aN h,bs,mX hN hr.1,bs,bp (by decide) (by rw [List.length_map,List.length_take,List.length_singleton];omega),bs,ad1 (by omega),bs,mZ h])
  (fun k=>by
   show dT N (k+1) order (dE (out.take out.length) order) out (out.length:Int) (out.length:Int)=_
   rw [dT,dge (by omega),cond_false,List.take_length]) N 0 (by omega) (by omega)
 have h':dT N N order [] out (out.length:Int) 0=_:=h
 unfold kN
 rw [h',bs,lpB]
theorem mL (hM:1073742848≤N) {ts:List aV} {n:Int} {atoms:List aS} {out order:List Int} (ht:iU ts) (ha:cx atoms) (ho:okI out) (hr:okI order):dL N ts n atoms out order=some (q8 (f6 ts n atoms out order) out order):=by
 have hok:=sV (ts:=ts) (n:=n) (atoms:=atoms) (out:=out) (order:=order)
 unfold dL q8
 rw [lw hM ht ha ho hr,bs]
 cases h:(f6 ts n atoms out order).2.2 with
 | false=>rfl
 | true =>
  rw [cond_true,yt (by omega) ho hr,bs,nM hM hok (by unfold dE;rw [List.length_map];exact ho.1),bs];rfl
end
end Go.Proofs.YtoijldeajagjjaaGreat
namespace Go.Proofs.YtoijldeajagjjaaGreat
open Go.RowKit

theorem ta (a:Int) {m:Nat} (hm:m≤4611686018427387904):0≤gr a (m:Int)∧gr a (m:Int)≤(m:Int):=by
 have h1:(BitVec.ofInt IntKind.i64.bits a &&& BitVec.ofInt IntKind.i64.bits (m:Int)).toNat≤m:=by
  rw [BitVec.toNat_and]
  refine Nat.le_trans Nat.and_le_right ?_
  rw [BitVec.toNat_ofInt]
  have:IntKind.i64.bits=64:=rfl
  rw [this]
  omega
 unfold gr
 rw [kT (mF (by omega) (by omega))]
 omega
theorem w4 (a:Int) {b:Nat}:∃ v,sr a (b:Int)=some v:=by unfold sr;rw [if_pos (by omega)];exact ⟨_,rfl⟩
abbrev ea (a:List Int):Prop:=a.length≤1048576∧∀ v∈a,0≤v∧v≤255
def cn (a:List Int) (p:Int):Prop:=0≤p∧p≤(a.length:Int)
section
variable {N:Nat}
theorem AO (a:List Int) (ha:ea a):∀ (m i k:Nat) (h:Int),i+m=4000→m<k→0≤h→h≤1073741823→∃ v,gU N k a h (i:Int)=some v:=by
 intro m
 induction m with
 | zero =>
  intro i k h hi hk _ _
  obtain ⟨k,rfl⟩:∃ g,k=g+1:=⟨k-1,by omega⟩
  rw [gU,decide_eq_false (show ¬ (i:Int)<4000 by omega)]
  cases decide ((i:Int)<(a.length:Int)) <;> exact ⟨_,rfl⟩
 | succ m ih =>
  intro i k h hi hk h0 h1
  obtain ⟨k,rfl⟩:∃ g,k=g+1:=⟨k-1,by omega⟩
  rw [gU]
  by_cases hl:i<a.length
  ·have hb:=ha.2 _ (List.getElem_mem hl)
   rw [dlt hl,cond_true,decide_eq_true (show (i:Int)<4000 by omega),cond_true,uA (by omega) (by omega),bs,aN hl,bs,kT (mF (by omega) (by omega)),i5 (by omega) (by omega),bs,i5 (by omega) (by omega),bs,ad1 (by omega),bs]
   have hi':=ta (h*131+a[i]+7) (m:=1073741823) (by decide)
   exact ih (i+1) k _ (by omega) (by omega) hi'.1 hi'.2
  ·rw [dge hl,cond_false];exact ⟨_,rfl⟩
theorem xx (hN:1073741824≤N) {a:List Int} (ha:ea a):∃ h,lA N a=some (0,h):=by
 have hl:=ha.1
 obtain ⟨v,hv⟩:=AO (N:=N) a ha 4000 0 N (10101+(a.length:Int)) (by omega) (by omega) (by omega) (by omega)
 unfold lA
 rw [i5 (by omega) (by omega),bs]
 have hv':gU N N a (10101+(a.length:Int)) 0=some v:=hv
 rw [hv',bs]
 exact ⟨_,rfl⟩
theorem kG {a:List Int} (ha:ea a) {p h:Int} (hc:cn a p):∃ x q g,gB N a p h=some (x,q,g)∧0≤x∧x≤255∧cn a q:=by
 have hl:=ha.1
 have h0:=hc.1;have h1:=hc.2
 unfold gB
 obtain ⟨x1,e1⟩:=w4 (IntKind.i64.wrap ((IntKind.i64.wrap (h*6364136223846793005))+1442695040888963407)) (b:=33)
 obtain ⟨x2,e2⟩:=w4 (IntKind.i64.wrap ((IntKind.i64.wrap (h*6364136223846793005))+1442695040888963407)) (b:=45)
 have e1':sr (IntKind.i64.wrap ((IntKind.i64.wrap (h*6364136223846793005))+1442695040888963407)) 33=some x1:=e1
 have e2':sr (IntKind.i64.wrap ((IntKind.i64.wrap (h*6364136223846793005))+1442695040888963407)) 45=some x2:=e2
 rw [e1',bs,e2',bs]
 by_cases hp:p<(a.length:Int)
 ·rw [decide_eq_true hp,cond_true,im h0 hp,bs]
  have hb:=ta (IntKind.i64.wrap ((gr (jV x1 x2) 255)+(IntKind.i64.wrap a[p.toNat]))) (m:=255) (by decide)
  refine ⟨_,_,_,rfl,hb.1,hb.2,?_⟩
  rw [kT (mF (by omega) (by omega))]
  exact ⟨by omega,by omega⟩
 ·rw [decide_eq_false hp,cond_false]
  have hb:=ta (jV x1 x2) (m:=255) (by decide)
  exact ⟨_,_,_,rfl,hb.1,hb.2,hc⟩
theorem cm {a:List Int} (ha:ea a) {p h n:Int} (hc:cn a p):∃ x q g,bN N a p h n=some (x,q,g)∧0≤x∧(0<n→x<n)∧(n≤0→x=0)∧cn a q:=by
 unfold bN
 by_cases h0:n≤0
 ·rw [decide_eq_true h0,cond_true]
  exact ⟨_,_,_,rfl,Int.le_refl _,fun h=>by omega,fun _=>rfl,hc⟩
 ·rw [decide_eq_false h0,cond_false]
  by_cases h1:n≤256
  ·obtain ⟨x,q,g,e,b0,b1,hc'⟩:=kG (N:=N) ha (h:=h) hc
   rw [decide_eq_true h1,cond_true,e,bs,qZ (by omega),bs]
   have:=wl b0 (show 0<n by omega)
   exact ⟨_,_,_,rfl,this.1,fun _=>this.2,fun h=>by omega,hc'⟩
  ·rw [decide_eq_false h1,cond_false]
   obtain ⟨x,q,g,e,b0,b1,hc1⟩:=kG (N:=N) ha (h:=h) hc
   rw [e,bs]
   obtain ⟨y,q2,g2,e2,c0,c1,hc2⟩:=kG (N:=N) ha (h:=g) hc1
   dsimp only
   rw [e2,bs]
   obtain ⟨z,q3,g3,e3,d0,d1,hc3⟩:=kG (N:=N) ha (h:=g2) hc2
   dsimp only
   rw [e3,bs]
   obtain ⟨w,q4,g4,e4,f0,f1,hc4⟩:=kG (N:=N) ha (h:=g3) hc3
   dsimp only
   rw [e4,bs]
   dsimp only
   rw [uA (by omega) (by omega),bs,uA (by omega) (by omega),bs,i5 (by omega) (by omega),bs,uA (by omega) (by omega),bs,i5 (by omega) (by omega),bs,i5 (by omega) (by omega),bs,qZ (by omega),bs]
   have:=wl (show 0≤x*16777216+y*65536+z*256+w by omega) (show 0<n by omega)
   exact ⟨_,_,_,rfl,this.1,fun _=>this.2,fun h=>by omega,hc4⟩
theorem ic {a l:List Int} (ha:ea a) {p h:Int} (hc:cn a p) (hl:0<l.length):∃ x q g,dF N a p h l=some (x,q,g)∧x∈l∧cn a q:=by
 obtain ⟨x,q,g,e,b0,b1,_,hc'⟩:=cm (N:=N) ha (h:=h) (n:=(l.length:Int)) hc
 have b2:=b1 (by omega)
 unfold dF
 rw [e,bs]
 dsimp only
 rw [im b0 b2,bs]
 exact ⟨_,_,_,rfl,List.getElem_mem _,hc'⟩
end
end Go.Proofs.YtoijldeajagjjaaGreat
namespace Go.Proofs.YtoijldeajagjjaaGreat
open Go.RowKit

section
variable {N:Nat}
theorem Ar {a:List Int} (ha:ea a) {n m:Int} (hm:0<m):∀ (d k:Nat) (acc:List Int) (p h:Int),cn a p→acc.length+d=n.toNat→d<k→n≤1048576→(∀ v∈acc,0≤v∧v<m) →
  ∃ q g row,iF N k a p h n m acc=some (q,g,row)∧cn a q∧row.length=n.toNat∧∀ v∈row,0≤v∧v<m:=by
 intro d
 induction d with
 | zero =>
  intro k acc p h hc hd hk _ hv
  obtain ⟨k,rfl⟩:∃ g,k=g+1:=⟨k-1,by omega⟩
  rw [iF,decide_eq_false (show ¬ (acc.length:Int)<n by omega),cond_false]
  exact ⟨_,_,_,rfl,hc,by omega,hv⟩
 | succ d ih =>
  intro k acc p h hc hd hk hn hv
  obtain ⟨k,rfl⟩:∃ g,k=g+1:=⟨k-1,by omega⟩
  obtain ⟨x,q,g,e,b0,b1,_,hc'⟩:=cm (N:=N) ha (h:=h) (n:=m) hc
  rw [iF,decide_eq_true (show (acc.length:Int)<n by omega),cond_true,e,bs]
  dsimp only
  rw [bp (by decide) (by simp;omega),bs]
  refine ih k _ q g hc' (by simp;omega) (by omega) hn fun v hv'=>?_
  rcases List.mem_append.1 hv' with h | h
  ·exact hv v h
  ·rw [List.mem_singleton] at h;rw [h];exact ⟨b0,b1 hm⟩
theorem sC (hN:1073741824≤N) {a:List Int} (ha:ea a) {p h n m:Int} (hc:cn a p) (hm:0<m) (hn:n≤1048576) :
  ∃ row q g,kn N a p h n m=some (row,q,g)∧cn a q∧row.length=n.toNat∧∀ v∈row,0≤v∧v<m:=by
 obtain ⟨q,g,row,e,h1,h2,h3⟩:=Ar (N:=N) ha (n:=n) hm n.toNat N [] p h hc (by simp) (by omega) hn (by simp)
 unfold kn
 rw [e]
 exact ⟨row,q,g,rfl,h1,h2,h3⟩
theorem zV (hN:1073741824≤N) {a:List Int} (ha:ea a) {n m y:Int} {z:aG} (hm:0<m) (hn:n≤1048576):∀ (d k:Nat) (acc:aG) (p h c:Int),cn a p→c.toNat=d→c≤1048576→d<k→acc.length+d≤1048576→(∀ r∈acc,r.length=n.toNat∧∀ v∈r,0≤v∧v<m) →
  ∃ q g rows c',iE N k a p h n m y z acc c=some (q,g,rows,c')∧cn a q∧rows.length≤acc.length+d∧∀ r∈rows,r.length=n.toNat∧∀ v∈r,0≤v∧v<m:=by
 intro d
 induction d with
 | zero =>
  intro k acc p h c hc hd _ hk hl hv
  obtain ⟨k,rfl⟩:∃ g,k=g+1:=⟨k-1,by omega⟩
  rw [iE,decide_eq_false (show ¬ 0<c by omega),cond_false]
  exact ⟨_,_,_,_,rfl,hc,by omega,hv⟩
 | succ d ih =>
  intro k acc p h c hc hd hcc hk hl hv
  obtain ⟨k,rfl⟩:∃ g,k=g+1:=⟨k-1,by omega⟩
  obtain ⟨row,q,g,e,hc',h2,h3⟩:=sC hN ha (h:=h) (n:=n) hc hm hn
  rw [iE,decide_eq_true (show 0<c by omega),cond_true,e,bs]
  dsimp only
  rw [bp (by decide) (by simp;omega),bs,fC (by omega) (by omega),bs]
  obtain ⟨q',g',rows,c',e',k1,k2,k3⟩:=ih k (acc++[row]) q g (c-1) hc' (by omega) (by omega) (by omega) (by simp;omega) fun r hr=>by
   rcases List.mem_append.1 hr with h | h
   ·exact hv r h
   ·rw [List.mem_singleton] at h;rw [h];exact ⟨h2,h3⟩
  exact ⟨q',g',rows,c',e',k1,by simp at k2;omega,k3⟩
theorem pG (hM:1073742848≤N) {a:List Int} (ha:ea a) {p h n m y:Int} (hc:cn a p) (hm:0<m∧m≤100) (hn:0≤n∧n≤5) (hy:0≤y∧y≤100) :
  ∃ rows q g,jr N a p h n y m=some ((n,rows),q,g)∧cn a q∧(rows.length:Int)≤y∧∀ r∈rows,(r.length:Int)=n∧∀ v∈r,0≤v∧v<m:=by
 have hN:1073741824≤N:=by omega
 obtain ⟨x,q,g,e,b0,b1,_,hc'⟩:=cm (N:=N) ha (h:=h) (n:=y+1) hc
 have b1:=b1 (by omega)
 obtain ⟨q',g',rows,c',e',k1,k2,k3⟩:=zV hN ha (n:=n) (m:=m) (y:=0) (z:=[]) hm.1 (by omega) x.toNat N [] q g x hc' rfl (by omega) (by omega) (by simp;omega) (by simp)
 unfold jr
 rw [i5 (by omega) (by omega),bs,e,bs]
 dsimp only
 rw [e']
 simp only [List.length_nil,Nat.zero_add] at k2
 have hf:∀ r∈rows,(r.length:Int)=n∧bk r=true:=fun r hr=>by
  have:=k3 r hr
  refine ⟨by omega,?_⟩
  unfold bk
  refine List.all_eq_true.2 fun v hv=>?_
  have:=this.2 v hv
  unfold inR
  simp only [Bool.and_eq_true,decide_eq_true_eq]
  omega
 have hok:cC rows:=⟨by omega,fun r hr=>⟨by have:=(k3 r hr).1;omega,fun _ _=>trivial⟩⟩
 rw [bs]
 unfold lpB
 dsimp only
 rw [gj hM hok,bs,jb hn (by omega) hf]
 have hsl:=gK 20 rows
 refine ⟨bG 20 rows,q',g',rfl,k1,by omega,fun r hr=>?_⟩
 have hr':=jp 20 rows r hr
 exact ⟨(hf r hr').1,(k3 r hr').2⟩
def uv (r:Int × aG):Prop:=(-1≤r.1∧r.1≤6)∧r.2.length≤7∧∀ w∈r.2,w.length≤6∧∀ v∈w,-1≤v∧v≤100
theorem xn (hM:1073742848≤N) {a:List Int} (ha:ea a) {p h:Int} (hc:cn a p):∃ r q g,lH N a p h=some (r,q,g)∧cn a q∧uv r:=by
 have hN:1073741824≤N:=by omega
 obtain ⟨n,q,g,e,b0,b1,_,hc1⟩:=cm (N:=N) ha (h:=h) (n:=4) hc
 have b1:=b1 (by decide)
 obtain ⟨rows,q2,g2,e2,hc2,hl,hr⟩:=pG hM ha (h:=g) (n:=n) (m:=4) (y:=6) hc1 (by decide) (by omega) (by decide)
 obtain ⟨s,q3,g3,e3,_,_,_,hc3⟩:=cm (N:=N) ha (h:=g2) (n:=14) hc2
 have hsm:∀ w∈rows,w.length≤6∧∀ v∈w,-1≤v∧v≤100:=fun w hw=>by
  have:=hr w hw
  exact ⟨by omega,fun v hv=>by have:=this.2 v hv;omega⟩
 have base:uv (n,rows):=⟨⟨by show -1≤n;omega,by show n≤6;omega⟩,by show rows.length≤7;omega,hsm⟩
 unfold lH
 rw [e,bs]
 dsimp only
 rw [e2,bs]
 dsimp only
 rw [e3,bs]
 dsimp only
 cases h0:(s == 0)
 ·rw [cond_false]
  cases h1:(s == 1)
  ·rw [cond_false]
   cases h2:(s == 2)
   ·exact ⟨_,_,_,rfl,hc3,base⟩
   ·rw [cond_true]
    by_cases hp:0<rows.length
    ·rw [decide_eq_true (show (0:Int)<(rows.length:Int) by omega),cond_true]
     by_cases hn:0<n
     ·have hm0:=hr _ (List.getElem_mem hp)
      have hm1:=hsm _ (List.getElem_mem hp)
      have hp0:0<rows[0].length:=by omega
      obtain ⟨x,q4,g4,e4,hx,hc4⟩:=ic (N:=N) ha (h:=g3) hc3 (l:=[(-1),100,99]) (by decide)
      have i0:ix rows 0=some rows[0]:=aN hp
      have i1:ix rows[0] 0=some rows[0][0]:=aN hp0
      have s1:sto rows[0] 0 x=some (rows[0].set 0 x):=kq hp0
      have s2:sto rows 0 (rows[0].set 0 x)=some (rows.set 0 (rows[0].set 0 x)):=kq hp
      have hxb:-1≤x∧x≤100:=by
       simp only [List.mem_cons,List.not_mem_nil,or_false] at hx
       omega
      rw [decide_eq_true hn,cond_true,i0,bs,e4,bs,i1,bs,s1,bs,s2,bs]
      refine ⟨_,_,_,rfl,hc4,⟨base.1,by show (rows.set 0 _).length≤7;rw [List.length_set];omega,fun w hw=>?_⟩⟩
      rcases List.mem_or_eq_of_mem_set hw with h | h
      ·exact hsm w h
      ·subst h
       refine ⟨by rw [List.length_set];exact hm1.1,fun v hv=>?_⟩
       rcases List.mem_or_eq_of_mem_set hv with h | h
       ·exact hm1.2 v h
       ·rw [h];exact hxb
     ·rw [decide_eq_false hn,cond_false]
      exact ⟨_,_,_,rfl,hc3,base⟩
    ·rw [decide_eq_false (show ¬ (0:Int)<(rows.length:Int) by omega),cond_false]
     exact ⟨_,_,_,rfl,hc3,base⟩
  ·rw [cond_true]
   have hi:imx 0 n=n:=by unfold imx;split <;> omega
   obtain ⟨w,q4,g4,e4,hc4,hw1,hw2⟩:=sC hN ha (h:=g3) (n:=n) (m:=4) hc3 (by decide) (by omega)
   rw [hi,e4,bs]
   dsimp only
   rw [bp (by decide) (by simp;omega),bs]
   refine ⟨_,_,_,rfl,hc4,base.1,by show (rows++[w]).length≤7;simp;omega,fun v hv=>?_⟩
   rcases List.mem_append.1 hv with h | h
   ·exact hsm v h
   ·rw [List.mem_singleton] at h;subst h
    exact ⟨by omega,fun v hv=>by have:=hw2 v hv;omega⟩
 ·obtain ⟨x,q4,g4,e4,hx,hc4⟩:=ic (N:=N) ha (h:=g3) hc3 (l:=[(-1),6,n+1]) (Nat.zero_lt_succ _)
  rw [cond_true,i5 (by omega) (by omega),bs,e4,bs]
  refine ⟨_,_,_,rfl,hc4,⟨?_,base.2⟩⟩
  simp only [List.mem_cons,List.not_mem_nil,or_false] at hx
  show -1≤x∧x≤6
  omega
end
end Go.Proofs.YtoijldeajagjjaaGreat
namespace Go.Proofs.YtoijldeajagjjaaGreat
open Go.RowKit

def xL (a b:List kh):Prop:=∃ t,b=a++t
theorem xL.trans {a b c:List kh} (h:xL a b) (k:xL b c):xL a c:=by
 obtain ⟨t,rfl⟩:=h;obtain ⟨u,rfl⟩:=k;exact ⟨t++u,by simp⟩
end Go.Proofs.YtoijldeajagjjaaGreat
namespace Go.Proofs.YtoijldeajagjjaaGreat
open Go.RowKit

def A0 (ns:List kh):Nat→Int→Int
 | 0,_=>0
 | f+1,nd=>if nd=0 then 0 else A0 ns f ((ns.getD nd.toNat ([],[])).2.getD 0 0)+1
def dep (ns:List kh) (nd:Int):Int:=A0 ns ns.length nd
structure NodeOk (ns:List kh) (i:Nat):Prop where
 lens:(ns.getD i ([],[])).1.length=(ns.getD i ([],[])).2.length
 vals:bk (ns.getD i ([],[])).1=true
 asc:gl (ns.getD i ([],[])).1
 ne:(ns.getD i ([],[])).1≠[]
 chs:∀ c∈(ns.getD i ([],[])).2,dep ns c=dep ns ((ns.getD i ([],[])).2.getD 0 0)
 new:∀ j,1≤j→j<i→ns.getD j ([],[])≠ns.getD i ([],[])
end Go.Proofs.YtoijldeajagjjaaGreat
namespace Go.Proofs.YtoijldeajagjjaaGreat
open Go.RowKit

abbrev nr:=Int × List aS × List Int
def QGd (q:nr):Prop:=(1≤q.1∧q.1≤5)∧(1≤q.2.1.length∧q.2.1.length≤4)∧(∀ a∈q.2.1,a.1.size≤4∧1≤a.2.length∧a.2.length≤5)∧q.2.2.length≤5
def QSm (q:nr):Prop:=(0≤q.1∧q.1≤6)∧q.2.1.length≤5∧(∀ a∈q.2.1,a.1.size≤4∧a.2.length≤5)∧q.2.2.length≤6
theorem QGd.sm {q:nr} (h:QGd q):QSm q:=⟨⟨by have:=h.1;omega,by have:=h.1;omega⟩,by have:=h.2.1;omega,fun a ha=>⟨(h.2.2.1 a ha).1,(h.2.2.1 a ha).2.2⟩,by have:=h.2.2.2;omega⟩
theorem QSm.atoms {q:nr} (h:QSm q):cx q.2.1:=⟨by have:=h.2.1;omega,fun a ha=>⟨by have:=(h.2.2.1 a ha).1;omega,by have:=(h.2.2.1 a ha).2;omega,fun _ _=>trivial⟩⟩
theorem QSm.out {q:nr} (h:QSm q):okI q.2.2:=⟨by have:=h.2.2.2;omega,fun _ _=>trivial⟩
section
variable {N:Nat}
abbrev xX:List ByteArray:=[(⟨#[40,88,89,90,41,61,114,40,88,89,41,44,115,40,89,90,41,44,116,40,90,88,41]⟩:ByteArray),(⟨#[40,88,89,90,85,41,61,114,40,88,89,41,44,115,40,89,90,41,44,116,40,90,85,41,44,117,40,85,88,41]⟩:ByteArray),(⟨#[40,88,89,90,41,61,114,40,88,89,41,44,115,40,89,90,41]⟩:ByteArray),(⟨#[40,88,41,61,114,40,88,89,41,44,115,40,89,90,41,44,116,40,90,85,41]⟩:ByteArray),(⟨#[40,88,89,90,41,61,118,40,88,89,90,41,44,114,40,88,89,41]⟩:ByteArray),(⟨#[40,88,89,41,61,114,40,88,89,41,44,114,40,89,88,41]⟩:ByteArray),(⟨#[40,88,89,90,85,41,61,118,40,88,89,90,41,44,115,40,90,85,41,44,116,40,85,88,41]⟩:ByteArray),(⟨#[40,88,41,61,114,40,88,88,41]⟩:ByteArray),(⟨#[40,88,89,41,61,114,40,88,90,41,44,115,40,90,89,41,44,114,40,88,85,41,44,115,40,85,89,41]⟩:ByteArray),(⟨#[40,41,61,114,40,88,89,41,44,115,40,89,88,41]⟩:ByteArray),(⟨#[40,88,89,90,85,86,41,61,114,40,88,89,41,44,115,40,89,90,41,44,116,40,90,85,41,44,117,40,85,86,41]⟩:ByteArray)]
theorem Ax (M:Nat):co (M+100) (⟨#[40,88,89,90,41,61,114,40,88,89,41,44,115,40,89,90,41,44,116,40,90,88,41]⟩:ByteArray)=some ((3,[((⟨#[114]⟩:ByteArray),[0,1]),((⟨#[115]⟩:ByteArray),[1,2]),((⟨#[116]⟩:ByteArray),[2,0])],[0,1,2]),true):=by kernel_rfl
theorem Aq (M:Nat):co (M+100) (⟨#[40,88,89,90,85,41,61,114,40,88,89,41,44,115,40,89,90,41,44,116,40,90,85,41,44,117,40,85,88,41]⟩:ByteArray)=some ((4,[((⟨#[114]⟩:ByteArray),[0,1]),((⟨#[115]⟩:ByteArray),[1,2]),((⟨#[116]⟩:ByteArray),[2,3]),((⟨#[117]⟩:ByteArray),[3,0])],[0,1,2,3]),true):=by kernel_rfl
theorem Ao (M:Nat):co (M+100) (⟨#[40,88,89,90,41,61,114,40,88,89,41,44,115,40,89,90,41]⟩:ByteArray)=some ((3,[((⟨#[114]⟩:ByteArray),[0,1]),((⟨#[115]⟩:ByteArray),[1,2])],[0,1,2]),true):=by kernel_rfl
theorem AJ (M:Nat):co (M+100) (⟨#[40,88,41,61,114,40,88,89,41,44,115,40,89,90,41,44,116,40,90,85,41]⟩:ByteArray)=some ((4,[((⟨#[114]⟩:ByteArray),[0,1]),((⟨#[115]⟩:ByteArray),[1,2]),((⟨#[116]⟩:ByteArray),[2,3])],[0]),true):=by kernel_rfl
theorem AN (M:Nat):co (M+100) (⟨#[40,88,89,90,41,61,118,40,88,89,90,41,44,114,40,88,89,41]⟩:ByteArray)=some ((3,[((⟨#[118]⟩:ByteArray),[0,1,2]),((⟨#[114]⟩:ByteArray),[0,1])],[0,1,2]),true):=by kernel_rfl
theorem zL (M:Nat):co (M+100) (⟨#[40,88,89,41,61,114,40,88,89,41,44,114,40,89,88,41]⟩:ByteArray)=some ((2,[((⟨#[114]⟩:ByteArray),[0,1]),((⟨#[114]⟩:ByteArray),[1,0])],[0,1]),true):=by kernel_rfl
theorem AH (M:Nat):co (M+100) (⟨#[40,88,89,90,85,41,61,118,40,88,89,90,41,44,115,40,90,85,41,44,116,40,85,88,41]⟩:ByteArray)=some ((4,[((⟨#[118]⟩:ByteArray),[0,1,2]),((⟨#[115]⟩:ByteArray),[2,3]),((⟨#[116]⟩:ByteArray),[3,0])],[0,1,2,3]),true):=by kernel_rfl
theorem zM (M:Nat):co (M+100) (⟨#[40,88,41,61,114,40,88,88,41]⟩:ByteArray)=some ((1,[((⟨#[114]⟩:ByteArray),[0,0])],[0]),true):=by kernel_rfl
theorem zX (M:Nat):co (M+100) (⟨#[40,88,89,41,61,114,40,88,90,41,44,115,40,90,89,41,44,114,40,88,85,41,44,115,40,85,89,41]⟩:ByteArray)=some ((4,[((⟨#[114]⟩:ByteArray),[0,2]),((⟨#[115]⟩:ByteArray),[2,1]),((⟨#[114]⟩:ByteArray),[0,3]),((⟨#[115]⟩:ByteArray),[3,1])],[0,1]),true):=by kernel_rfl
theorem AV (M:Nat):co (M+100) (⟨#[40,41,61,114,40,88,89,41,44,115,40,89,88,41]⟩:ByteArray)=some ((2,[((⟨#[114]⟩:ByteArray),[0,1]),((⟨#[115]⟩:ByteArray),[1,0])],[]),true):=by kernel_rfl
theorem zj (M:Nat):co (M+100) (⟨#[40,88,89,90,85,86,41,61,114,40,88,89,41,44,115,40,89,90,41,44,116,40,90,85,41,44,117,40,85,86,41]⟩:ByteArray)=some ((5,[((⟨#[114]⟩:ByteArray),[0,1]),((⟨#[115]⟩:ByteArray),[1,2]),((⟨#[116]⟩:ByteArray),[2,3]),((⟨#[117]⟩:ByteArray),[3,4])],[0,1,2,3,4]),true):=by kernel_rfl
theorem vW (hN:1073741824≤N):∀ s∈xX,∃ q,co N s=some (q,true)∧QGd q:=by
 obtain ⟨M,rfl⟩:∃ M,N=M+100:=⟨N-100,by omega⟩
 intro s hs
 simp only [List.mem_cons,List.not_mem_nil,or_false] at hs
 rcases hs with rfl | rfl | rfl | rfl | rfl | rfl | rfl | rfl | rfl | rfl | rfl
 ·exact ⟨_,Ax M,by unfold QGd;decide⟩
 ·exact ⟨_,Aq M,by unfold QGd;decide⟩
 ·exact ⟨_,Ao M,by unfold QGd;decide⟩
 ·exact ⟨_,AJ M,by unfold QGd;decide⟩
 ·exact ⟨_,AN M,by unfold QGd;decide⟩
 ·exact ⟨_,zL M,by unfold QGd;decide⟩
 ·exact ⟨_,AH M,by unfold QGd;decide⟩
 ·exact ⟨_,zM M,by unfold QGd;decide⟩
 ·exact ⟨_,zX M,by unfold QGd;decide⟩
 ·exact ⟨_,AV M,by unfold QGd;decide⟩
 ·exact ⟨_,zj M,by unfold QGd;decide⟩
theorem nZ {a:List Int} {l:List ByteArray} (ha:ea a) {p h:Int} (hc:cn a p) (hl:0<l.length):∃ x q g,iQ N a p h l=some (x,q,g)∧x∈l∧cn a q:=by
 obtain ⟨x,q,g,e,b0,b1,_,hc'⟩:=cm (N:=N) ha (h:=h) (n:=(l.length:Int)) hc
 have b2:=b1 (by omega)
 unfold iQ
 rw [e,bs]
 dsimp only
 rw [im b0 b2,bs]
 exact ⟨_,_,_,rfl,List.getElem_mem _,hc'⟩
theorem mq {a:List Int} (ha:ea a) {p h n:Int} (hc:cn a p):∃ b q g,hZ N a p h n=some (b,q,g)∧cn a q:=by
 obtain ⟨x,q,g,e,_,_,_,hc'⟩:=cm (N:=N) ha (h:=h) (n:=n) hc
 unfold hZ
 rw [e,bs]
 exact ⟨_,_,_,rfl,hc'⟩
theorem xg {a:List Int} (ha:ea a) {z1 z7 z9 n:Int} {z2 z5 z8:List aS} {z3 z6 z10:List Int} {s:ByteArray}:∀ (d k:Nat) (acc:List Int) (p h m:Int),cn a p→m.toNat=d→m≤10→d<k→acc.length+d≤100 →
  ∃ q g vs m',gQ N k a p h z1 z2 z3 z7 z5 z6 n z8 z10 z9 s acc m=some (q,g,vs,m')∧cn a q∧vs.length=acc.length+d:=by
 intro d
 induction d with
 | zero =>
  intro k acc p h m hc hd _ hk _
  obtain ⟨k,rfl⟩:∃ g,k=g+1:=⟨k-1,by omega⟩
  rw [gQ,decide_eq_false (show ¬ 0<m by omega),cond_false]
  exact ⟨_,_,_,_,rfl,hc,by omega⟩
 | succ d ih =>
  intro k acc p h m hc hd hm hk hl
  obtain ⟨k,rfl⟩:∃ g,k=g+1:=⟨k-1,by omega⟩
  obtain ⟨x,q,g,e,_,_,_,hc'⟩:=cm (N:=N) ha (h:=h) (n:=n) hc
  rw [gQ,decide_eq_true (show 0<m by omega),cond_true,e,bs]
  dsimp only
  rw [bp (by decide) (by simp;omega),bs,fC (by omega) (by omega),bs]
  obtain ⟨q',g',vs,m',e',k1,k2⟩:=ih k (acc++[x]) q g (m-1) hc' (by omega) (by omega) (by omega) (by simp;omega)
  exact ⟨q',g',vs,m',e',k1,by simp at k2;omega⟩
theorem xF (hN:1073741824≤N) {a:List Int} (ha:ea a) {z1 z4 n:Int} {z2 z5:List aS} {z3 z6 z7:List Int}:∀ (d k:Nat) (acc:List aS) (p h m:Int),cn a p→m.toNat=d→m≤10→d<k→acc.length+d≤100→(∀ x∈acc,x.1.size≤4∧1≤x.2.length∧x.2.length≤5) →
  ∃ q g ats m',gN N k a p h z1 z2 z3 z4 z5 z6 n acc z7 m=some (q,g,ats,m')∧cn a q∧ats.length=acc.length+d∧∀ x∈ats,x.1.size≤4∧1≤x.2.length∧x.2.length≤5:=by
 intro d
 induction d with
 | zero =>
  intro k acc p h m hc hd _ hk _ hx
  obtain ⟨k,rfl⟩:∃ g,k=g+1:=⟨k-1,by omega⟩
  rw [gN,decide_eq_false (show ¬ 0<m by omega),cond_false]
  exact ⟨_,_,_,_,rfl,hc,by omega,hx⟩
 | succ d ih =>
  intro k acc p h m hc hd hm hk hl hx
  obtain ⟨k,rfl⟩:∃ g,k=g+1:=⟨k-1,by omega⟩
  obtain ⟨x,q,g,e,b0,b1,_,hc'⟩:=cm (N:=N) ha (h:=h) (n:=5) hc
  have b1:=b1 (by decide)
  rw [gN,decide_eq_true (show 0<m by omega),cond_true,e,bs]
  dsimp only
  have hi:x<(([(⟨#[114]⟩:ByteArray),(⟨#[115]⟩:ByteArray),(⟨#[116]⟩:ByteArray),(⟨#[117]⟩:ByteArray),(⟨#[118]⟩:ByteArray)]:List ByteArray).length:Int):=b1
  rw [im b0 hi,bs,Ca b0 (by decide) (by omega),bs]
  have ht:0≤x.tdiv 4∧x.tdiv 4≤1:=by
   rw [Int.tdiv_eq_ediv_of_nonneg b0];omega
  rw [i5 (by omega) (by omega),bs]
  have hs:∀ s∈([(⟨#[114]⟩:ByteArray),(⟨#[115]⟩:ByteArray),(⟨#[116]⟩:ByteArray),(⟨#[117]⟩:ByteArray),(⟨#[118]⟩:ByteArray)]:List ByteArray),s.size≤4:=by decide
  have hs':=hs _ (List.getElem_mem (l:=([(⟨#[114]⟩:ByteArray),(⟨#[115]⟩:ByteArray),(⟨#[116]⟩:ByteArray),(⟨#[117]⟩:ByteArray),(⟨#[118]⟩:ByteArray)]:List ByteArray)) (n:=x.toNat) (by omega))
  obtain ⟨q',g',vs,m',e',k1,k2⟩:=xg (N:=N) ha (z1:=z1) (z2:=z2) (z3:=z3) (z7:=z4) (z5:=z5) (z6:=z6) (n:=n) (z8:=acc) (z10:=z7) (z9:=m) (s:=([(⟨#[114]⟩:ByteArray),(⟨#[115]⟩:ByteArray),(⟨#[116]⟩:ByteArray),(⟨#[117]⟩:ByteArray),(⟨#[118]⟩:ByteArray)]:List ByteArray)[x.toNat]) (2+x.tdiv 4).toNat N [] q g (2+x.tdiv 4) hc' rfl (by omega) (by omega) (by simp;omega)
  rw [e',bs]
  unfold lpB
  dsimp only
  rw [bp (by decide) (by simp;omega),bs,fC (by omega) (by omega),bs]
  simp only [List.length_nil,Nat.zero_add] at k2
  obtain ⟨q2,g2,ats,m2,e2,j1,j2,j3⟩:=ih k (acc++[(_,vs)]) q' g' (m-1) k1 (by omega) (by omega) (by omega) (by simp;omega) (fun y hy=>by
   rcases List.mem_append.1 hy with h | h
   ·exact hx y h
   ·rw [List.mem_singleton] at h;rw [h]
    exact ⟨hs',by show 1≤vs.length;omega,by show vs.length≤5;omega⟩)
  exact ⟨q2,g2,ats,m2,e2,j1,by simp at j2;omega,j3⟩
theorem xp {a:List Int} (ha:ea a) {z1 z4:Int} {n:Nat} {z2 z5 z8:List aS} {z3 z6:List Int} (hn:n≤10):∀ (d k:Nat) (acc:List Int) (p h:Int) (i:Nat),cn a p→i+d=n→d<k→acc.length≤i →
  ∃ q g out v,eT N k a p h z1 z2 z3 z4 z5 z6 (n:Int) z8 acc (i:Int)=some (q,g,out,v)∧cn a q∧out.length≤n:=by
 intro d
 induction d with
 | zero =>
  intro k acc p h i hc hd hk hl
  obtain ⟨k,rfl⟩:∃ g,k=g+1:=⟨k-1,by omega⟩
  rw [eT,decide_eq_false (show ¬ (i:Int)<(n:Int) by omega),cond_false]
  exact ⟨_,_,_,_,rfl,hc,by omega⟩
 | succ d ih =>
  intro k acc p h i hc hd hk hl
  obtain ⟨k,rfl⟩:∃ g,k=g+1:=⟨k-1,by omega⟩
  obtain ⟨b,q,g,e,hc'⟩:=mq (N:=N) ha (h:=h) (n:=2) hc
  rw [eT,decide_eq_true (show (i:Int)<(n:Int) by omega),cond_true,e,bs]
  dsimp only
  cases b with
  | true =>
   rw [cond_true,bp (by decide) (by simp;omega),bs,ad1 (by omega),bs]
   exact ih k _ q g (i+1) hc' (by omega) (by omega) (by simp;omega)
  | false =>
   rw [cond_false,ad1 (by omega),bs]
   exact ih k _ q g (i+1) hc' (by omega) (by omega) (by omega)
theorem qP (hN:1073741824≤N) {a:List Int} (ha:ea a) {p h:Int} (hc:cn a p):∃ r q g,i9 N a p h=some (r,q,g)∧cn a q∧QGd r:=by
 unfold i9
 obtain ⟨s,q,g,e,hs,hc1⟩:=nZ (N:=N) ha (h:=h) (l:=xX) hc (by decide)
 obtain ⟨r,er,hr⟩:=vW hN s hs
 rw [e,bs]
 dsimp only
 rw [er,bs]
 obtain ⟨b,q2,g2,e2,hc2⟩:=mq (N:=N) ha (h:=g) (n:=3) hc1
 rw [e2,bs]
 dsimp only
 cases b with
 | false=>rw [cond_false];exact ⟨_,_,_,rfl,hc2,hr⟩
 | true =>
  obtain ⟨x,q3,g3,e3,b0,b1,_,hc3⟩:=cm (N:=N) ha (h:=g2) (n:=4) hc2
  have b1:=b1 (by decide)
  rw [cond_true,e3,bs]
  dsimp only
  obtain ⟨y,q4,g4,e4,c0,c1,_,hc4⟩:=cm (N:=N) ha (h:=g3) (n:=4) hc3
  have c1:=c1 (by decide)
  rw [i5 (by omega) (by omega),bs,e4,bs]
  dsimp only
  rw [i5 (by omega) (by omega),bs]
  obtain ⟨q5,g5,ats,m5,e5,hc5,l5,a5⟩:=xF hN ha (z1:=0) (z2:=[]) (z3:=[]) (z4:=r.1) (z5:=r.2.1) (z6:=r.2.2) (n:=1+x) (z7:=[]) (1+y).toNat N [] q4 g4 (1+y) hc4 rfl (by omega) (by omega) (by simp;omega) (by simp)
  rw [e5,bs]
  unfold lpB
  dsimp only
  have hx:((x.toNat+1:Nat):Int)=1+x:=by omega
  obtain ⟨q6,g6,out,v6,e6,hc6,l6⟩:=xp (N:=N) ha (z1:=0) (z2:=[]) (z3:=[]) (z4:=r.1) (z5:=r.2.1) (z6:=r.2.2) (n:=x.toNat+1) (z8:=ats) (by omega) (x.toNat+1) N [] q5 g5 0 hc5 (by omega) (by omega) (by simp)
  rw [hx] at e6
  have e6':eT N N a q5 g5 0 [] [] r.1 r.2.1 r.2.2 (1+x) ats [] 0=some (q6,g6,out,v6):=e6
  simp only [List.length_nil,Nat.zero_add] at l5
  have hq:QGd (1+x,ats,out):=⟨⟨by show 1≤1+x;omega,by show 1+x≤5;omega⟩,⟨by show 1≤ats.length;omega,by show ats.length≤4;omega⟩,a5,by show out.length≤5;omega⟩
  rw [e6',bs]
  dsimp only
  rw [hU hN (QSm.atoms hq.sm) (QSm.out hq.sm),bs]
  cases dS (1+x) ats out with
  | true=>rw [cond_true];exact ⟨_,_,_,rfl,hc6,hq⟩
  | false=>rw [cond_false];exact ⟨_,_,_,rfl,hc6,hr⟩
theorem xo (hN:1073741824≤N) {a:List Int} (ha:ea a) {p h:Int} (hc:cn a p):∃ r q g,lI N a p h=some (r,q,g)∧cn a q∧QSm r:=by
 obtain ⟨⟨n,ats,out⟩,q,g,e,hc1,hr⟩:=qP hN ha (h:=h) hc
 obtain ⟨x,q2,g2,e2,_,_,_,hc2⟩:=cm (N:=N) ha (h:=g) (n:=14) hc1
 unfold lI
 rw [e,bs]
 dsimp only
 rw [e2,bs]
 dsimp only
 have hn:=hr.1;have ha1:=hr.2.1;have ha2:=hr.2.2.1;have ho:=hr.2.2.2
 dsimp only at hn ha1 ha2 ho
 have hsm:=hr.sm
 cases h0:(x == 0) with
 | true =>
  rw [cond_true,i5 (by omega) (by omega),bs]
  obtain ⟨y,q3,g3,e3,hy,hc3⟩:=ic (N:=N) ha (h:=g2) (l:=[0,6,n+1]) hc2 (Nat.zero_lt_succ _)
  rw [e3,bs]
  refine ⟨_,_,_,rfl,hc3,⟨?_,hsm.2⟩⟩
  simp only [List.mem_cons,List.not_mem_nil,or_false] at hy
  show 0≤y∧y≤6
  omega
 | false =>
 rw [cond_false]
 cases h1:(x == 1) with
 | true =>
  rw [cond_true]
  obtain ⟨y,q3,g3,e3,hy,hc3⟩:=nZ (N:=N) ha (h:=g2) (l:=[ByteArray.empty,(⟨#[119]⟩:ByteArray),(⟨#[114]⟩:ByteArray)]) hc2 (by decide)
  have hys:∀ s∈[ByteArray.empty,(⟨#[119]⟩:ByteArray),(⟨#[114]⟩:ByteArray)],s.size≤4:=by decide
  rw [e3,bs,bp (by decide) (by simp;omega),bs]
  refine ⟨_,_,_,rfl,hc3,hsm.1,by show (ats++[_]).length≤5;simp;omega,fun b hb=>?_,hsm.2.2.2⟩
  rcases List.mem_append.1 hb with h | h
  ·exact hsm.2.2.1 b h
  ·rw [List.mem_singleton] at h;rw [h];exact ⟨hys y hy,by show ([0]:List Int).length≤5;decide⟩
 | false =>
 rw [cond_false]
 cases h2:(x == 2) with
 | true =>
  rw [cond_true]
  obtain ⟨y,q3,g3,e3,b0,b1,_,hc3⟩:=cm (N:=N) ha (h:=g2) (n:=6) hc2
  have b1:=b1 (by decide)
  rw [e3,bs]
  dsimp only
  rw [fC (by omega) (by omega),bs,bp (by decide) (by simp;omega),bs]
  exact ⟨_,_,_,rfl,hc3,hsm.1,hsm.2.1,hsm.2.2.1,by show (out++[_]).length≤6;simp;omega⟩
 | false =>
 rw [cond_false]
 have hl:0<ats.length:=by omega
 have i0:ix ats 0=some ats[0]:=aN hl
 have hm0:=ha2 _ (List.getElem_mem hl)
 cases h3:(x == 3) with
 | true =>
  have s0:sto ats 0 (ats[0].1,[])=some (ats.set 0 (ats[0].1,[])):=kq hl
  rw [cond_true,i0,bs,s0,bs]
  refine ⟨_,_,_,rfl,hc2,hsm.1,by show (ats.set 0 _).length≤5;rw [List.length_set];omega,fun b hb=>?_,hsm.2.2.2⟩
  rcases List.mem_or_eq_of_mem_set hb with h | h
  ·exact hsm.2.2.1 b h
  ·rw [h];exact ⟨hm0.1,Nat.zero_le _⟩
 | false =>
 rw [cond_false]
 cases h4:(x == 4) with
 | true =>
  obtain ⟨y,q3,g3,e3,hy,hc3⟩:=ic (N:=N) ha (h:=g2) (l:=[(-1),5]) hc2 (by decide)
  have hl1:0<ats[0].2.length:=by omega
  have i1:ix ats[0].2 0=some ats[0].2[0]:=aN hl1
  have s1:sto ats[0].2 0 y=some (ats[0].2.set 0 y):=kq hl1
  have s0:sto ats 0 (ats[0].1,ats[0].2.set 0 y)=some (ats.set 0 (ats[0].1,ats[0].2.set 0 y)):=kq hl
  rw [cond_true,i0,bs,e3,bs,i1,bs,s1,bs,s0,bs]
  refine ⟨_,_,_,rfl,hc3,hsm.1,by show (ats.set 0 _).length≤5;rw [List.length_set];omega,fun b hb=>?_,hsm.2.2.2⟩
  rcases List.mem_or_eq_of_mem_set hb with h | h
  ·exact hsm.2.2.1 b h
  ·rw [h];exact ⟨hm0.1,by show (ats[0].2.set 0 y).length≤5;rw [List.length_set];exact hm0.2.2⟩
 | false =>
 rw [cond_false]
 exact ⟨_,_,_,rfl,hc2,hsm⟩
end
end Go.Proofs.YtoijldeajagjjaaGreat
namespace Go.Proofs.YtoijldeajagjjaaGreat
open Go.RowKit

def TSm (t:aV):Prop:=t.1.size≤5∧t.2.2.length≤10∧∀ r∈t.2.2,r.length≤6
def DSm (ts:List aV):Prop:=ts.length≤6∧∀ t∈ts,TSm t
theorem DSm.ok {ts:List aV} (h:DSm ts):iU ts:=⟨by have:=h.1;omega,fun t ht=>by
 obtain ⟨h1,h2,h3⟩:=h.2 t ht
 exact ⟨by omega,by omega,fun r hr=>⟨by have:=h3 r hr;omega,fun _ _=>trivial⟩⟩⟩
theorem zk:∀ (n:Nat) (l:List Int),l.length<n→∃ v:Nat,v<n∧(v:Int)∉l:=by
 intro n
 induction n with
 | zero=>intro l h;omega
 | succ n ih =>
  intro l h
  by_cases hm:(n:Int)∈l
  ·have hl:=List.length_erase_of_mem hm
   have hp:=List.length_pos_of_mem hm
   obtain ⟨v,h1,h2⟩:=ih (l.erase (n:Int)) (by omega)
   exact ⟨v,by omega,fun hv=>h2 ((List.mem_erase_of_ne (by omega)).2 hv)⟩
  ·exact ⟨n,by omega,hm⟩
section
variable {N:Nat}
abbrev lM:List ByteArray:=[(⟨#[114]⟩:ByteArray),(⟨#[115]⟩:ByteArray),(⟨#[116]⟩:ByteArray),(⟨#[117]⟩:ByteArray),(⟨#[118]⟩:ByteArray)]
theorem x4 {n m y:Int} {rows:aG} {s:ByteArray} (hs:s.size≤5) (hn:n≤5) (hy:y≤10) (hl:(rows.length:Int)≤y) (hr:∀ r∈rows,(r.length:Int)=n∧∀ v∈r,0≤v∧v<m):TSm (s,(n,rows)) :=
 ⟨hs,by show rows.length≤10;omega,fun r h=>by have:=(hr r h).1;omega⟩
theorem BR (hM:1073742848≤N) {a:List Int} (ha:ea a) {z:List aV} {m:Int} (hm:0<m∧m≤100):∀ (d k:Nat) (acc:List aV) (p h:Int) (i:Nat),cn a p→i+d=5→d<k→acc.length=i→(∀ t∈acc,TSm t) →
  ∃ q g ts v,gE N k a p h z m acc lM (lM.length:Int) (i:Int)=some (q,g,ts,v)∧cn a q∧ts.length=5∧∀ t∈ts,TSm t:=by
 intro d
 induction d with
 | zero =>
  intro k acc p h i hc hd hk hl ht
  obtain ⟨k,rfl⟩:∃ g,k=g+1:=⟨k-1,by omega⟩
  rw [gE,decide_eq_false (show ¬ (i:Int)<(lM.length:Int) by show ¬ (i:Int)<5;omega),cond_false]
  exact ⟨_,_,_,_,rfl,hc,by omega,ht⟩
 | succ d ih =>
  intro k acc p h i hc hd hk hl ht
  obtain ⟨k,rfl⟩:∃ g,k=g+1:=⟨k-1,by omega⟩
  have hi:i<lM.length:=by show i<5;omega
  have hs:∀ s∈lM,s.size≤5:=by decide
  have hs':=hs _ (List.getElem_mem hi)
  rw [gE,decide_eq_true (show (i:Int)<(lM.length:Int) by omega),cond_true,aN hi,bs]
  obtain ⟨y,q,g,e,hy,hc1⟩:=ic (N:=N) ha (h:=h) (l:=[3,6,9]) hc (by decide)
  have hyb:0≤y∧y≤10:=by
   simp only [List.mem_cons,List.not_mem_nil,or_false] at hy
   omega
  cases eqS lM[i] (⟨#[118]⟩:ByteArray) with
  | true =>
   obtain ⟨rows,q2,g2,e2,hc2,r1,r2⟩:=pG hM ha (h:=g) (n:=3) (m:=m) (y:=y) hc1 hm (by decide) (by omega)
   rw [cond_true,e,bs]
   dsimp only
   rw [e2,bs]
   dsimp only
   rw [bp (by decide) (by simp;omega),bs,ad1 (by omega),bs]
   refine ih k _ q2 g2 (i+1) hc2 (by omega) (by omega) (by simp;omega) fun t h=>?_
   rcases List.mem_append.1 h with h | h
   ·exact ht t h
   ·rw [List.mem_singleton] at h;rw [h];exact x4 hs' (by decide) hyb.2 r1 r2
  | false =>
   obtain ⟨rows,q2,g2,e2,hc2,r1,r2⟩:=pG hM ha (h:=g) (n:=2) (m:=m) (y:=y) hc1 hm (by decide) (by omega)
   rw [cond_false,e,bs]
   dsimp only
   rw [e2,bs]
   dsimp only
   rw [bp (by decide) (by simp;omega),bs,ad1 (by omega),bs]
   refine ih k _ q2 g2 (i+1) hc2 (by omega) (by omega) (by simp;omega) fun t h=>?_
   rcases List.mem_append.1 h with h | h
   ·exact ht t h
   ·rw [List.mem_singleton] at h;rw [h];exact x4 hs' (by decide) hyb.2 r1 r2
theorem tw {ts:List aV} {i:Nat} {t:aV} (h:∀ t∈ts,TSm t) (ht:TSm t):∀ u∈ts.set i t,TSm u:=fun u hu=>by
 rcases List.mem_or_eq_of_mem_set hu with h' | h'
 ·exact h u h'
 ·rw [h'];exact ht
theorem ma {α:Type} {xs:List α} {i:Int} {y:α} (h0:0≤i) (h:i<xs.length):sto xs i y=some (xs.set i.toNat y):=by
 obtain ⟨k,rfl⟩:=Int.eq_ofNat_of_zero_le h0
 exact kq (by omega)
theorem tW (hM:1073742848≤N) {a:List Int} (ha:ea a) {p h:Int} (hc:cn a p):∃ ts q g,lc N a p h=some (ts,q,g)∧cn a q∧ts.length=5∧∀ t∈ts,TSm t:=by
 unfold lc
 obtain ⟨m,q,g,e,hm,hc1⟩:=ic (N:=N) ha (h:=h) (l:=[2,3,4,6]) hc (by decide)
 have hmb:0<m∧m≤100:=by
  simp only [List.mem_cons,List.not_mem_nil,or_false] at hm
  omega
 rw [e,bs]
 dsimp only
 obtain ⟨q2,g2,ts,v,e2,hc2,hl,ht⟩:=BR hM ha (z:=[]) hmb 5 N [] q g 0 hc1 rfl (by omega) rfl (by simp)
 have e2':gE N N a q g [] m [] lM (lM.length:Int) 0=some (q2,g2,ts,v):=e2
 rw [e2',bs]
 unfold lpB
 dsimp only
 obtain ⟨b,q3,g3,e3,hc3⟩:=mq (N:=N) ha (h:=g2) (n:=8) hc2
 rw [e3,bs]
 dsimp only
 cases b with
 | false=>rw [cond_false];exact ⟨_,_,_,rfl,hc3,hl,ht⟩
 | true =>
  obtain ⟨x,q4,g4,e4,b0,b1,_,hc4⟩:=cm (N:=N) ha (h:=g3) (n:=5) hc3
  have b1:=b1 (by decide)
  have hx:x<(ts.length:Int):=by omega
  have hm:=ht _ (List.getElem_mem (show x.toNat<ts.length by omega))
  rw [cond_true,e4,bs]
  dsimp only
  rw [im b0 hx,bs,ma b0 hx,bs]
  exact ⟨_,_,_,rfl,hc4,by rw [List.length_set];exact hl,tw ht ⟨hm.1,Nat.zero_le _,fun r hr=>by cases hr⟩⟩
theorem uv.t {r:Int × aG} {s:ByteArray} (hs:s.size≤5) (k:uv r):TSm (s,r):=⟨hs,by show r.2.length≤10;have:=k.2.1;omega,fun w hw=>(k.2.2 w hw).1⟩
theorem xA (hM:1073742848≤N) {a:List Int} (ha:ea a) {p h:Int} (hc:cn a p):∃ ts q g,lu N a p h=some (ts,q,g)∧cn a q∧DSm ts:=by
 have hN:1073741824≤N:=by omega
 obtain ⟨ts,q,g,e,hc1,hl,ht⟩:=tW hM ha (h:=h) hc
 obtain ⟨x,q2,g2,e2,b0,b1,_,hc2⟩:=cm (N:=N) ha (h:=g) (n:=5) hc1
 have b1:=b1 (by decide)
 obtain ⟨y,q3,g3,e3,_,_,_,hc3⟩:=cm (N:=N) ha (h:=g2) (n:=14) hc2
 have hx:x<(ts.length:Int):=by omega
 have hm:=ht _ (List.getElem_mem (show x.toNat<ts.length by omega))
 unfold lu
 rw [e,bs]
 dsimp only
 rw [e2,bs]
 dsimp only
 rw [e3,bs]
 dsimp only
 cases h0:(y == 0) with
 | true =>
  obtain ⟨s,q4,g4,e4,hs,hc4⟩:=nZ (N:=N) ha (h:=g3) (l:=[ByteArray.empty,(⟨#[82]⟩:ByteArray),(⟨#[97,98,99,100,101]⟩:ByteArray),(⟨#[97]⟩:ByteArray),(⟨#[122]⟩:ByteArray)]) hc3 (by decide)
  have hss:∀ s∈[ByteArray.empty,(⟨#[82]⟩:ByteArray),(⟨#[97,98,99,100,101]⟩:ByteArray),(⟨#[97]⟩:ByteArray),(⟨#[122]⟩:ByteArray)],s.size≤5:=by decide
  rw [cond_true,e4,bs,im b0 hx,bs,ma b0 hx,bs]
  exact ⟨_,_,_,rfl,hc4,by rw [List.length_set];omega,tw ht ⟨hss s hs,hm.2⟩⟩
 | false =>
 rw [cond_false]
 cases h1:(y == 1) with
 | true =>
  obtain ⟨r,q4,g4,e4,hc4,hr⟩:=xn hM ha (h:=g3) hc3
  rw [cond_true,e4,bs,im b0 hx,bs,ma b0 hx,bs]
  exact ⟨_,_,_,rfl,hc4,by rw [List.length_set];omega,tw ht (hr.t hm.1)⟩
 | false =>
 rw [cond_false]
 cases h2:(y == 2) with
 | true =>
  rw [cond_true,im b0 hx,bs,bp (by decide) (by simp;omega),bs]
  refine ⟨_,_,_,rfl,hc3,by simp;omega,fun t h=>?_⟩
  rcases List.mem_append.1 h with h | h
  ·exact ht t h
  ·rw [List.mem_singleton] at h;rw [h];exact hm
 | false =>
 rw [cond_false]
 cases h3:(y == 3) with
 | true =>
  have es:slc ts 0 x=some ((ts.take x.toNat).drop 0):=by
   have:=je (xs:=ts) (lo:=0) (hi:=x.toNat) (by omega) (by omega)
   rwa [show ((x.toNat:Nat):Int)=x by omega] at this
  rw [cond_true,es,bs]
  refine ⟨_,_,_,rfl,hc3,by rw [List.drop_zero,List.length_take];omega,fun t h=>ht t (List.mem_of_mem_take (by simpa using h))⟩
 | false =>
 rw [cond_false]
 exact ⟨_,_,_,rfl,hc3,by omega,ht⟩
theorem vX (hM:1073742848≤N) {a:List Int} (ha:ea a) {p h:Int} (hc:cn a p):∃ ts r q g,kB N a p h=some (ts,r,q,g)∧cn a q∧DSm ts∧QSm r:=by
 have hN:1073741824≤N:=by omega
 obtain ⟨ts,q,g,e,hc1,hl,ht⟩:=tW hM ha (h:=h) hc
 obtain ⟨r,q2,g2,e2,hc2,hr⟩:=qP hN ha (h:=g) hc1
 obtain ⟨y,q3,g3,e3,_,_,_,hc3⟩:=cm (N:=N) ha (h:=g2) (n:=24) hc2
 unfold kB
 rw [e,bs]
 dsimp only
 rw [e2,bs]
 dsimp only
 rw [e3,bs]
 dsimp only
 cases h0:(y == 0) with
 | true =>
  obtain ⟨ts2,q4,g4,e4,hc4,ht4⟩:=xA hM ha (h:=g3) hc3
  rw [cond_true,e4,bs]
  exact ⟨_,_,_,_,rfl,hc4,ht4,hr.sm⟩
 | false =>
 rw [cond_false]
 cases h1:(y == 1) with
 | true =>
  obtain ⟨r2,q4,g4,e4,hc4,hr4⟩:=xo hN ha (h:=g3) hc3
  rw [cond_true,e4,bs]
  exact ⟨_,_,_,_,rfl,hc4,⟨by omega,ht⟩,hr4⟩
 | false =>
 rw [cond_false]
 exact ⟨_,_,_,_,rfl,hc3,⟨by omega,ht⟩,hr.sm⟩
theorem xr (hN:1073741824≤N) {a acc:List Int} {p h:Int} {n v:Nat} (hn:n≤5) (hacc:acc.length≤5) (hv:v<n) (hf:(v:Int)∉acc):∀ (d k r:Nat),r<n→(r+d=v∨r+d=v+n)→d≤n→d<k→∃ x:Int,fW N k a p h (n:Int) acc (r:Int)=some x∧0≤x∧x<n:=by
 intro d
 induction d with
 | zero =>
  intro k r hr hd _ hk
  obtain ⟨k,rfl⟩:∃ g,k=g+1:=⟨k-1,by omega⟩
  have:r=v:=by omega
  subst this
  have hneg:¬ 0≤cb acc (r:Int):=fun h=>hf (me.1 h)
  rw [fW,jn hN (by omega),bs,decide_eq_false hneg,cond_false]
  exact ⟨_,rfl,by omega,by omega⟩
 | succ d ih =>
  intro k r hr hd hdn hk
  obtain ⟨k,rfl⟩:∃ g,k=g+1:=⟨k-1,by omega⟩
  rw [fW,jn hN (by omega),bs]
  by_cases hq:0≤cb acc (r:Int)
  ·rw [decide_eq_true hq,cond_true,ad1 (by omega),bs,qZ (by omega),bs]
   by_cases hw:r+1=n
   ·have e:(((r+1:Nat):Int)).tmod (n:Int)=((0:Nat):Int):=by rw [hw,Int.tmod_self];rfl
    rw [e]
    exact ih k 0 (by omega) (by omega) (by omega) (by omega)
   ·have e:(((r+1:Nat):Int)).tmod (n:Int)=((r+1:Nat):Int):=Int.tmod_eq_of_lt (by omega) (by omega)
    rw [e]
    exact ih k (r+1) (by omega) (by omega) (by omega) (by omega)
  ·rw [decide_eq_false hq,cond_false]
   exact ⟨_,rfl,by omega,by omega⟩
theorem xM (hN:1073741824≤N) {a:List Int} (ha:ea a) {n:Nat} (hn:n≤5):∀ (d k:Nat) (acc:List Int) (p h:Int),cn a p→acc.length+d=n→d<k→(∀ v∈acc,0≤v∧v<n) →
  ∃ q g out,gR N k a p h (n:Int) acc=some (q,g,out)∧cn a q∧out.length=n∧∀ v∈out,0≤v∧v<n:=by
 intro d
 induction d with
 | zero =>
  intro k acc p h hc hd hk hv
  obtain ⟨k,rfl⟩:∃ g,k=g+1:=⟨k-1,by omega⟩
  rw [gR,decide_eq_false (by omega),cond_false]
  exact ⟨_,_,_,rfl,hc,by omega,hv⟩
 | succ d ih =>
  intro k acc p h hc hd hk hv
  obtain ⟨k,rfl⟩:∃ g,k=g+1:=⟨k-1,by omega⟩
  obtain ⟨x,q,g,e,b0,b1,_,hc1⟩:=cm (N:=N) ha (h:=h) (n:=(n:Int)) hc
  have b1:=b1 (by omega)
  obtain ⟨v,hv1,hv2⟩:=zk n acc (by omega)
  obtain ⟨r,rfl⟩:=Int.eq_ofNat_of_zero_le b0
  obtain ⟨y,e2,y0,y1⟩:=xr hN (a:=a) (p:=q) (h:=g) hn (by omega) hv1 hv2 (if r≤v then v-r else v+n-r) N r (by omega) (by split <;> omega) (by split <;> omega) (by split <;> omega)
  rw [gR,decide_eq_true (by omega),cond_true,e,bs]
  dsimp only
  have e2':fW N N a q g (n:Int) acc ((r:Nat):Int)=some y:=e2
  rw [e2',bs]
  unfold lpB
  dsimp only
  rw [bp (by decide) (by simp;omega),bs]
  refine ih k _ q g hc1 (by simp;omega) (by omega) fun w hw=>?_
  rcases List.mem_append.1 hw with h | h
  ·exact hv w h
  ·rw [List.mem_singleton] at h;rw [h];exact ⟨y0,y1⟩
theorem vz (hN:1073741824≤N) {a:List Int} (ha:ea a) {p h:Int} {n:Nat} (hn:n≤5) (hc:cn a p):∃ out q g,jX N a p h (n:Int)=some (out,q,g)∧cn a q∧out.length=n:=by
 obtain ⟨q,g,out,e,h1,h2,_⟩:=xM hN ha hn n N [] p h hc (by simp) (by omega) (by simp)
 unfold jX
 rw [e,bs]
 exact ⟨_,_,_,rfl,h1,h2⟩
theorem un (hN:1073741824≤N) {a:List Int} (ha:ea a) {p h n:Int} {ats:List aS} {o:List Int} (hc:cn a p):∃ out q g,ju N a p h n ats o=some (out,q,g)∧cn a q∧out.length≤5:=by
 unfold ju
 have hi:∃ m:Nat,imx 0 (imn 5 n)=(m:Int)∧m≤5:=by
  have h1:0≤imx 0 (imn 5 n)∧imx 0 (imn 5 n)≤5:=by
   unfold imx imn
   split <;> split at*<;> omega
  exact ⟨(imx 0 (imn 5 n)).toNat,by omega,by omega⟩
 obtain ⟨m,em,hm⟩:=hi
 obtain ⟨out,q,g,e,hc1,hl⟩:=vz hN ha (h:=h) hm hc
 rw [em,e,bs]
 dsimp only
 by_cases h0:(0:Int)<(out.length:Int)
 ·obtain ⟨b,q2,g2,e2,hc2⟩:=mq (N:=N) ha (h:=g) (n:=14) hc1
  rw [decide_eq_true h0,cond_true,e2,bs]
  dsimp only
  cases b with
  | false=>rw [cond_false];exact ⟨_,_,_,rfl,hc2,by omega⟩
  | true =>
   obtain ⟨x,q3,g3,e3,_,_,_,hc3⟩:=cm (N:=N) ha (h:=g2) (n:=6) hc2
   rw [cond_true,e3,bs,im (by decide) h0,bs,ma (by decide) h0,bs]
   exact ⟨_,_,_,rfl,hc3,by rw [List.length_set];omega⟩
 ·rw [decide_eq_false h0,cond_false];exact ⟨_,_,_,rfl,hc1,by rw [hl];exact hm⟩
def JSm (ts:List aV) (r:nr) (o:List Int):Prop:=DSm ts∧QSm r∧o.length≤5
theorem JSm.o {ts:List aV} {r:nr} {o:List Int} (h:JSm ts r o):okI o:=⟨by have:=h.2.2;omega,fun _ _=>trivial⟩
theorem vv (hM:1073742848≤N) {a:List Int} (ha:ea a) {p h:Int} (hc:cn a p):∃ ts r o q g,kf N a p h=some (ts,r,o,q,g)∧cn a q∧JSm ts r o:=by
 obtain ⟨ts,r,q,g,e,hc1,ht,hr⟩:=vX hM ha (h:=h) hc
 unfold kf
 rw [e,bs]
 dsimp only
 obtain ⟨o,q2,g2,e2,hc2,hl⟩:=un (N:=N) (by omega) ha (h:=g) (n:=r.1) (ats:=r.2.1) (o:=r.2.2) hc1
 rw [e2,bs]
 exact ⟨_,_,_,_,_,rfl,hc2,ht,hr,hl⟩
theorem Ck {a:List Int}:cn a 0:=⟨Int.le_refl _,by omega⟩
theorem pT (hM:1073742848≤N) {a:List Int} (ha:ea a):∃ ts r o,gh N a=some (ts,r,o)∧JSm ts r o:=by
 obtain ⟨h,e⟩:=xx (N:=N) (by omega) ha
 obtain ⟨ts,r,o,q,g,e2,_,hj⟩:=vv hM ha (h:=h) Ck
 unfold gh
 rw [e,bs]
 dsimp only
 rw [e2,bs]
 exact ⟨_,_,_,rfl,hj⟩
end
end Go.Proofs.YtoijldeajagjjaaGreat
namespace Go.Proofs.YtoijldeajagjjaaGreat
open Go.RowKit

theorem uj {f:Nxt}:∀ {m:Nat} {p0 s r:List Int},r∈(bu f m p0).1→s.length<m→r.take (p0++s).length=p0++s→∃ h:(p0++s).length<r.length,r[(p0++s).length]∈(f (p0++s)).1
 | 0,_,_,_,_,hs,_=>absurd hs (Nat.not_lt_zero _)
 | m+1,p0,s,r,hr,hs,ht=>by
  obtain ⟨v,hv,hr⟩:=List.mem_flatMap.1 hr
  obtain ⟨s',e,hl⟩:=jR hr
  cases s with
  | nil =>
   subst e
   simp only [List.append_nil]
   refine ⟨by simp,?_⟩
   have:(p0++[v]++s')[p0.length]'(by simp)=v:=by simp
   rw [this];exact hv
  | cons w s =>
   have hw:w=v:=by
    subst e
    have h1:=congrArg (fun l:List Int=>l[p0.length]?) ht
    simp only [List.length_append,List.length_cons,List.append_assoc] at h1
    rw [List.getElem?_take_of_lt (by omega)] at h1
    simpa using h1.symm
   subst hw
   have e2:p0++w :: s=p0++[w]++s:=by simp
   rw [e2] at ht ⊢
   exact uj hr (by simp at hs;omega) ht
theorem tS {f g:Nxt} {n:Nat} (h:∀ p:List Int,p.length<n→(f p).1=(g p).1):∀ (m:Nat) (p:List Int),p.length+m≤n→(bu f m p).1=(bu g m p).1
 | 0,_,_=>rfl
 | m+1,p,hp=>by
  show (f p).1.flatMap (fun v=>(bu f m (p++[v])).1)=(g p).1.flatMap fun v=>(bu g m (p++[v])).1
  rw [h p (by omega)]
  congr 1
  funext v
  exact tS h m _ (by simp;omega)
theorem s8 {ts:List aV} {n:Nat} {atoms:List aS} {order:List Int} (q:QFor ts n atoms order):(bu (aY ts order atoms) n []).1=(bu (sY ts order atoms) n []).1 :=
 tS (n:=n) (fun p hp=>vG ((iT q).asc p) ((zr q).asc p) (Cg q hp)) n [] (by simp)
end Go.Proofs.YtoijldeajagjjaaGreat
namespace Go.Proofs.YtoijldeajagjjaaGreat
open Go.RowKit

section
variable {N:Nat}
theorem oy (hM:1073742848≤N) {a:List Int} (ha:ea a):∃ ts r o,fo N a=some (ts,r,o)∧JSm ts r o:=by
 obtain ⟨ts,r,o,e,hj⟩:=pT hM ha
 unfold fo
 rw [e,bs]
 exact ⟨_,_,_,rfl,hj⟩
end
theorem lh {ts:List aV} {n:Nat} {atoms:List aS} {order:List Int} (q:QFor ts n atoms order) {v:Int} (h0:0≤v) (h1:v<n):v∈order:=by
 apply Classical.byContradiction
 intro hn
 obtain ⟨h2,h3⟩:=fG q.os
 have:=jD n (v :: order) (List.nodup_cons.2 ⟨hn,h2⟩) (fun x hx=>by
  rcases List.mem_cons.1 hx with rfl | h
  ·exact ⟨h0,h1⟩
  ·have:=h3 x h;omega)
 rw [List.length_cons,q.ol] at this
 omega
theorem xI {ts:List aV} {n:Nat} {atoms:List aS} {order:List Int} (q:QFor ts n atoms order) (he:iK (bv ts order atoms)=true):(bu (sY ts order atoms) n []).1=[]:=by
 refine List.eq_nil_iff_forall_not_mem.2 fun r hr=>?_
 unfold iK bv at he
 rw [List.any_eq_true] at he
 obtain ⟨t,ht,h0⟩:=he
 rw [decide_eq_true_eq] at h0
 obtain ⟨a,ha,rfl⟩:=List.mem_map.1 ht
 obtain ⟨i,hi,rfl⟩:=List.getElem_of_mem ha
 obtain ⟨h1,h2,h3⟩:=q.al _ ha
 have hv:=h3 _ (List.getElem_mem (show 0<atoms[i].2.length by omega))
 obtain ⟨l,hl,el⟩:=List.getElem_of_mem (lh q hv.1 hv.2)
 have hol:=q.ol
 obtain ⟨s,e,hs⟩:=jR hr
 have hrl:r.length=n:=by rw [e];exact hs
 have hpl:(r.take l).length=l:=by rw [List.length_take];omega
 obtain ⟨w1,w2⟩:=uj (p0:=[]) (s:=r.take l) hr (by omega) (by rw [List.nil_append,hpl])
 obtain ⟨x,w2⟩:∃ x,x∈(sY ts order atoms (r.take l)).1:=⟨_,by simpa using w2⟩
 have k:=nX (ls:=dZ ts order atoms (r.take l)) (B:=16) fun l hl=>(gF q l hl).1
 have hin:atV ts order atoms (r.take l) i∈dZ ts order atoms (r.take l):=by
  unfold dZ
  rw [hpl]
  refine List.mem_map.2 ⟨i,kR.2 ⟨hi,?_⟩,rfl⟩
  rw [bh hl,el,fw hi]
  exact List.getElem_mem _
 have hx:=k.2.1 _ w2 _ hin
 unfold atV at hx
 rw [fw hi] at hx
 have hlen:=tZ (hJ ts order atoms[i]).1 (hJ ts order atoms[i]).2 (kx atoms[i].2 order (r.take l))
 have:=List.length_pos_of_mem hx
 omega
end Go.Proofs.YtoijldeajagjjaaGreat
namespace Go.Proofs.YtoijldeajagjjaaGreat
open Go.RowKit

def iI (order r:List Int) (v:Int):Int:=r.getD (cb order v).toNat 0
def ez (ts:List aV) (a:aS):aG:=(bR ts a.1).1.2
def nE (ts:List aV) (atoms:List aS) (f:Int→Int):Prop:=∀ a∈atoms,a.2.map f∈ez ts a
theorem j5 {vs:List Int} {v:Int} (h:v∈vs):∃ j:Nat,cb vs v=(j:Int)∧∃ hj:j<vs.length,vs[j]=v:=by
 rcases lE vs v with ⟨h1,_⟩ | ⟨j,hj,e,e2,_⟩
 ·exact absurd h h1
 ·exact ⟨j,e2,hj,e⟩
theorem tc {vs:List Int} {f:Int→Int} {j:Nat} (h:j<vs.length):(vs.map f).getD j 0=f vs[j]:=by
 rw [bh (by rw [List.length_map];exact h),List.getElem_map]
theorem oY (vars:List Int):∀ (l out:List Int),l.Nodup→(∀ v∈l,v∈vars→cb vars v∉out)→l.foldl (d9 vars) out=out++(l.filter fun v=>decide (v∈vars)).map (cb vars)
 | [],out,_,_=>by simp
 | v :: l,out,hn,ho=>by
  obtain ⟨n1,n2⟩:=List.nodup_cons.1 hn
  rw [List.foldl_cons]
  by_cases hv:v∈vars
  ·have e:d9 vars out v=out++[cb vars v]:=by
    unfold d9
    rw [decide_eq_true (me.2 hv),decide_eq_false (ho v List.mem_cons_self hv)];rfl
   rw [e,oY vars l _ n2 (fun w hw hwv hm=>by
    rcases List.mem_append.1 hm with h | h
    ·exact ho w (List.mem_cons_of_mem _ hw) hwv h
    ·rw [List.mem_singleton] at h
     obtain ⟨j,e1,hj,e2⟩:=j5 hwv
     obtain ⟨k,e3,hk,e4⟩:=j5 hv
     have:j=k:=by omega
     subst this
     rw [e2] at e4;subst e4;exact n1 hw),List.filter_cons,if_pos (by simpa using hv)]
   simp
  ·have e:d9 vars out v=out:=by
    unfold d9
    rw [decide_eq_false (fun h=>hv (me.1 h))];rfl
   rw [e,oY vars l _ n2 (fun w hw=>ho w (List.mem_cons_of_mem _ hw)),List.filter_cons,if_neg (by simpa using hv)]
theorem qK {vs order x:List Int} (hn:order.Nodup):bZ (dk vs x) (iy vs order)=(order.filter fun v=>decide (v∈bc vs)).map fun v=>x.getD (cb vs v).toNat 0:=by
 unfold iy
 rw [oY _ _ _ hn (by simp),List.nil_append]
 unfold bZ
 rw [List.map_map]
 refine List.map_congr_left fun v hv=>?_
 rw [List.mem_filter,decide_eq_true_eq] at hv
 obtain ⟨j,e1,hj,e2⟩:=j5 hv.2
 show (dk vs x).getD (cb (bc vs) v).toNat 0=_
 unfold dk
 rw [e1,Int.toNat_natCast,tc hj,e2]
theorem vp {ts:List aV} {order:List Int} {a:aS} {t:List Int}:t∈(hJ ts order a).2↔∃ x∈ez ts a,eF a.2 x=true∧t=bZ (dk a.2 x) (iy a.2 order):=by
 unfold hJ ez
 dsimp only
 rw [f9,List.mem_map]
 constructor
 ·rintro ⟨y,hy,rfl⟩
  rw [f9] at hy
  unfold bT at hy
  obtain ⟨x,hx,rfl⟩:=List.mem_map.1 hy
  rw [List.mem_filter] at hx
  exact ⟨x,hx.1,hx.2,rfl⟩
 ·rintro ⟨x,h1,h2,rfl⟩
  refine ⟨_,(f9 _ _ _).2 (List.mem_map.2 ⟨x,List.mem_filter.2 ⟨h1,h2⟩,rfl⟩),rfl⟩
theorem vw {vs order r:List Int} (hn:order.Nodup):∀ m,m≤order.length→fd vs order r m=((order.take m).filter fun v=>decide (v∈vs)).map (iI order r)
 | 0,_=>rfl
 | m+1,h=>by
  rw [jo,vw hn m (by omega),List.take_succ_eq_append_getElem (by omega),List.filter_append,List.map_append,bh (by omega)]
  by_cases hv:order[m]∈vs
  ·rw [decide_eq_true hv,cond_true,List.filter_cons,if_pos (by simpa using hv)]
   simp only [List.filter_nil,List.map_cons,List.map_nil]
   unfold iI
   rw [rW hn,Int.toNat_natCast]
  ·rw [decide_eq_false hv,cond_false,List.filter_cons,if_neg (by simpa using hv)]
   simp
theorem xc {vs x:List Int} (h:eF vs x=true) {i:Nat} (hi:i<vs.length):x.getD (cb vs vs[i]).toNat 0=x.getD i 0:=by
 unfold eF lC at h
 rw [List.all_eq_true] at h
 have:=h i (by simp;omega)
 unfold nP at this
 rw [decide_eq_true_eq,bh hi] at this
 exact this
theorem xJ {vs x:List Int} (h:∀ i (hi:i<vs.length),x.getD (cb vs vs[i]).toNat 0=x.getD i 0):eF vs x=true:=by
 unfold eF lC
 rw [List.all_eq_true]
 intro i hi
 have hi:i<vs.length:=by simpa using hi
 unfold nP
 rw [decide_eq_true_eq,bh hi]
 exact h i hi
section
variable {ts:List aV} {n:Nat} {atoms:List aS} {order:List Int}
theorem pC (q:QFor ts n atoms order):order.Nodup:=(fG q.os).1
theorem rG (q:QFor ts n atoms order) {a:aS} {r:List Int} (hr:r.length=n):kx a.2 order r=(order.filter fun v=>decide (v∈bc a.2)).map (iI order r):=by
 unfold kx
 have hb:=(fG q.os).2
 have h5:=q.n5
 rw [vw (pC q) _ (by rw [q.ol,hr];exact Nat.le_refl _),hr,← q.ol,List.take_length]
 congr 1
 refine List.filter_congr fun v hv=>?_
 rw [decide_eq_decide,hY]
 have:=hb v hv
 exact ⟨fun h=>⟨by omega,h⟩,fun h=>h.2⟩
theorem mb (q:QFor ts n atoms order) {a:aS} (ha:a∈atoms) {x:List Int} (hx:x∈ez ts a):x.length=a.2.length∧bk x=true:=by
 obtain ⟨h1,h2⟩:=q.af a ha
 obtain ⟨_,h4⟩:=pE h1 h2
 obtain ⟨i,hi,rfl⟩:=List.getElem_of_mem hx
 exact h4 i hi
theorem vD (q:QFor ts n atoms order) {a:aS} (ha:a∈atoms) {r:List Int} (hr:r.length=n):kx a.2 order r∈(hJ ts order a).2↔a.2.map (iI order r)∈ez ts a:=by
 have hnd:=pC q
 obtain ⟨hl5,hl1,hv⟩:=q.al a ha
 have hF:∀ v∈a.2,v∈order.filter fun v=>decide (v∈bc a.2):=fun v hm=>by
  have h5:=q.n5
  have:=hv v hm
  rw [List.mem_filter,decide_eq_true_eq,hY]
  exact ⟨lh q this.1 this.2,by omega,hm⟩
 have hF2:∀ v,v∈(order.filter fun v=>decide (v∈bc a.2))→v∈a.2:=fun v hm=>by
  rw [List.mem_filter,decide_eq_true_eq,hY] at hm
  exact hm.2.2
 rw [vp,rG q hr]
 constructor
 ·rintro ⟨x,hx,hf,e⟩
  rw [qK hnd,List.map_inj_left] at e
  have hxl:=(mb q ha hx).1
  have:a.2.map (iI order r)=x:=by
   refine List.ext_getElem (by rw [List.length_map,hxl]) fun i h1 h2=>?_
   have hi:i<a.2.length:=by rw [← hxl];exact h2
   rw [List.getElem_map,e _ (hF _ (List.getElem_mem hi)),xc hf hi,bh h2]
  rw [this];exact hx
 ·intro hx
  have key:∀ v∈a.2,(a.2.map (iI order r)).getD (cb a.2 v).toNat 0=iI order r v:=fun v hm=>by
   obtain ⟨j,e1,hj,e2⟩:=j5 hm
   rw [e1,Int.toNat_natCast,tc hj,e2]
  refine ⟨_,hx,xJ fun i hi=>?_,?_⟩
  ·rw [key _ (List.getElem_mem hi),tc hi]
  ·rw [qK hnd]
   exact List.map_congr_left fun v hm=>(key v (hF2 v hm)).symm
theorem sc {f:Nxt}:∀ {m:Nat} {p r:List Int},r∈(bu f m p).1↔∃ s,r=p++s∧s.length=m∧∀ l (h:l<s.length),s[l]∈(f (p++s.take l)).1
 | 0,p,r=>by
  constructor
  ·intro h;exact ⟨[],by rw [List.append_nil];exact List.mem_singleton.1 h,rfl,fun l h=>absurd h (Nat.not_lt_zero _)⟩
  ·rintro ⟨s,rfl,hs,_⟩
   rw [List.length_eq_zero_iff.1 hs,List.append_nil];exact List.mem_singleton.2 rfl
 | m+1,p,r=>by
  constructor
  ·intro h
   obtain ⟨v,hv,h⟩:=List.mem_flatMap.1 h
   obtain ⟨s,rfl,hs,hl⟩:=sc.1 h
   refine ⟨v :: s,by simp,by simp [hs],fun l h=>?_⟩
   cases l with
   | zero=>simpa using hv
   | succ l =>
    have:=hl l (by simpa using h)
    simpa using this
  ·rintro ⟨s,rfl,hs,hl⟩
   cases s with
   | nil=>simp at hs
   | cons v s =>
    have h0:=hl 0 (by simp)
    rw [List.take_zero,List.append_nil] at h0
    refine List.mem_flatMap.2 ⟨v,h0,sc.2 ⟨s,by simp,by simpa using hs,fun l h=>?_⟩⟩
    have:=hl (l+1) (by simpa using h)
    simpa using this
theorem uh (q:QFor ts n atoms order) {p:List Int} (hp:p.length<n) {x:Int}:x∈(aY ts order atoms p).1↔∀ i,i<atoms.length→order.getD p.length 0∈(eH atoms i).2→x∈atV ts order atoms p i:=by
 have ha:=sL q hp
 have k1:=pg (ls:=dZ ts order atoms p) (B:=16) fun l hl=>(gF q l hl).1
 have hm:(∀ l∈dZ ts order atoms p,x∈l)↔∀ i,i<atoms.length→order.getD p.length 0∈(eH atoms i).2→x∈atV ts order atoms p i:=by
  unfold dZ
  constructor
  ·intro h i hi hv
   exact h _ (List.mem_map.2 ⟨i,kR.2 ⟨hi,hv⟩,rfl⟩)
  ·intro h l hl
   obtain ⟨i,hi,rfl⟩:=List.mem_map.1 hl
   exact h i (kR.1 hi).1 (kR.1 hi).2
 rw [← hm]
 exact ⟨fun h=>k1.2.1 x h,fun h=>k1.2.2.2.2 ha x h⟩
theorem tH {vs order r:List Int}:∀ {l m:Nat},l≤m→m≤r.length→fd vs order (r.take m) l=fd vs order r l
 | 0,_,_,_=>rfl
 | l+1,m,h,hm=>by
  rw [jo,jo,tH (by omega) hm,bh (xs:=r.take m) (by rw [List.length_take];omega),bh (xs:=r) (by omega),List.getElem_take]
theorem vC {vs order r:List Int}:∀ {l m:Nat},l≤m→∃ t,fd vs order r m=fd vs order r l++t
 | l,0,h=>by
  obtain rfl:l=0:=by omega
  exact ⟨[],by simp⟩
 | l,m+1,h=>by
  by_cases e:l=m+1
  ·subst e;exact ⟨[],by simp⟩
  ·obtain ⟨t,ht⟩:=vC (vs:=vs) (order:=order) (r:=r) (show l≤m by omega)
   rw [jo,ht]
   cases decide (order.getD m 0∈vs)
   ·exact ⟨t,rfl⟩
   ·exact ⟨t++[r.getD m 0],by simp⟩
theorem tN {vs order r:List Int}:∀ {m:Nat},fd vs order r m≠[]→∃ l,l<m∧order.getD l 0∈vs∧fd vs order r m=fd vs order r l++[r.getD l 0]
 | 0,h=>absurd rfl h
 | m+1,h=>by
  rw [jo] at h ⊢
  by_cases hv:order.getD m 0∈vs
  ·rw [decide_eq_true hv,cond_true];exact ⟨m,by omega,hv,rfl⟩
  ·rw [decide_eq_false hv,cond_false] at h ⊢
   obtain ⟨l,h1,h2,h3⟩:=tN h
   exact ⟨l,by omega,h2,h3⟩
theorem vK (q:QFor ts n atoms order) {a:aS} (ha:a∈atoms) {t:List Int} (ht:t∈(hJ ts order a).2):(t.length:Int)=(hJ ts order a).1:=by
 obtain ⟨_,_,h3,_⟩:=lW q ha
 obtain ⟨_,_,_,h4⟩:=bH h3
 obtain ⟨i,hi,rfl⟩:=List.getElem_of_mem ht
 exact (h4 i hi).1
theorem nS (q:QFor ts n atoms order) {r:List Int}:r∈(bu (aY ts order atoms) n []).1↔r.length=n∧nE ts atoms (iI order r):=by
 have hol:=q.ol
 have step:∀ {r:List Int},r.length=n→((∀ l (h:l<r.length),r[l]∈(aY ts order atoms (r.take l)).1)↔∀ a∈atoms,kx a.2 order r∈(hJ ts order a).2):=by
  intro r hr
  have own:∀ {l:Nat} (vs:List Int),l≤n→kx vs order (r.take l)=fd vs order r l:=fun {l} vs hl=>by
   unfold kx
   rw [List.length_take,Nat.min_eq_left (by omega),tH (Nat.le_refl _) (by omega)]
  have full:∀ vs:List Int,kx vs order r=fd vs order r n:=fun vs=>by unfold kx;rw [hr]
  constructor
  ·intro h a ha
   obtain ⟨i,hi,rfl⟩:=List.getElem_of_mem ha
   rw [full]
   have hne:fd atoms[i].2 order r n≠[]:=fun e=>by
    have h2:=rG q (a:=atoms[i]) hr
    rw [full,e] at h2
    obtain ⟨_,h1,hv⟩:=q.al _ ha
    have h3:=hv _ (List.getElem_mem (show 0<atoms[i].2.length by omega))
    have h5:=q.n5
    have h4:atoms[i].2[0]'(by omega)∈order.filter fun v=>decide (v∈bc atoms[i].2):=by
     rw [List.mem_filter,decide_eq_true_eq,hY]
     exact ⟨lh q h3.1 h3.2,by omega,List.getElem_mem _⟩
    have:=congrArg List.length h2
    rw [List.length_map] at this
    have h6:=List.length_pos_of_mem h4
    simp at this
    omega
   obtain ⟨l,h1,h2,h3⟩:=tN hne
   have hk:=(uh q (p:=r.take l) (by rw [List.length_take];omega)).1 (h l (by omega)) i hi (by rw [List.length_take,Nat.min_eq_left (by omega),fw hi];exact h2)
   unfold atV at hk
   rw [fw hi,own _ (by omega)] at hk
   unfold kg at hk
   split at hk
   ·obtain ⟨t,ht,e1,e2⟩:=qk.1 hk
    have htl:=vK q ha ht
    have hown:=rG q (a:=atoms[i]) hr
    rw [full] at hown
    have hlen:(fd atoms[i].2 order r n).length=t.length:=by
     obtain ⟨x,_,_,e5⟩:=vp.1 ht
     rw [qK (pC q)] at e5
     rw [hown,e5,List.length_map,List.length_map]
    have:fd atoms[i].2 order r n=t:=by
     rw [h3] at hlen ⊢
     rw [List.length_append] at hlen
     refine List.ext_getElem (by rw [List.length_append];exact hlen) fun j j1 j2=>?_
     by_cases hj:j<(fd atoms[i].2 order r l).length
     ·rw [List.getElem_append_left hj]
      have:=List.getElem_of_eq e1.symm (i:=j) hj
      rw [this,List.getElem_take]
     ·have hj':j=(fd atoms[i].2 order r l).length:=by simp at j1;omega
      subst hj'
      rw [List.getElem_append_right (Nat.le_refl _)]
      simp only [Nat.sub_self,List.getElem_cons_zero]
      rw [bh (by omega)] at e2 ⊢
      exact e2
    rw [this];exact ht
   ·cases hk
  ·intro h l hl
   refine (uh q (by rw [List.length_take];omega)).2 fun i hi hv=>?_
   rw [List.length_take,Nat.min_eq_left (by omega),fw hi] at hv
   have ha:=List.getElem_mem hi
   have ht:=h _ ha
   rw [full] at ht
   have htl:=vK q ha ht
   unfold atV
   rw [fw hi,own _ (by omega)]
   obtain ⟨t,e⟩:=vC (vs:=atoms[i].2) (order:=order) (r:=r) (show l+1≤n by omega)
   rw [jo,decide_eq_true hv,cond_true,List.append_assoc] at e
   have hlt:(fd atoms[i].2 order r l).length<(fd atoms[i].2 order r n).length:=by rw [e];simp
   unfold kg
   rw [if_pos (by omega),qk]
   refine ⟨_,ht,by rw [e];simp,?_⟩
   rw [e,bh (xs:=_++_) (by simp),List.getElem_append_right (Nat.le_refl _)]
   simp only [Nat.sub_self,List.cons_append,List.nil_append,List.getElem_cons_zero]
   rw [bh (by omega)]
 rw [sc]
 constructor
 ·rintro ⟨s,e,hs,hl⟩
  rw [List.nil_append] at e
  subst e
  refine ⟨hs,fun a ha=>(vD q ha hs).1 ((step hs).1 (fun l h=>?_) a ha)⟩
  have:=hl l h
  rwa [List.nil_append] at this
 ·rintro ⟨hr,hb⟩
  refine ⟨r,rfl,hr,fun l h=>?_⟩
  rw [List.nil_append]
  exact (step hr).2 (fun a ha=>(vD q ha hr).2 (hb a ha)) l h
end
end Go.Proofs.YtoijldeajagjjaaGreat
namespace Go.Proofs.YtoijldeajagjjaaGreat
open Go.RowKit

def at0 (b:List Int) (v:Int):Int:=b.getD v.toNat 0
def jI (vs t:List Int):Nat→Nat→List Int→Option (List Int)
 | 0,_,row=>some row
 | m+1,k,row=>if at0 row (vs.getD k 0)=-1∨at0 row (vs.getD k 0)=t.getD k 0 then jI vs t m (k+1) (row.set (vs.getD k 0).toNat (t.getD k 0)) else none
def l8V (ts:List aV):List aS→List Int→aG
 | [],row=>[row]
 | a :: l,row=>(ez ts a).flatMap fun t=>match jI a.2 t a.2.length 0 row with | some row'=>l8V ts l row' | none=>[]
def mG (row b:List Int):Prop:=b.length=row.length∧∀ v:Int,0≤v→v<row.length→at0 row v≠-1→at0 b v=at0 row v
theorem w6 {row:List Int} {v w x:Int} (hv:0≤v) (hvl:v<row.length) (hw:0≤w):at0 (row.set v.toNat x) w=if w=v then x else at0 row w:=by
 unfold at0
 by_cases h:w=v
 ·subst h
  rw [if_pos rfl,List.getD_eq_getElem?_getD,List.getElem?_set_self (by omega),Option.getD_some]
 ·rw [if_neg h,List.getD_eq_getElem?_getD,List.getElem?_set_ne (by omega),List.getD_eq_getElem?_getD]
theorem tP {vs t:List Int} (hl:t.length=vs.length) (ht:∀ x∈t,0≤x):∀ (m k:Nat) (row:List Int),k+m=vs.length→(∀ v∈vs,0≤v∧v<(row.length:Int)) →
  match jI vs t m k row with
  | none=>∀ b,mG row b→¬ ∀ j,k≤j→j<k+m→at0 b (vs.getD j 0)=t.getD j 0
  | some row'=>row'.length=row.length∧(∀ b,mG row' b↔mG row b∧∀ j,k≤j→j<k+m→at0 b (vs.getD j 0)=t.getD j 0)∧∀ v:Int,0≤v→(at0 row' v=-1↔at0 row v=-1∧∀ j,k≤j→j<k+m→vs.getD j 0≠v):=by
 intro m
 induction m with
 | zero =>
  intro k row _ _
  unfold jI
  exact ⟨rfl,fun b=>⟨fun h=>⟨h,fun j h1 h2=>by omega⟩,fun h=>h.1⟩,fun v _=>⟨fun h=>⟨h,fun j h1 h2=>by omega⟩,fun h=>h.1⟩⟩
 | succ m ih =>
  intro k row hk hb
  have hkv:k<vs.length:=by omega
  obtain ⟨hv0,hv1⟩:=hb _ (List.getElem_mem hkv)
  have ev:vs.getD k 0=vs[k]:=bh hkv
  have et:t.getD k 0=t[k]'(by omega):=bh (by omega)
  have ht0:=ht _ (List.getElem_mem (show k<t.length by omega))
  unfold jI
  rw [ev,et]
  by_cases hc:at0 row vs[k]=-1∨at0 row vs[k]=t[k]
  ·rw [if_pos hc]
   have hset:∀ w:Int,0≤w→at0 (row.set (vs[k]).toNat (t[k]'(by omega))) w=if w=vs[k] then t[k]'(by omega) else at0 row w:=fun w hw=>w6 hv0 hv1 hw
   have hcom:∀ b,mG (row.set (vs[k]).toNat (t[k]'(by omega))) b↔mG row b∧at0 b vs[k]=t[k]'(by omega):=fun b=>by
    unfold mG
    rw [List.length_set]
    constructor
    ·rintro ⟨h1,h2⟩
     have h3:at0 b vs[k]=t[k]'(by omega):=by
      have:=h2 vs[k] hv0 hv1 (by rw [hset _ hv0,if_pos rfl];omega)
      rwa [hset _ hv0,if_pos rfl] at this
     refine ⟨⟨h1,fun w w0 w1 hw=>?_⟩,h3⟩
     by_cases e:w=vs[k]
     ·subst e
      rcases hc with hc | hc
      ·exact absurd hc hw
      ·rw [hc];exact h3
     ·have:=h2 w w0 w1 (by rw [hset _ w0,if_neg e];exact hw)
      rwa [hset _ w0,if_neg e] at this
    ·rintro ⟨⟨h1,h2⟩,h3⟩
     refine ⟨h1,fun w w0 w1 hw=>?_⟩
     rw [hset _ w0] at hw ⊢
     by_cases e:w=vs[k]
     ·rw [if_pos e,e];exact h3
     ·rw [if_neg e] at hw ⊢;exact h2 w w0 w1 hw
   have hall:∀ (P:Nat→Prop),(∀ j,k≤j→j<k+(m+1)→P j)↔P k∧∀ j,k+1≤j→j<k+1+m→P j:=fun P =>
    ⟨fun h=>⟨h k (Nat.le_refl _) (by omega),fun j h1 h2=>h j (by omega) (by omega)⟩,fun h j h1 h2=>by
     by_cases e:j=k
     ·subst e;exact h.1
     ·exact h.2 j (by omega) (by omega)⟩
   have hi:=ih (k+1) (row.set (vs[k]).toNat (t[k]'(by omega))) (by omega) (fun v hv=>by rw [List.length_set];exact hb v hv)
   cases he:jI vs t m (k+1) (row.set (vs[k]).toNat (t[k]'(by omega))) with
   | none =>
    rw [he] at hi
    intro b hbc hj
    rw [hall] at hj
    rw [ev,et] at hj
    exact hi b ((hcom b).2 ⟨hbc,hj.1⟩) hj.2
   | some row' =>
    rw [he] at hi
    obtain ⟨i1,i2,i3⟩:=hi
    refine ⟨by rw [i1,List.length_set],fun b=>?_,fun v hv=>?_⟩
    ·rw [i2,hcom,hall,ev,et];exact and_assoc
    ·rw [i3 v hv,hset v hv,hall,ev]
     by_cases e:v=vs[k]
     ·subst e
      rw [if_pos rfl]
      exact ⟨fun h=>by have:=h.1;omega,fun h=>absurd rfl h.2.1⟩
     ·rw [if_neg e]
      exact ⟨fun h=>⟨h.1,fun e2=>e e2.symm,h.2⟩,fun h=>⟨h.1,h.2.2⟩⟩
  ·rw [if_neg hc]
   intro b hbc hj
   have h1:=hj k (Nat.le_refl _) (by omega)
   rw [ev,et] at h1
   have h2:=hbc.2 vs[k] hv0 hv1 (fun e=>hc (.inl e))
   exact hc (.inr (by rw [← h2];exact h1))
theorem wJ {vs t b:List Int} (hl:t.length=vs.length):vs.map (at0 b)=t↔∀ j,0≤j→j<0+vs.length→at0 b (vs.getD j 0)=t.getD j 0:=by
 constructor
 ·rintro rfl j _ h
  rw [bh (xs:=vs) (by omega),tc (by omega)]
 ·intro h
  refine List.ext_getElem (by rw [List.length_map,hl]) fun j h1 h2=>?_
  have hj:j<vs.length:=by omega
  have:=h j (Nat.zero_le _) (by omega)
  rw [bh hj,bh h2] at this
  rw [List.getElem_map];exact this
theorem yj {ts:List aV}:∀ {l:List aS} {row b:List Int},(∀ a∈l,(∀ v∈a.2,0≤v∧v<(row.length:Int))∧∀ x∈ez ts a,x.length=a.2.length∧∀ y∈x,0≤y) →
  (b∈l8V ts l row↔(mG row b∧∀ v:Int,0≤v→v<row.length→at0 row v=-1→(∀ a∈l,v∉a.2)→at0 b v=-1)∧nE ts l (at0 b))
 | [],row,b,_=>by
  unfold l8V
  rw [List.mem_singleton]
  constructor
  ·rintro rfl
   exact ⟨⟨⟨rfl,fun _ _ _ _=>rfl⟩,fun v _ _ h _=>h⟩,fun a ha=>absurd ha (by simp)⟩
  ·rintro ⟨⟨⟨h1,h2⟩,h3⟩,_⟩
   refine List.ext_getElem h1 fun i i1 i2=>?_
   have e:∀ (r:List Int) (h:i<r.length),at0 r (i:Int)=r[i]:=fun r h=>by unfold at0;rw [Int.toNat_natCast,bh h]
   by_cases hm:at0 row (i:Int)=-1
   ·have:=h3 (i:Int) (by omega) (by omega) hm (by simp)
    rw [e _ i1] at this
    rw [e _ i2] at hm
    rw [this,hm]
   ·have:=h2 (i:Int) (by omega) (by omega) hm
    rwa [e _ i1,e _ i2] at this
 | a :: l,row,b,hok=>by
  obtain ⟨ha,hr⟩:=hok a List.mem_cons_self
  unfold l8V
  rw [List.mem_flatMap]
  have key:∀ t∈ez ts a,(b∈(match jI a.2 t a.2.length 0 row with | some row'=>l8V ts l row' | none=>[])↔a.2.map (at0 b)=t∧((mG row b∧∀ v:Int,0≤v→v<row.length→at0 row v=-1→(∀ a'∈a :: l,v∉a'.2)→at0 b v=-1)∧nE ts l (at0 b))):=fun t ht=>by
   obtain ⟨hl,h0⟩:=hr t ht
   have hs:=tP hl h0 a.2.length 0 row (by omega) ha
   cases he:jI a.2 t a.2.length 0 row with
   | none =>
    rw [he] at hs
    constructor
    ·intro h;cases h
    ·rintro ⟨h1,⟨h2,_⟩,_⟩
     exact absurd ((wJ hl).1 h1) (hs b h2)
   | some row' =>
    rw [he] at hs
    obtain ⟨s1,s2,s3⟩:=hs
    show b∈l8V ts l row'↔_
    rw [yj (fun a' h'=>by rw [s1];exact hok a' (List.mem_cons_of_mem _ h')),s2,← wJ hl,s1]
    have hv:∀ v:Int,0≤v→((∀ j,0≤j→j<0+a.2.length→a.2.getD j 0≠v)↔v∉a.2):=fun v _=>by
     constructor
     ·intro h hm
      obtain ⟨j,hj,e⟩:=List.getElem_of_mem hm
      exact h j (Nat.zero_le _) (by omega) (by rw [bh hj];exact e)
     ·intro h j _ hj e
      rw [bh (by omega)] at e
      exact h (by rw [← e];exact List.getElem_mem _)
    constructor
    ·rintro ⟨⟨⟨h1,h2⟩,h3⟩,h4⟩
     refine ⟨h2,⟨h1,fun v v0 v1 e hno=>h3 v v0 v1 ((s3 v v0).2 ⟨e,(hv v v0).2 (hno a List.mem_cons_self)⟩) fun a' h'=>hno a' (List.mem_cons_of_mem _ h')⟩,h4⟩
    ·rintro ⟨h2,⟨h1,h3⟩,h4⟩
     refine ⟨⟨⟨h1,h2⟩,fun v v0 v1 e hno=>?_⟩,h4⟩
     obtain ⟨e1,e2⟩:=(s3 v v0).1 e
     exact h3 v v0 v1 e1 fun a' h'=>by
      rcases List.mem_cons.1 h' with rfl | h'
      ·exact (hv v v0).1 e2
      ·exact hno a' h'
  constructor
  ·rintro ⟨t,ht,hb⟩
   obtain ⟨h1,h2,h3⟩:=(key t ht).1 hb
   refine ⟨h2,fun a' h'=>?_⟩
   rcases List.mem_cons.1 h' with rfl | h'
   ·rw [h1];exact ht
   ·exact h3 a' h'
  ·rintro ⟨h2,h3⟩
   exact ⟨_,h3 a List.mem_cons_self,(key _ (h3 a List.mem_cons_self)).2 ⟨rfl,h2,fun a' h'=>h3 a' (List.mem_cons_of_mem _ h')⟩⟩
theorem uD {ts:List aV}:∀ {l:List aS} {row:List Int},(∀ a∈l,(ez ts a).length≤16)→(l8V ts l row).length≤16 ^ l.length
 | [],_,_=>Nat.le_refl _
 | a :: l,row,h=>by
  unfold l8V
  have h2:=jB (g:=fun t=>match jI a.2 t a.2.length 0 row with | some row'=>l8V ts l row' | none=>[]) (k:=16 ^ l.length) (fun t=>by
   cases jI a.2 t a.2.length 0 row with
   | none=>exact Nat.zero_le _
   | some row'=>exact uD fun a' h'=>h a' (List.mem_cons_of_mem _ h')) (ez ts a)
  refine Nat.le_trans h2 ?_
  rw [List.length_cons,Nat.pow_succ,Nat.mul_comm (16 ^ l.length)]
  exact Nat.mul_le_mul_right _ (h a List.mem_cons_self)
section
variable {ts:List aV} {n:Nat} {atoms:List aS} {order:List Int}
theorem vf {x:List Int} (h:bk x=true):∀ y∈x,0≤y:=fun y hy=>by
 unfold bk at h
 rw [List.all_eq_true] at h
 exact (dj.1 (h y hy)).1
theorem o7 (q:QFor ts n atoms order):∀ a∈atoms,(ez ts a).length≤16:=fun a ha=>o8 (q.af a ha).1
theorem nf (q:QFor ts n atoms order) {b:List Int}:b∈l8V ts atoms (List.replicate n (-1))↔b.length=n∧nE ts atoms (at0 b):=by
 rw [yj (fun a ha=>⟨by rw [List.length_replicate];exact (q.al a ha).2.2,fun x hx=>⟨(mb q ha hx).1,vf (mb q ha hx).2⟩⟩)]
 have hrep:∀ v:Int,0≤v→v<(n:Int)→at0 (List.replicate n (-1)) v=-1:=fun v h0 h1=>by
  unfold at0
  rw [bh (by rw [List.length_replicate];omega),List.getElem_replicate]
 constructor
 ·rintro ⟨⟨h1,_⟩,h3⟩
  exact ⟨by have:=h1.1;rwa [List.length_replicate] at this,h3⟩
 ·rintro ⟨h1,h2⟩
  refine ⟨⟨⟨by rw [List.length_replicate];exact h1,fun v v0 v1 e=>?_⟩,fun v v0 v1 _ hno=>?_⟩,h2⟩
  ·rw [List.length_replicate] at v1
   exact absurd (hrep v v0 v1) e
  ·rw [List.length_replicate] at v1
   obtain ⟨a,ha,hv⟩:=q.cov v v0 v1
   exact absurd hv (hno a ha)
theorem tX (q:QFor ts n atoms order) {f:Int→Int} (h:nE ts atoms f) {v:Int} (v0:0≤v) (v1:v<n):0≤f v∧f v≤99:=by
 obtain ⟨a,ha,hv⟩:=q.cov v v0 v1
 have:=(mb q ha (h a ha)).2
 unfold bk at this
 rw [List.all_eq_true] at this
 exact dj.1 (this _ (List.mem_map.2 ⟨v,hv,rfl⟩))
theorem nE.congr (q:QFor ts n atoms order) {f g:Int→Int} (h:nE ts atoms f) (e:∀ v:Int,0≤v→v<n→f v=g v):nE ts atoms g:=fun a ha=>by
 have hv:=(q.al a ha).2.2
 have:a.2.map g=a.2.map f:=List.map_congr_left fun v hm=>(e v (hv v hm).1 (hv v hm).2).symm
 rw [this];exact h a ha
def gJ (n:Nat) (order r:List Int):List Int:=(jH n).map (iI order r)
def gS (order b:List Int):List Int:=order.map (at0 b)
theorem wm {n i:Nat} (h:i<(jH n).length):(jH n)[i]=(i:Int):=by simp [jH]
theorem vY {b:List Int} {i:Nat} (h:i<(gS order b).length):(gS order b)[i]=at0 b (order[i]'(by simpa [gS] using h)):=by simp [gS]
theorem tM {r:List Int} {i:Nat} (h:i<(gJ n order r).length):(gJ n order r)[i]=iI order r (i:Int):=by simp [gJ,wm]
theorem qC {r:List Int} {v:Int} (v0:0≤v) (v1:v<(n:Int)):at0 (gJ n order r) v=iI order r v:=by
 unfold at0 gJ
 rw [tc (by rw [ke];omega),wm]
 congr 1;omega
theorem pP (q:QFor ts n atoms order) {b:List Int} {v:Int} (v0:0≤v) (v1:v<(n:Int)):iI order (gS order b) v=at0 b v:=by
 obtain ⟨j,e1,hj,e2⟩:=j5 (lh q v0 v1)
 unfold iI gS
 rw [e1,Int.toNat_natCast,tc hj,e2]
theorem pK (q:QFor ts n atoms order) {r:List Int} (hr:r.length=n):gS order (gJ n order r)=r:=by
 have hol:=q.ol
 refine List.ext_getElem (by unfold gS;rw [List.length_map,hol,hr]) fun i h1 h2=>?_
 have hi:i<order.length:=by omega
 have hb:=(fG q.os).2 _ (List.getElem_mem hi)
 rw [vY,qC hb.1 (by omega)]
 unfold iI
 rw [rW (pC q) hi,Int.toNat_natCast,bh h2]
theorem mK (q:QFor ts n atoms order) {b:List Int} (hb:b.length=n):gJ n order (gS order b)=b:=by
 refine List.ext_getElem (by unfold gJ;rw [List.length_map,ke,hb]) fun i h1 h2=>?_
 rw [tM,pP q (by omega) (by omega)]
 unfold at0
 rw [Int.toNat_natCast,bh h2]
theorem nh {α β:Type} {f:α→β}:∀ {l:List α},l.Nodup→(∀ x∈l,∀ y∈l,f x=f y→x=y)→(l.map f).Nodup
 | [],_,_=>List.nodup_nil
 | x :: l,h,hf=>by
  obtain ⟨h1,h2⟩:=List.nodup_cons.1 h
  rw [List.map_cons,List.nodup_cons]
  refine ⟨fun hm=>?_,nh h2 fun y hy z hz=>hf y (List.mem_cons_of_mem _ hy) z (List.mem_cons_of_mem _ hz)⟩
  obtain ⟨y,hy,e⟩:=List.mem_map.1 hm
  have:=hf y (List.mem_cons_of_mem _ hy) x List.mem_cons_self e
  exact h1 (by rw [← this];exact hy)
theorem wI (q:QFor ts n atoms order) {r:List Int} (hr:r∈(bu (aY ts order atoms) n []).1):gJ n order r∈l8V ts atoms (List.replicate n (-1)):=by
 obtain ⟨h1,h2⟩:=(nS q).1 hr
 exact (nf q).2 ⟨by unfold gJ;rw [List.length_map,ke],h2.congr q fun v v0 v1=>(qC v0 v1).symm⟩
theorem ws (q:QFor ts n atoms order) {b:List Int} (hb:b∈l8V ts atoms (List.replicate n (-1))):gS order b∈(bu (aY ts order atoms) n []).1:=by
 obtain ⟨h1,h2⟩:=(nf q).1 hb
 exact (nS q).2 ⟨by unfold gS;rw [List.length_map,q.ol],h2.congr q fun v v0 v1=>(pP q v0 v1).symm⟩
theorem vP (q:QFor ts n atoms order) {S:aG} (hS:S.Nodup) (hm:∀ b,b∈S↔b∈l8V ts atoms (List.replicate n (-1))):S.length=(bu (aY ts order atoms) n []).1.length:=by
 have hW:=sJ (kZ (iT q) q.n5).2.2
 refine Nat.le_antisymm ?_ ?_
 ·have h1:=nh (f:=gS order) hS fun x hx y hy e=>by
   have e1:=mK q ((nf q).1 ((hm x).1 hx)).1
   have e2:=mK q ((nf q).1 ((hm y).1 hy)).1
   rw [← e1,← e2,e]
  have:=m3 _ _ h1 fun x hx=>by
   obtain ⟨b,hb,rfl⟩:=List.mem_map.1 hx
   exact ws q ((hm b).1 hb)
  rwa [List.length_map] at this
 ·have h1:=nh (f:=gJ n order) hW fun x hx y hy e=>by
   have e1:=pK q ((nS q).1 hx).1
   have e2:=pK q ((nS q).1 hy).1
   rw [← e1,← e2,e]
  have:=m3 _ _ h1 fun x hx=>by
   obtain ⟨b,hb,rfl⟩:=List.mem_map.1 hx
   exact (hm _).2 (wI q hb)
  rwa [List.length_map] at this
end
end Go.Proofs.YtoijldeajagjjaaGreat
namespace Go.Proofs.YtoijldeajagjjaaGreat
open Go.RowKit

theorem n4 {n:Int} {rows:aG} (h0:0≤n∧n≤5) (hl:rows.length≤1048576) (hf:∀ r∈rows,(r.length:Int)=n∧bk r=true):eB n rows=bif decide ((bG 20 rows).length≤4000) then ((n,bG 20 rows),true) else hX:=by
 have hfit:jz n rows=true:=by
  unfold jz
  rw [List.all_eq_true]
  intro r hr
  rw [Bool.and_eq_true,decide_eq_true_eq]
  exact hf r hr
 unfold eB
 rw [hfit,Bool.true_and]
 by_cases h:(bG 20 rows).length≤4000
 ·rw [decide_eq_true h,ni h0 h (fun r hr=>hf r ((f9 _ _ _).1 hr)) (jq 20 rows (by omega))]
 ·rw [decide_eq_false h]
  cases hv:aZ n (bG 20 rows) with
  | false=>rfl
  | true=>exact absurd (bH hv).2.2.1 h
theorem yu {a b:aG} (ha:a.length≤1048576) (hb:b.length≤1048576) (h:∀ r,r∈a↔r∈b):bG 20 a=bG 20 b :=
 rO (jq 20 a (by omega)) (jq 20 b (by omega)) fun r=>by rw [f9,f9];exact h r
theorem vS {n:Int} {a b:aG} (h0:0≤n∧n≤5) (ha:a.length≤1048576) (hb:b.length≤1048576) (hf:∀ r∈a,(r.length:Int)=n∧bk r=true) (h:∀ r,r∈a↔r∈b):eB n a=eB n b:=by
 rw [n4 h0 ha hf,n4 h0 hb (fun r hr=>hf r ((h r).2 hr)),yu ha hb h]
def gA (ts:List aV) (n:Int) (atoms:List aS):aG:=l8V ts atoms (List.replicate n.toNat (-1))
def uU (ts:List aV) (n:Int) (atoms:List aS) (out:List Int):Int × aG :=
 bif c9 ts n atoms out then (bif decide ((bG 20 (gA ts n atoms)).length≤4000) then (n,bG 20 (gA ts n atoms)) else (0,[])) else (0,[])
def nA (ts:List aV) (n:Int) (atoms:List aS) (out:List Int):(Int × aG) × Bool :=
 bif c9 ts n atoms out&&decide ((bG 20 (gA ts n atoms)).length≤4000) then ir n (bG 20 (gA ts n atoms)) out else hX
theorem BS {ts:List aV} {n:Int} {atoms:List aS} {out:List Int} (h:c9 ts n atoms out=true):∃ m:Nat,n=(m:Int)∧QFor ts m atoms (jH m):=by
 have hq:=h
 unfold c9 at hq
 rw [Bool.and_eq_true] at hq
 obtain ⟨n1,n5,_,_⟩:=ll hq.1
 obtain ⟨m,e,q⟩:=wS h (order:=jH n.toNat) (by rw [ke];omega) (by have:=yY n.toNat;rwa [show ((n.toNat:Nat):Int)=n by omega] at this)
 subst e
 exact ⟨m,rfl,q⟩
theorem nF {ts:List aV} {n:Nat} {atoms:List aS} {order:List Int} (q:QFor ts n atoms order) {b:List Int} (hb:b∈gA ts n atoms):(b.length:Int)=n∧bk b=true:=by
 obtain ⟨h1,h2⟩:=(nf q).1 hb
 refine ⟨by omega,?_⟩
 unfold bk
 rw [List.all_eq_true]
 intro y hy
 obtain ⟨i,hi,rfl⟩:=List.getElem_of_mem hy
 have:=tX q h2 (v:=(i:Int)) (by omega) (by omega)
 unfold at0 at this
 rw [Int.toNat_natCast,bh hi] at this
 exact dj.2 this
theorem nK {ts:List aV} {n:Nat} {atoms:List aS} {order:List Int} (q:QFor ts n atoms order):(gA ts n atoms).length≤65536:=by
 have h:=uD (ts:=ts) (l:=atoms) (row:=List.replicate n (-1)) (o7 q)
 have h4:=q.a4
 have:16 ^ atoms.length≤16 ^ 4:=Nat.pow_le_pow_right (by decide) h4
 exact Nat.le_trans h this
section
variable {N:Nat}
theorem yR {ts:List aV} {n idx arity:Int} {atoms:List aS} {out row0:List Int} {acc rel:aG} {i a:Nat} {rec:(List (ByteArray × (Int × List (List Int))))→Int→(List (ByteArray × List Int))→(List Int)→Int→(List Int)→Option (List (List Int))} (hi:i<rel.length) (ha:a<atoms.length) (hid:idx=(a:Int)) (har:arity=(atoms[a].2.length:Int)) (hl:rel[i].length=atoms[a].2.length) (h5:atoms[a].2.length≤1000) :
  ∀ (m k f:Nat) (row:List Int),k+m=atoms[a].2.length→m+1<f→(∀ v∈atoms[a].2,0≤v∧v<(row.length:Int)) →
  (∀ row',jI atoms[a].2 rel[i] m k row=some row'→eD rec N f idx row0 ts n atoms out acc arity rel (i:Int) row true (k:Int)=some (row',true,arity)) ∧
  (jI atoms[a].2 rel[i] m k row=none→∃ r j,eD rec N f idx row0 ts n atoms out acc arity rel (i:Int) row true (k:Int)=some (r,false,j)):=by
 intro m
 induction m with
 | zero =>
  intro k f row hk hf _
  obtain ⟨f,rfl⟩:∃ g,f=g+1:=⟨f-1,by omega⟩
  refine ⟨fun row' h=>?_,fun h=>by unfold jI at h;cases h⟩
  unfold jI at h
  obtain rfl:=Option.some.inj h
  rw [eD,decide_eq_false (by omega),cond_false,show (k:Int)=arity by omega]
 | succ m ih =>
  intro k f row hk hf hb
  obtain ⟨f,rfl⟩:∃ g,f=g+1:=⟨f-1,by omega⟩
  have hkv:k<atoms[a].2.length:=by omega
  have hkt:k<rel[i].length:=by omega
  obtain ⟨hv0,hv1⟩:=hb _ (List.getElem_mem hkv)
  have hb':∀ x,∀ v∈atoms[a].2,0≤v∧v<((row.set (atoms[a].2[k]).toNat x).length:Int):=fun x v hv=>by rw [List.length_set];exact hb v hv
  have eo:row[(atoms[a].2[k]).toNat]'(by omega)=at0 row atoms[a].2[k]:=by unfold at0;rw [bh]
  rw [eD,decide_eq_true (show (k:Int)<arity by omega),cond_true,cond_true,hid,aN ha,bs,aN hkv,bs,im hv0 hv1,bs,eo]
  have ih':=ih (k+1) f (row.set (atoms[a].2[k]).toNat rel[i][k]) (by omega) (by omega) (hb' _)
  rw [hid] at ih'
  unfold jI
  rw [bh hkv,bh hkt]
  by_cases h1:at0 row atoms[a].2[k]=-1
  ·rw [show (at0 row atoms[a].2[k] == -1)=true by rw [h1];rfl,cond_true,aN hi,bs,aN hkt,bs,bs,ma hv0 hv1,bs,ad1 (by omega),bs,if_pos (.inl h1)]
   exact ih'
  ·rw [show (at0 row atoms[a].2[k] == -1)=false by simpa using h1,cond_false,bs,aN hi,bs,aN hkt,bs,bs,aN hkt,bs,bs,ma hv0 hv1,bs,ad1 (by omega),bs]
   by_cases h2:at0 row atoms[a].2[k]=rel[i][k]
   ·rw [show (at0 row atoms[a].2[k] == rel[i][k])=true by simpa using h2,if_pos (.inr h2)]
    exact ih'
   ·rw [show (at0 row atoms[a].2[k] == rel[i][k])=false by simpa using h2,if_neg (fun h=>by rcases h with h | h;exact h1 h;exact h2 h)]
    refine ⟨fun row' h=>(by cases h),fun _=>?_⟩
    obtain ⟨f,rfl⟩:∃ g,f=g+1:=⟨f-1,by omega⟩
    rw [eD]
    by_cases hlt:((k+1:Nat):Int)<arity
    ·rw [decide_eq_true hlt,cond_true,cond_false];exact ⟨_,_,rfl⟩
    ·rw [decide_eq_false hlt,cond_false];exact ⟨_,_,rfl⟩
def pA (ts:List aV) (l:List aS) (vs row t:List Int):aG:=match jI vs t vs.length 0 row with | some row'=>l8V ts l row' | none=>[]
theorem zh {ts:List aV} {atoms:List aS} {a:Nat} (h:a<atoms.length) {row:List Int}:l8V ts (atoms.drop a) row=(ez ts atoms[a]).flatMap (pA ts (atoms.drop (a+1)) atoms[a].2 row):=by
 rw [List.drop_eq_getElem_cons h,l8V];rfl
theorem yF {M:Nat} (hM:1073741825≤M) {ts:List aV} {n:Nat} {atoms:List aS} {order out:List Int} (q:QFor ts n atoms order) {a:Nat} (hal:a<atoms.length) {row:List Int} (hr:row.length=n)
  {rec:(List (ByteArray × (Int × List (List Int))))→Int→(List (ByteArray × List Int))→(List Int)→Int→(List Int)→Option (List (List Int))} (hrec:∀ row':List Int,row'.length=n→rec ts (n:Int) atoms out ((a+1:Nat):Int) row'=some (l8V ts (atoms.drop (a+1)) row')) {arity:Int} (har:arity=(atoms[a].2.length:Int)) :
  ∀ (d i k:Nat),i+d=(ez ts atoms[a]).length→d<k→gp rec M k (a:Int) row ts (n:Int) atoms out (((ez ts atoms[a]).take i).flatMap (pA ts (atoms.drop (a+1)) atoms[a].2 row)) arity (ez ts atoms[a]) (i:Int)=some (l8V ts (atoms.drop a) row,((ez ts atoms[a]).length:Int)):=by
 have hm:=List.getElem_mem hal
 have h5:=q.n5
 have h4:=q.a4
 obtain ⟨hl5,hl1,hv⟩:=q.al _ hm
 have h16:(ez ts atoms[a]).length≤16:=o7 q _ hm
 have hrest:∀ row',(l8V ts (atoms.drop (a+1)) row').length≤65536:=fun row'=>by
  have h:=uD (ts:=ts) (l:=atoms.drop (a+1)) (row:=row') fun a' h'=>o7 q a' (List.mem_of_mem_drop h')
  have:16 ^ (atoms.drop (a+1)).length≤16 ^ 4:=Nat.pow_le_pow_right (by decide) (by rw [List.length_drop];omega)
  exact Nat.le_trans h this
 have hput:∀ t,(pA ts (atoms.drop (a+1)) atoms[a].2 row t).length≤65536:=fun t=>by
  unfold pA
  cases jI atoms[a].2 t atoms[a].2.length 0 row with
  | none=>exact Nat.zero_le _
  | some row'=>exact hrest row'
 have e1:ad (a:Int) 1=some ((a+1:Nat):Int):=ad1 (by omega)
 intro d
 induction d with
 | zero =>
  intro i k hi hk
  obtain ⟨k,rfl⟩:∃ g,k=g+1:=⟨k-1,by omega⟩
  rw [gp,dge (by omega),cond_false,show i=(ez ts atoms[a]).length by omega,List.take_length,zh hal]
 | succ d ih =>
  intro i k hi hk
  obtain ⟨k,rfl⟩:∃ g,k=g+1:=⟨k-1,by omega⟩
  have hil:i<(ez ts atoms[a]).length:=by omega
  have hacc:=jB hput ((ez ts atoms[a]).take i)
  rw [List.length_take] at hacc
  have hrow:=(mb q hm (List.getElem_mem hil)).1
  have ih':=ih (i+1) k (by omega) (by omega)
  rw [List.take_succ_eq_append_getElem hil,List.flatMap_append,List.flatMap_cons,List.flatMap_nil,List.append_nil] at ih'
  obtain ⟨w1,w2⟩:=yR (N:=M) (ts:=ts) (n:=(n:Int)) (out:=out) (row0:=row) (acc:=((ez ts atoms[a]).take i).flatMap (pA ts (atoms.drop (a+1)) atoms[a].2 row)) (rec:=rec) hil hal rfl har hrow (by omega) atoms[a].2.length 0 M row (by omega) (by omega) (fun v h=>by rw [hr];exact hv v h)
  rw [gp,dlt hil,cond_true,bp (by decide) (by simp;omega),bs,List.nil_append]
  cases he:jI atoms[a].2 (ez ts atoms[a])[i] atoms[a].2.length 0 row with
  | some row' =>
   have w1':=w1 row' he
   rw [show ((0:Nat):Int)=0 from rfl] at w1'
   have hs:=tP hrow (vf (mb q hm (List.getElem_mem hil)).2) atoms[a].2.length 0 row (by omega) (fun v h=>by rw [hr];exact hv v h)
   rw [he] at hs
   have hlen:row'.length=n:=by rw [hs.1,hr]
   have ep:pA ts (atoms.drop (a+1)) atoms[a].2 row (ez ts atoms[a])[i]=l8V ts (atoms.drop (a+1)) row':=by unfold pA;rw [he]
   rw [ep] at ih'
   rw [w1',bs,lpB]
   show (bif true then _ else _)=_
   rw [cond_true,e1,bs,hrec row' hlen,bs,bp (by decide) (by have:=hrest row';have:min i (ez ts atoms[a]).length*65536≤16*65536:=Nat.mul_le_mul_right _ (by omega);omega),bs,ad1 (by omega),bs,ih']
  | none =>
   obtain ⟨r,j,w2'⟩:=w2 he
   rw [show ((0:Nat):Int)=0 from rfl] at w2'
   have ep:pA ts (atoms.drop (a+1)) atoms[a].2 row (ez ts atoms[a])[i]=[]:=by unfold pA;rw [he]
   rw [ep,List.append_nil] at ih'
   rw [w2',bs,lpB]
   show (bif false then _ else _)=_
   rw [cond_false,ad1 (by omega),bs,ih']
theorem x7 (hN:1073741824≤N) {ts:List aV} {n:Nat} {atoms:List aS} {order out:List Int} (q:QFor ts n atoms order) (ht:iU ts):∀ (d a M:Nat),a+d=atoms.length→1073741826+d≤M→∀ row:List Int,row.length=n→e9 M ts (n:Int) atoms out (a:Int) row=some (l8V ts (atoms.drop a) row):=by
 intro d
 induction d with
 | zero =>
  intro a M ha hM row hr
  obtain ⟨M,rfl⟩:∃ M',M=M'+1:=⟨M-1,by omega⟩
  have h5:=q.n5
  rw [e9,show ((a:Int) == (atoms.length:Int))=true by simp;omega,cond_true,bp (by decide) (by simp;omega),bs,List.drop_of_length_le (by omega)]
  rfl
 | succ d ih =>
  intro a M ha hM row hr
  obtain ⟨M,rfl⟩:∃ M',M=M'+1:=⟨M-1,by omega⟩
  have hal:a<atoms.length:=by omega
  obtain ⟨hf1,hf2⟩:=q.af _ (List.getElem_mem hal)
  have hL:=yF (M:=M) (by omega) (out:=out) q hal hr (rec:=e9 M) (fun row' h=>ih (a+1) M (by omega) (by omega) row' h) hf2 (ez ts atoms[a]).length 0 M (by omega) (by have:=o7 q _ (List.getElem_mem hal);omega)
  rw [List.take_zero,List.flatMap_nil,show ((0:Nat):Int)=0 from rfl] at hL
  unfold ez at hL
  rw [e9,show ((a:Int) == (atoms.length:Int))=false by simp;omega,cond_false,aN hal,bs,iX (N:=M) (by omega) ht,bs,hL,bs,lpB]
theorem xt (m:Nat) {ts:List aV} {atoms:List aS} {out:List Int} (hN:1073741824≤N) (hm:m≤1000):dV N N ts (m:Int) atoms out 0 [] []=some (List.replicate m (-1)):=by
 have key:∀ (d k j:Nat),j+d=m→d<k→dV N k ts (m:Int) atoms out 0 [] (List.replicate j (-1))=some (List.replicate m (-1)):=by
  intro d
  induction d with
  | zero =>
   intro k j hj hk
   obtain ⟨k,rfl⟩:∃ g,k=g+1:=⟨k-1,by omega⟩
   rw [dV,List.length_replicate,dge (by omega),cond_false,show j=m by omega]
  | succ d ih =>
   intro k j hj hk
   obtain ⟨k,rfl⟩:∃ g,k=g+1:=⟨k-1,by omega⟩
   rw [dV,List.length_replicate,dlt (by omega),cond_true,bp (by decide) (by simp;omega),bs,← List.replicate_succ']
   exact ih k (j+1) (by omega) (by omega)
 exact key m N 0 (by omega) (by omega)
theorem oQ (hM:1073742848≤N) {ts:List aV} {n:Int} {atoms:List aS} {out:List Int} (ht:iU ts) (ha:cx atoms) (ho:okI out):gx N ts n atoms out=some (uU ts n atoms out):=by
 have hN:1073741824≤N:=by omega
 unfold gx uU
 rw [j6 hN ht ha ho,bs]
 cases h:c9 ts n atoms out with
 | false=>rfl
 | true =>
  obtain ⟨m,rfl,q⟩:=BS h
  have h5:=q.n5
  have hL:=xt (N:=N) m (ts:=ts) (atoms:=atoms) (out:=out) hN (by omega)
  rw [cond_true,cond_true,hL,bs]
  unfold lpB
  dsimp only
  have hw:=x7 hN (out:=out) q ht atoms.length 0 N (by omega) (by have:=q.a4;omega) (List.replicate m (-1)) (by simp)
  have hw':e9 N ts (m:Int) atoms out 0 (List.replicate m (-1))=some (gA ts m atoms):=hw
  have hbl:=nK q
  have hrow:=fun b hb=>nF q (b:=b) hb
  rw [hw',bs,gj hM ⟨by omega,fun r hr=>⟨by have:=(hrow r hr).1;omega,fun _ _=>trivial⟩⟩,bs,n4 (by omega) (by omega) hrow]
  cases decide ((bG 20 (gA ts (m:Int) atoms)).length≤4000) <;> rfl
theorem rY (hM:1073742848≤N) {ts:List aV} {n:Int} {atoms:List aS} {out:List Int} (ht:iU ts) (ha:cx atoms) (ho:okI out):gL N ts n atoms out=some (nA ts n atoms out):=by
 have hN:1073741824≤N:=by omega
 unfold gL nA
 rw [oQ hM ht ha ho,bs,j6 hN ht ha ho,bs]
 unfold uU
 cases h:c9 ts n atoms out with
 | false=>rfl
 | true =>
  obtain ⟨m,rfl,q⟩:=BS h
  have h5:=q.n5
  have h1:=q.n1
  rw [cond_true,cond_true,Bool.true_and]
  cases hk:decide ((bG 20 (gA ts (m:Int) atoms)).length≤4000) with
  | false =>
   rw [cond_false,cond_false,show (((0:Int),([]:aG)).1 != (m:Int))=true by simp;omega,cond_true];rfl
  | true =>
   have hbl:=nK q
   have hok:cC (bG 20 (gA ts (m:Int) atoms)):=jT 20 ⟨by omega,fun r hr=>⟨by have:=(nF q hr).1;omega,fun _ _=>trivial⟩⟩
   rw [cond_true,cond_true]
   dsimp only
   rw [bne_self_eq_false,cond_false,nD hM hok ho.1 (by omega),bs]
theorem xS (hN:1073741824≤N) {ts:List aV} {n:Nat} {atoms:List aS} {order r:List Int} (q:QFor ts n atoms order) (hr:r.length=n):lK N order r=some (gJ n order r):=by
 have h5:=q.n5
 have hol:=q.ol
 have hset:=fG q.os
 unfold lK
 have hmk:mk 8 (0:Int) (r.length:Int)=some (List.replicate n 0):=by
  rw [hr];exact s6 (by decide) (by omega)
 rw [hmk,bs]
 have key:∀ (m i k:Nat) (s:List Int),i+m=n→m<k→s.length=n→(∀ j (h:j<order.length),j<i→at0 s order[j]=r.getD j 0)→∃ s' v,fi N k order r s (i:Int)=some (s',v)∧s'.length=n∧∀ j (h:j<order.length),at0 s' order[j]=r.getD j 0:=by
  intro m
  induction m with
  | zero =>
   intro i k s hi hk hs hj
   obtain ⟨k,rfl⟩:∃ g,k=g+1:=⟨k-1,by omega⟩
   rw [fi,dge (by omega),cond_false]
   exact ⟨_,_,rfl,hs,fun j h=>hj j h (by omega)⟩
  | succ m ih =>
   intro i k s hi hk hs hj
   obtain ⟨k,rfl⟩:∃ g,k=g+1:=⟨k-1,by omega⟩
   have hio:i<order.length:=by omega
   have hir:i<r.length:=by omega
   obtain ⟨hb0,hb1⟩:=hset.2 _ (List.getElem_mem hio)
   have hsl:order[i]<(s.length:Int):=by omega
   rw [fi,dlt hir,cond_true,dlt hio,cond_true,aN hio,bs,decide_eq_true hb0,cond_true,bs,decide_eq_true hsl,cond_true,bs,aN hir,bs,im hb0 hsl,bs,ma hb0 hsl,bs,ad1 (by omega),bs]
   refine ih (i+1) k _ (by omega) (by omega) (by rw [List.length_set];exact hs) fun j h hji=>?_
   have hbj:=hset.2 _ (List.getElem_mem h)
   rw [w6 hb0 hsl hbj.1]
   by_cases e:order[j]=order[i]
   ·have:j=i:=nN hset.1 h hio e
    subst this
    rw [if_pos rfl,bh hir]
   ·rw [if_neg e]
    refine hj j h ?_
    have:j≠i:=fun e2=>e (by subst e2;rfl)
    omega
 obtain ⟨s',v,e,h1,h2⟩:=key n 0 N (List.replicate n 0) (by omega) (by omega) (by simp) (fun j h hj=>by omega)
 have e':fi N N order r (List.replicate n 0) 0=some (s',v):=e
 rw [e',bs]
 unfold lpB
 dsimp only
 congr 1
 refine List.ext_getElem (by rw [h1];unfold gJ;rw [List.length_map,ke]) fun i i1 i2=>?_
 rw [tM]
 obtain ⟨j,e1,hj,e2⟩:=j5 (lh q (v:=(i:Int)) (by omega) (by omega))
 have:=h2 j hj
 rw [e2] at this
 unfold iI
 rw [e1,Int.toNat_natCast,← this]
 unfold at0
 rw [Int.toNat_natCast,bh i1]
end
end Go.Proofs.YtoijldeajagjjaaGreat
namespace Go.Proofs.YtoijldeajagjjaaGreat
open Go.RowKit

section
variable {ts:List aV} {n:Int} {atoms:List aS} {out order:List Int}
theorem zB (h:(f6 ts n atoms out order).2.2=false):f6 ts n atoms out order=nt:=by
 unfold f6 at h ⊢
 cases ho:okQ ts n atoms out order with
 | false=>rfl
 | true =>
  rw [ho,cond_true] at h
  rw [cond_true]
  cases he:iK (bv ts order atoms) with
  | true=>rw [he] at h;cases h
  | false =>
   rw [he,cond_false] at h
   rw [cond_false]
   unfold kL at h ⊢
   cases hk:decide (((bu (aY ts order atoms) n.toNat []).1.length:Int)≤4000) with
   | false=>rfl
   | true=>rw [hk] at h;cases h
theorem AT (h:(f6 ts n atoms out order).2.2=true):∃ m:Nat,n=(m:Int)∧QFor ts m atoms order∧okQ ts n atoms out order=true∧(f6 ts n atoms out order).1=(n,(bu (aY ts order atoms) m []).1)∧(bu (aY ts order atoms) m []).1.length≤4000:=by
 unfold f6 at h ⊢
 cases ho:okQ ts n atoms out order with
 | false=>rw [ho] at h;cases h
 | true =>
  obtain ⟨m,rfl,q,_⟩:=uz ho
  rw [ho,cond_true] at h
  rw [cond_true]
  refine ⟨m,rfl,q,rfl,?_⟩
  cases he:iK (bv ts order atoms) with
  | true =>
   rw [s8 q,xI q he]
   exact ⟨rfl,Nat.zero_le _⟩
  | false =>
   rw [he,cond_false] at h
   rw [cond_false]
   unfold kL at h ⊢
   cases hk:decide (((bu (aY ts order atoms) (m:Int).toNat []).1.length:Int)≤4000) with
   | false=>rw [hk] at h;cases h
   | true =>
    rw [decide_eq_true_eq] at hk
    exact ⟨rfl,by have:((bu (aY ts order atoms) m []).1.length:Int)≤4000:=hk;omega⟩
theorem AD (h:okQ ts n atoms out order=true):c9 ts n atoms out=true:=by
 unfold okQ at h
 rw [Bool.and_eq_true] at h
 exact h.1
theorem uc {m:Nat} (q:QFor ts m atoms order) (hq:c9 ts (m:Int) atoms out=true) (hl:(bu (aY ts order atoms) m []).1.length≤4000) :
  uU ts (m:Int) atoms out=((m:Int),bG 20 (gA ts (m:Int) atoms))∧(bG 20 (gA ts (m:Int) atoms)).length=(bu (aY ts order atoms) m []).1.length∧aZ (m:Int) (bG 20 (gA ts (m:Int) atoms))=true:=by
 have hbl:=nK q
 have ha:=jq 20 (gA ts (m:Int) atoms) (by omega)
 have hlen:=vP q (sJ ha) fun b=>f9 20 _ b
 have h5:=q.n5
 refine ⟨?_,hlen,ni (by omega) (by omega) (fun r hr=>nF q ((f9 _ _ _).1 hr)) ha⟩
 unfold uU
 rw [hq,cond_true,decide_eq_true (by omega),cond_true]
theorem u7 {m:Nat} (q:QFor ts m atoms order) {r:List Int} (hr:r∈(bu (aY ts order atoms) m []).1):gJ m order r∈bG 20 (gA ts (m:Int) atoms):=(f9 _ _ _).2 (wI q hr)
theorem zA (h:c9 ts n atoms out=true):out.length≤5∧∀ v∈out,0≤v∧v≤n-1:=by
 unfold c9 at h
 rw [Bool.and_eq_true] at h
 obtain ⟨n1,n5,_,_⟩:=ll h.1
 have hq:=h.1
 unfold dS at hq
 simp only [Bool.and_eq_true] at hq
 obtain ⟨h1,h2⟩:=fG hq.1.1.2
 refine ⟨?_,h2⟩
 have:=jD n.toNat out h1 (fun x hx=>by have:=h2 x hx;omega)
 omega
theorem x3 {m:Nat} (q:QFor ts m atoms order) (hq:c9 ts (m:Int) atoms out=true) (hl:(bu (aY ts order atoms) m []).1.length≤4000) :
  ir (m:Int) (bu (aY ts order atoms) m []).1 (dE out order)=nA ts (m:Int) atoms out∧(ir (m:Int) (bu (aY ts order atoms) m []).1 (dE out order)).2=true:=by
 obtain ⟨a1,a2,a3⟩:=uc q hq hl
 obtain ⟨o1,o2⟩:=zA hq
 have h5:=q.n5
 obtain ⟨w1,w2,w3⟩:=kZ (iT q) q.n5
 have hvW:aZ (m:Int) (bu (aY ts order atoms) m []).1=true:=ni (by omega) hl (fun r hr=>by have:=w2 r hr;exact ⟨by omega,this.2⟩) w3
 have c1:fB (m:Int) out=true:=by
  unfold fB
  rw [List.all_eq_true]
  intro c hc
  exact dj.2 (o2 c hc)
 have c2:fB (m:Int) (dE out order)=true:=by
  unfold fB dE
  rw [List.all_eq_true]
  intro c hc
  obtain ⟨v,hv,rfl⟩:=List.mem_map.1 hc
  have:=o2 v hv
  obtain ⟨j,e1,hj,_⟩:=j5 (lh q this.1 (by omega))
  have:=q.ol
  exact dj.2 (by omega)
 have pk1:∀ r:List Int,bZ r (dE out order)=out.map (iI order r):=fun r=>by
  unfold bZ dE
  rw [List.map_map];rfl
 have pk2:∀ b:List Int,bZ b out=out.map (at0 b):=fun b=>rfl
 have pk3:∀ r:List Int,out.map (iI order r)=out.map (at0 (gJ m order r)):=fun r=>List.map_congr_left fun v hv=>by
  have:=o2 v hv
  exact (qC this.1 (by omega)).symm
 have hl2:(dE out order).length=out.length:=by unfold dE;rw [List.length_map]
 have hval:∀ b∈bG 20 (gA ts (m:Int) atoms),bk (out.map (at0 b))=true:=fun b hb=>by
  obtain ⟨_,h2⟩:=(nf q).1 ((f9 _ _ _).1 hb)
  unfold bk
  rw [List.all_eq_true]
  intro y hy
  obtain ⟨v,hv,rfl⟩:=List.mem_map.1 hy
  have:=o2 v hv
  exact dj.2 (tX q h2 this.1 (by omega))
 have hmem:∀ x,x∈(bu (aY ts order atoms) m []).1.map (fun r=>bZ r (dE out order))↔x∈(bG 20 (gA ts (m:Int) atoms)).map (fun r=>bZ r out):=fun x=>by
  rw [List.mem_map,List.mem_map]
  constructor
  ·rintro ⟨r,hr,rfl⟩
   exact ⟨_,u7 q hr,by rw [pk1,pk2,pk3]⟩
  ·rintro ⟨b,hb,rfl⟩
   have hb':=(f9 _ _ _).1 hb
   refine ⟨_,ws q hb',?_⟩
   rw [pk1,pk3,mK q ((nf q).1 hb').1,pk2]
 have hs:=a2
 have hfit:∀ x∈(bu (aY ts order atoms) m []).1.map (fun r=>bZ r (dE out order)),(x.length:Int)=(out.length:Int)∧bk x=true:=fun x hx=>by
  obtain ⟨b,hb,rfl⟩:=List.mem_map.1 ((hmem x).1 hx)
  rw [pk2]
  exact ⟨by rw [List.length_map],hval b hb⟩
 have e:=vS (n:=(out.length:Int)) (a:=(bu (aY ts order atoms) m []).1.map (fun r=>bZ r (dE out order))) (b:=(bG 20 (gA ts (m:Int) atoms)).map (fun r=>bZ r out)) (by omega) (by rw [List.length_map];omega) (by rw [List.length_map];omega) hfit hmem
 have e1:ir (m:Int) (bu (aY ts order atoms) m []).1 (dE out order)=eB (out.length:Int) ((bu (aY ts order atoms) m []).1.map (fun r=>bZ r (dE out order))):=by
  unfold ir
  rw [hvW,hl2,decide_eq_true (by omega),c2];rfl
 have e2:nA ts (m:Int) atoms out=eB (out.length:Int) ((bG 20 (gA ts (m:Int) atoms)).map (fun r=>bZ r out)):=by
  unfold nA ir
  rw [hq,decide_eq_true (by omega),a3,decide_eq_true (by omega),c1];rfl
 refine ⟨by rw [e1,e2,e],?_⟩
 rw [e1,jb (by omega) (by rw [List.length_map];exact hl) hfit]
end
end Go.Proofs.YtoijldeajagjjaaGreat
namespace Go.Proofs.YtoijldeajagjjaaGreat
open Go.RowKit
theorem ov {N:Nat} (hN:1073741824≤N) {ts:List aV} {n:Nat} {atoms:List aS} {order out:List Int} {c:Int} {rows S:aG} (q:QFor ts n atoms order) (hl:rows.length≤1048576) (hok:cC S) (hv:aZ (n:Int) S=true) (hr:∀ r∈rows,r.length=n∧gJ n order r∈S) :
  cl N N ts (n:Int) atoms out order c rows (n:Int) S 0=some (.inr (rows.length:Int)):=by
 have h5:=q.n5
 have h:=gP (L:=fun k i=>cl N k ts (n:Int) atoms out order c rows (n:Int) S i) rows.length (by omega) false (fun _=>true) (rows.length:Int)
  (fun k i h=>by
   obtain ⟨h1,h2⟩:=hr _ (List.getElem_mem h)
   show cl N (k+1) ts (n:Int) atoms out order c rows (n:Int) S (i:Int)=_
   rw [cl,dlt h,cond_true,aN h,bs,xS hN q h1,bs,pU hN hok (by unfold gJ;rw [List.length_map,ke];omega),bs,ad1 (by omega),bs]
   unfold uZ
   rw [hv,decide_eq_true h2];rfl)
  (fun k=>by
   show cl N (k+1) ts (n:Int) atoms out order c rows (n:Int) S (rows.length:Int)=_
   rw [cl,dge (by omega),cond_false]) N 0 (by omega) (by omega)
 have h':cl N N ts (n:Int) atoms out order c rows (n:Int) S 0=some (bif (List.range' 0 (rows.length-0)).all (fun _=>true) then .inr (rows.length:Int) else .inl false):=h
 rw [h',List.all_eq_true.2 (fun _ _=>rfl),cond_true]
theorem qA {N:Nat} (hM:1073742848≤N) {x0:List Int} (_:(nn (fun _=>True) 9223372036854775807) x0) (g0:∀ v∈x0,0≤v∧v≤255):iu N x0=some true:=by
 have hN:1073741824≤N:=by omega
 unfold iu o5
 rw [bs]
 by_cases hb:(1048576:Int)<(x0.length:Int)
 ·rw [decide_eq_true hb];rfl
 ·rw [decide_eq_false hb,cond_false]
  have hc:ea x0:=⟨by omega,fun v hv=>g0 v hv⟩
  obtain ⟨ts,⟨n,ats,out⟩,o,e1,hj⟩:=oy hM hc
  have d1:=hj.1.ok;have d2:=hj.2.1.atoms;have d3:=hj.2.1.out;have d4:=hj.o
  rw [e1,bs]
  dsimp only at d2 d3 ⊢
  have hr:=sV (ts:=ts) (n:=n) (atoms:=ats) (out:=out) (order:=o)
  rw [lw hM d1 d2 d3 d4,bs,pb hM d1 d2 d3 d4,bs,bne_self_eq_false,cond_false,bne_self_eq_false,cond_false,kK hN hr hr,bs,decide_eq_true rfl,cond_true]
  cases ht:(f6 ts n ats out o).2.2 with
  | false =>
   rw [zB ht];rfl
  | true =>
   obtain ⟨m,rfl,q,ho,e2,hl⟩:=AT ht
   have hq:=AD ho
   obtain ⟨a1,a2,a3⟩:=uc q hq hl
   obtain ⟨v1,v2⟩:=x3 q hq hl
   have h5:=q.n5
   obtain ⟨w1,w2,w3⟩:=kZ (iT q) q.n5
   have hbl:=nK q
   have hS:cC (bG 20 (gA ts (m:Int) ats)):=jT 20 ⟨by omega,fun r hr=>⟨by have:=(nF q hr).1;omega,fun _ _=>trivial⟩⟩
   have hL:=ov hN (out:=out) (c:=(m:Int)) q (by omega) hS a3 fun r hr=>⟨(w2 r hr).1,u7 q hr⟩
   have ev:q8 (f6 ts (m:Int) ats out o) out o=nA ts (m:Int) ats out:=by
    unfold q8
    rw [ht,e2,cond_true];exact v1
   have hev:(nA ts (m:Int) ats out).2=true:=by rw [← v1];exact v2
   have hevok:cC (nA ts (m:Int) ats out).1.2:=by rw [← ev];exact zu hr d3
   rw [cond_true,oQ hM d1 d2 d3,bs,a1,e2]
   dsimp only
   rw [hL,bs]
   show ((dL N ts (m:Int) ats out o).bind _)=_
   rw [mL hM d1 d2 d3 d4,bs,rY hM d1 d2 d3,bs,ev,show (((bu (aY ts o ats) m []).1.length:Int) == ((bG 20 (gA ts (m:Int) ats)).length:Int))=true by rw [a2];exact beq_self_eq_true _,cond_true,hev,cond_true,kK hN hevok hevok,bs,decide_eq_true rfl]
end Go.Proofs.YtoijldeajagjjaaGreat
namespace Go.Proofs.YtoijldeajagjjaaGreat
open Go.RowKit
section
variable {P:Program} {n:Nat} {Q Q':Exit→Env→World→Prop} {K:Env→World→Prop} {KQ:Env→Prop} {e:Env} {w w0:World} {c y:Code} {x:Exit} {ops:Array Oper} {rest:List Oper}
variable {d:Nat} {op:Op} {ty:TypeId} {pos:String} {af:Array Edge} {o z1 z2 z3:Operand} {v:Value} {q1:Oper}
theorem dt {p:Prop} [Decidable p] (h:decide p=true):p:=of_decide_eq_true h
theorem sg (h:∀ Q':Exit→Env→World→Prop,(∀ x e w,thn (fun e w=>CW P n y Q e w) Q x e w→Q' x e w)→CW P n c Q' e w):CW P n (.seq c y) Q e w:=xV (sP h)
theorem sR {id:Nat} {l:List Oper} (h:∀ Q':Exit→Env→World→Prop,(∀ x e w,thn (fun e w=>CW P n y Q e w) Q x e w→Q' x e w)→EL P n l.toArray (fun e w=>Q' .normal e w) l e w):CW P n (.seq (.region id l.toArray false) y) Q e w:=xV (sP fun Q' q=>ag (h Q' q))
theorem gn (h:∀ Q':Exit→Env→World→Prop,(∀ x e w,Q x e w→Q' x e w)→CW P n c Q' e w):CW P n c Q e w:=sP h
theorem bg {i:Nat} (h:∀ Q':Exit→Env→World→Prop,(∀ x e w,inb i Q x e w→Q' x e w)→CW P n c Q' e w):CW P n (.block i c) Q e w:=zo (sP h)
theorem hq {f:Exit→Env→World→Prop} (h:∀ x e w,f x e w→Q' x e w) (k:f x e w):Q' x e w:=h _ _ _ k
theorem tn (h:∀ x e w,thn K Q x e w→Q' x e w) (k:K e w):Q' .normal e w:=h _ _ _ k
theorem tr (h:∀ x e w,thn K Q x e w→Q' x e w) (k:Q .ret e w):Q' .ret e w:=h _ _ _ k
theorem tx {i:Nat} (h:∀ x e w,thn K Q x e w→Q' x e w) (k:Q (.exit i) e w):Q' (.exit i) e w:=h _ _ _ k
theorem bn {i:Nat} (h:∀ x e w,inb i Q x e w→Q' x e w) (k:Q .normal e w):Q' .normal e w:=h _ _ _ k
theorem br {i:Nat} (h:∀ x e w,inb i Q x e w→Q' x e w) (k:Q .ret e w):Q' .ret e w:=h _ _ _ k
theorem bS {i:Nat} (h:∀ x e w,inb i Q x e w→Q' x e w) (k:Q .normal e w):Q' (.exit i) e w:=h _ _ _ (B6 k)
theorem en (h:∀ x e w,thn K Q x e w→Q' x e w) (k:K e w):EL P n ops (fun e w=>Q' .normal e w) [] e w:=ah (h _ _ _ k)
theorem sn (h:∀ x e w,thn K Q x e w→Q' x e w) (k:K e w):CW P n .skip Q' e w:=aU (h _ _ _ k)
theorem pa (v:Value) (hK:EL P n ops K rest (upd e d v) w) (hx:ev e o=v:=by exact rfl) (hd:d<n:=by decide):EL P n ops K (⟨some d,.assign o,ty,pos,af,none⟩ :: rest) e w:=mo (df hx) hd hK
theorem pm (v:Value) (hK:EL P n ops K rest (upd e d v) w) (hx:ev e o=v:=by exact rfl) (hd:d<n:=by decide):EL P n ops K (⟨some d,.move o,ty,pos,af,none⟩ :: rest) e w:=mo (aW hx) hd hK
theorem pM (v:Value) (hx:ev e o=v) (hK:EL P n ops K rest (upd e d v) w) (hd:d<n:=by decide):EL P n ops K (⟨some d,.move o,ty,pos,af,none⟩ :: rest) e w:=mo (aW hx) hd hK
theorem pe (v:Value) (hp:PV P ⟨some d,op,ty,pos,af,none⟩ e w v) (hK:EL P n ops K rest (upd e d v) w) (hd:d<n:=by decide):EL P n ops K (⟨some d,op,ty,pos,af,none⟩ :: rest) e w:=mo hp hd hK
theorem qe (v:Value) (hp:PV P ⟨some d,op,ty,pos,af,none⟩ e w v) (hK:QL P n ops w KQ rest (upd e d v)) (hd:d<n:=by decide):QL P n ops w KQ (⟨some d,op,ty,pos,af,none⟩ :: rest) e:=qY hp hd hK
theorem qm (v:Value) (hK:QL P n ops w KQ rest (upd e d v)) (hx:ev e o=v:=by exact rfl) (hd:d<n:=by decide):QL P n ops w KQ (⟨some d,.move o,ty,pos,af,none⟩ :: rest) e:=qY (aW hx) hd hK
theorem qM (v:Value) (hx:ev e o=v) (hK:QL P n ops w KQ rest (upd e d v)) (hd:d<n:=by decide):QL P n ops w KQ (⟨some d,.move o,ty,pos,af,none⟩ :: rest) e:=qY (aW hx) hd hK
theorem eo {j:Nat} {b b' c:Bool} (hc:c=b) (hK:EL P n ops K rest (upd e d undef) w) (h:yld ops e j=some c:=by exact rfl) (hb:(b == b')=false:=by exact rfl) (hd:d<n:=by decide):EL P n ops K (⟨some d,op,ty,pos,af,some (j,b')⟩ :: rest) e w:=Bc h hc hb hd hK
theorem qo {j:Nat} {b b' c:Bool} (hc:c=b) (hK:QL P n ops w KQ rest (upd e d undef)) (h:yld ops e j=some c:=by exact rfl) (hb:(b == b')=false:=by exact rfl) (hd:d<n:=by decide):QL P n ops w KQ (⟨some d,op,ty,pos,af,some (j,b')⟩ :: rest) e:=AX h hc hb hd hK
theorem ei {j:Nat} {b c:Bool} {dst:Option Nat} (hc:c=b) (hK:EL P n ops K (⟨dst,op,ty,pos,af,none⟩ :: rest) e w) (h:yld ops e j=some c:=by exact rfl):EL P n ops K (⟨dst,op,ty,pos,af,some (j,b)⟩ :: rest) e w:=Ci h hc hK
theorem qi {j:Nat} {b c:Bool} {dst:Option Nat} (hc:c=b) (hK:QL P n ops w KQ (⟨dst,op,ty,pos,af,none⟩ :: rest) e) (h:yld ops e j=some c:=by exact rfl):QL P n ops w KQ (⟨dst,op,ty,pos,af,some (j,b)⟩ :: rest) e:=Ch h hc hK
theorem ct {b:Bool} (hb:b=true) (h:CW P n c Q e w) (hc:ev e o=.bool b:=by exact rfl):CW P n (.cond o c y) Q e w:=yf hc hb h
theorem cf {b:Bool} (hb:b=false) (h:CW P n y Q e w) (hc:ev e o=.bool b:=by exact rfl):CW P n (.cond o c y) Q e w:=yI hc hb h
theorem rB {a b:Bool} {Γ:List Asn} (h:some a=some b) (hS:Sat w0 w Γ):Ending.returned (.bool a)=.returned (.bool b)∧Ext w0 w:=⟨by rw [Option.some.inj h],hS.below⟩
theorem rI {a b:Int} {Γ:List Asn} (h:some a=some b) (hS:Sat w0 w Γ):Ending.returned (.int .i64 a)=.returned (.int .i64 b)∧Ext w0 w:=⟨by rw [Option.some.inj h],hS.below⟩
abbrev i_ (x:Int):Value:=.int .i64 x
abbrev n_:Value:=.slice none 0 0
theorem ec0 {f:FuncId} {args:Array Operand} {tys:Array TypeId} {vals:Array Value} {Γ:List Asn} (hg:Goes P f) (hc:Calls P f vals w fun x w'=>x=.returned v∧Ext w w') (hv:(args.toList.map (ev e)).toArray=vals) (S:Sat w0 w Γ)
  (hK:∀ w',Ext w w'→Sat w0 w' Γ→EL P n ops K rest (upd e d v) w') (hd:d<n:=by decide):EL P n ops K (⟨some d,.call ⟨.value (.func f),args,tys⟩,ty,pos,af,none⟩ :: rest) e w :=
 bb hg hc hv hd (by rintro _ w' ⟨rfl,hx⟩;exact ⟨_,rfl,hK w' hx (S.ext hx)⟩)
theorem ec1 {f:FuncId} {args:Array Operand} {tys:Array TypeId} {vals:Array Value} {Γ:List Asn} {G:Value→Value} {A:Value→Asn} (hg:Goes P f) (hc:Calls P f vals w fun x w'=>∃ v,x=.returned (G v)∧Sat w w' [A v]) (hv:(args.toList.map (ev e)).toArray=vals) (S:Sat w0 w Γ)
  (hK:∀ w' v,Ext w w'→Sat w0 w' (A v :: Γ)→EL P n ops K rest (upd e d (G v)) w') (hd:d<n:=by decide):EL P n ops K (⟨some d,.call ⟨.value (.func f),args,tys⟩,ty,pos,af,none⟩ :: rest) e w :=
 bb hg hc hv hd (by rintro _ w' ⟨v,rfl,S'⟩;exact ⟨_,rfl,hK w' v S'.below (S.call1 S')⟩)
theorem aO {X:List Nat} {C:World→Prop} (i:Nat) {f:Nat} {L:Array Bool} (ho:ops[i]? = some q1)
  (h:EL P n ops (fun e' w'=>(X.contains i=true→C w')∧AL P n ops X C K f (L.setIfInBounds i true) e' w') [q1] e w) (hr:Region.ready .any ops L=[i]:=by kernel_rfl):AL P n ops X C K (f+1) L e w:=BA i hr ho h
theorem aP {X:List Nat} {C:World→Prop} (v:Value) (i:Nat) {f:Nat} {L:Array Bool} (hi:ops[i]? = some q1) (hdst:q1.dst=some d) (hC:C w)
  (hy:SV P n ops C q1 e v) (hK:AL P n ops X C K f (L.setIfInBounds i true) (upd e d v) w) (hsel:mn ops=true:=by kernel_rfl) (hdn:d<n:=by decide) (hf:n9 ops X L i q1=true:=by kernel_rfl) (hr:(Region.ready .any ops L).contains i=true:=by kernel_rfl):AL P n ops X C K (f+1) L e w:=xf hsel i hi hdst hdn hC hf hr hy hK
theorem ca {α β:Type} {f:α→β} {l:List α} {m:List β} (h:l.map f=m):(l.map f).toArray=m.toArray:=congrArg List.toArray h
theorem Sat.t1 {a0 a1:Asn} {Γ:List Asn} (h:Sat w0 w (a0 :: a1 :: Γ)):Sat w0 w (a1 :: a0 :: Γ):=h.top 1 rfl
theorem Sat.t2 {a0 a1 a2:Asn} {Γ:List Asn} (h:Sat w0 w (a0 :: a1 :: a2 :: Γ)):Sat w0 w (a2 :: a0 :: a1 :: Γ):=h.top 2 rfl
theorem Sat.t3 {a0 a1 a2 a3:Asn} {Γ:List Asn} (h:Sat w0 w (a0 :: a1 :: a2 :: a3 :: Γ)):Sat w0 w (a3 :: a0 :: a1 :: a2 :: Γ):=h.top 3 rfl
theorem Sat.t4 {a0 a1 a2 a3 a4:Asn} {Γ:List Asn} (h:Sat w0 w (a0 :: a1 :: a2 :: a3 :: a4 :: Γ)):Sat w0 w (a4 :: a0 :: a1 :: a2 :: a3 :: Γ):=h.top 4 rfl
theorem Sat.t5 {a0 a1 a2 a3 a4 a5:Asn} {Γ:List Asn} (h:Sat w0 w (a0 :: a1 :: a2 :: a3 :: a4 :: a5 :: Γ)):Sat w0 w (a5 :: a0 :: a1 :: a2 :: a3 :: a4 :: Γ):=h.top 5 rfl
theorem Sat.t6 {a0 a1 a2 a3 a4 a5 a6:Asn} {Γ:List Asn} (h:Sat w0 w (a0 :: a1 :: a2 :: a3 :: a4 :: a5 :: a6 :: Γ)):Sat w0 w (a6 :: a0 :: a1 :: a2 :: a3 :: a4 :: a5 :: Γ):=h.top 6 rfl
theorem Sat.t7 {a0 a1 a2 a3 a4 a5 a6 a7:Asn} {Γ:List Asn} (h:Sat w0 w (a0 :: a1 :: a2 :: a3 :: a4 :: a5 :: a6 :: a7 :: Γ)):Sat w0 w (a7 :: a0 :: a1 :: a2 :: a3 :: a4 :: a5 :: a6 :: Γ):=h.top 7 rfl
theorem Sat.t8 {a0 a1 a2 a3 a4 a5 a6 a7 a8:Asn} {Γ:List Asn} (h:Sat w0 w (a0 :: a1 :: a2 :: a3 :: a4 :: a5 :: a6 :: a7 :: a8 :: Γ)):Sat w0 w (a8 :: a0 :: a1 :: a2 :: a3 :: a4 :: a5 :: a6 :: a7 :: Γ):=h.top 8 rfl
theorem Sat.t9 {a0 a1 a2 a3 a4 a5 a6 a7 a8 a9:Asn} {Γ:List Asn} (h:Sat w0 w (a0 :: a1 :: a2 :: a3 :: a4 :: a5 :: a6 :: a7 :: a8 :: a9 :: Γ)):Sat w0 w (a9 :: a0 :: a1 :: a2 :: a3 :: a4 :: a5 :: a6 :: a7 :: a8 :: Γ):=h.top 9 rfl
theorem Sat.r0 {a0:Asn} {Γ:List Asn} (h:Sat w0 w (a0 :: Γ)):Sat w0 w (Γ):=h.rem 0 rfl
theorem Sat.r1 {a0 a1:Asn} {Γ:List Asn} (h:Sat w0 w (a0 :: a1 :: Γ)):Sat w0 w (a0 :: Γ):=h.rem 1 rfl
theorem Sat.r2 {a0 a1 a2:Asn} {Γ:List Asn} (h:Sat w0 w (a0 :: a1 :: a2 :: Γ)):Sat w0 w (a0 :: a1 :: Γ):=h.rem 2 rfl
theorem Sat.r3 {a0 a1 a2 a3:Asn} {Γ:List Asn} (h:Sat w0 w (a0 :: a1 :: a2 :: a3 :: Γ)):Sat w0 w (a0 :: a1 :: a2 :: Γ):=h.rem 3 rfl
theorem Sat.r4 {a0 a1 a2 a3 a4:Asn} {Γ:List Asn} (h:Sat w0 w (a0 :: a1 :: a2 :: a3 :: a4 :: Γ)):Sat w0 w (a0 :: a1 :: a2 :: a3 :: Γ):=h.rem 4 rfl
theorem Sat.r5 {a0 a1 a2 a3 a4 a5:Asn} {Γ:List Asn} (h:Sat w0 w (a0 :: a1 :: a2 :: a3 :: a4 :: a5 :: Γ)):Sat w0 w (a0 :: a1 :: a2 :: a3 :: a4 :: Γ):=h.rem 5 rfl
theorem Sat.r6 {a0 a1 a2 a3 a4 a5 a6:Asn} {Γ:List Asn} (h:Sat w0 w (a0 :: a1 :: a2 :: a3 :: a4 :: a5 :: a6 :: Γ)):Sat w0 w (a0 :: a1 :: a2 :: a3 :: a4 :: a5 :: Γ):=h.rem 6 rfl
theorem Sat.r7 {a0 a1 a2 a3 a4 a5 a6 a7:Asn} {Γ:List Asn} (h:Sat w0 w (a0 :: a1 :: a2 :: a3 :: a4 :: a5 :: a6 :: a7 :: Γ)):Sat w0 w (a0 :: a1 :: a2 :: a3 :: a4 :: a5 :: a6 :: Γ):=h.rem 7 rfl
theorem Sat.r8 {a0 a1 a2 a3 a4 a5 a6 a7 a8:Asn} {Γ:List Asn} (h:Sat w0 w (a0 :: a1 :: a2 :: a3 :: a4 :: a5 :: a6 :: a7 :: a8 :: Γ)):Sat w0 w (a0 :: a1 :: a2 :: a3 :: a4 :: a5 :: a6 :: a7 :: Γ):=h.rem 8 rfl
theorem Sat.r9 {a0 a1 a2 a3 a4 a5 a6 a7 a8 a9:Asn} {Γ:List Asn} (h:Sat w0 w (a0 :: a1 :: a2 :: a3 :: a4 :: a5 :: a6 :: a7 :: a8 :: a9 :: Γ)):Sat w0 w (a0 :: a1 :: a2 :: a3 :: a4 :: a5 :: a6 :: a7 :: a8 :: Γ):=h.rem 9 rfl
theorem Sat.r10 {a0 a1 a2 a3 a4 a5 a6 a7 a8 a9 a10:Asn} {Γ:List Asn} (h:Sat w0 w (a0 :: a1 :: a2 :: a3 :: a4 :: a5 :: a6 :: a7 :: a8 :: a9 :: a10 :: Γ)):Sat w0 w (a0 :: a1 :: a2 :: a3 :: a4 :: a5 :: a6 :: a7 :: a8 :: a9 :: Γ):=h.rem 10 rfl
theorem Sat.r11 {a0 a1 a2 a3 a4 a5 a6 a7 a8 a9 a10 a11:Asn} {Γ:List Asn} (h:Sat w0 w (a0 :: a1 :: a2 :: a3 :: a4 :: a5 :: a6 :: a7 :: a8 :: a9 :: a10 :: a11 :: Γ)):Sat w0 w (a0 :: a1 :: a2 :: a3 :: a4 :: a5 :: a6 :: a7 :: a8 :: a9 :: a10 :: Γ):=h.rem 11 rfl
theorem Sat.r12 {a0 a1 a2 a3 a4 a5 a6 a7 a8 a9 a10 a11 a12:Asn} {Γ:List Asn} (h:Sat w0 w (a0 :: a1 :: a2 :: a3 :: a4 :: a5 :: a6 :: a7 :: a8 :: a9 :: a10 :: a11 :: a12 :: Γ)):Sat w0 w (a0 :: a1 :: a2 :: a3 :: a4 :: a5 :: a6 :: a7 :: a8 :: a9 :: a10 :: a11 :: Γ):=h.rem 12 rfl
end
end Go.Proofs.YtoijldeajagjjaaGreat
namespace Go.Proofs.YtoijldeajagjjaaGreat
open Go.RowKit
abbrev R0_:=aA bY 3
abbrev R1_:=aA jJ 9
abbrev R2_:=pd R0_ 28
abbrev R3_:=aA R0_ 28
abbrev R4_:=pw jJ R0_
abbrev R6_:=pw bY R3_
abbrev R7_:=aA R4_ 113
abbrev R9_:=pw jJ R6_
abbrev eQ:=aA R6_ 114
abbrev bC:=aA R9_ 147
abbrev T0_:=List Int
abbrev T1_:=List T0_
abbrev T3_:=ByteArray × List Int
abbrev T4_:=Int × List T0_
abbrev T6_:=List T4_
abbrev T7_:=ByteArray × T4_
abbrev T9_:=List T7_
abbrev cu:=Int × List T3_ × List Int
end Go.Proofs.YtoijldeajagjjaaGreat
namespace Go.Proofs.YtoijldeajagjjaaGreat
open Go.RowKit
set_option maxRecDepth 100000
set_option maxHeartbeats 4000000
theorem v7 {w0:World} {u0:Value} {a0:List Int} (ha0:(aA u8R 5).rd w0 [u0] a0) {N:Nat} {r:Bool} (F:o5 N a0=some r): Calls Tryz.prog 8 #[u0] w0 fun e w'=>e=.returned (.bool r)∧Ext w0 w' := by
 unfold o5 at F;refine aJ Tryz.func8 rfl rfl (dt rfl) ?_;have S:=Sat.start w0;refine sR fun _ D=>?_;refine pa (.bool false) (en D ?_);refine sR fun _ J=>?_;refine pm u0 (pe (i_ (a0.length:Int)) (au rfl ha0) (pe (.bool (decide (1048576 < (a0.length:Int)))) (bB rfl rfl) (pa (.bool (decide (1048576 < (a0.length:Int)))) (en J (aj (aK rfl rfl ?_))))));exact rB F S
theorem ox {w0:World} {a0:Int} {u1:Value} {a1:List T0_} (ha1:R3_.rd w0 [u1] a1) {N:Nat} {r:Int × List T0_} (F:jC N a0 a1=some r): Calls Tryz.prog 107 #[.agg #[i_ a0,u1]] w0 fun e w'=>∃ (q0:Value),e=.returned (.agg #[i_ r.1,q0])∧Sat w0 w' [Own R3_ [q0] r.2] := by
 unfold jC at F;refine aJ Tryz.func107 rfl rfl (dt rfl) ?_;have S:=Sat.start w0;refine sR fun _ CM=>?_;refine bl [i_ a0,u1] rfl S (dt rfl) ?_;intro C9 J S C2;refine aL S (dt rfl) ?_;intro Da Cn S C3;refine en CM ?_;refine sR fun _ CN=>?_;refine pe (.pointer (some ⟨J,0 + 0,none⟩)) (ae rfl) (pe (i_ a0) (ac rfl ((S.boxAt 1 rfl) 0 _ rfl)) (pe (.agg #[i_ a0,n_]) (bf [(0,[i_ a0])] [i_ a0,n_] (cM rfl rfl) rfl) ?_));refine aL S (dt rfl) ?_;intro Db U S C4;refine an (S.top 0 rfl) rfl [i_ a0,n_] rfl rfl (dt rfl) (all_cons rfl (all_cons rfl rfl)) ?_;intro CO S;replace S:Sat w0 CO [Box U 39 [i_ a0,n_],Box Cn 39 [i_ 0,n_],Box J 39 [i_ a0,u1]]:=S;refine en CN ?_;refine sg fun _ CP=>?_;refine sR fun _ CQ=>?_;refine pa (i_ 0) (en CQ ?_);refine bg fun _ CR=>?_;replace S:=S.nil R0_ 28;obtain ⟨CS,hL,CD⟩:=ob F;refine aI (fun k e w=>∃ (D:Value),∃ (Co:List T0_),∃ (Y:Int),e 1=.pointer (some ⟨J,0,none⟩)∧e 2=.pointer (some ⟨Cn,0,none⟩)∧e 3=.pointer (some ⟨U,0,none⟩)∧e 4=i_ Y∧Sat w0 w [Own R3_ [D] Co,Box U 39 [i_ a0,D],Box Cn 39 [i_ 0,n_],Box J 39 [i_ a0,u1]]∧eG N k a0 a1 0 [] a0 Co Y=some CS) N ?_ ?_ ?_
 ·exact ⟨n_,[],0,rfl,rfl,rfl,rfl,S,hL⟩
 ·rintro e w ⟨_,_,_,_,_,_,_,_,hz⟩; exact nomatch (show none=some _ from hz)
 rintro k Dc Dd ⟨D,Co,Y,Cp,Cq,Z,Cr,S,F⟩;refine gn fun _ Cy=>?_;refine sg fun _ Cz=>?_;refine sR fun _ CT=>?_;refine pM (i_ Y) Cr (pe (.pointer (some ⟨J,0 + 1,none⟩)) (ae Cp) (pe u1 (ac rfl ((S.boxAt 3 rfl) 1 _ rfl)) (pe (i_ (a1.length:Int)) (au rfl ha1) (pe (.bool (decide (Y < (a1.length:Int)))) (aM rfl rfl) (en CT ?_)))));rcases oif F with ⟨Cs,F⟩|⟨Cs,F⟩
 ·refine ct Cs (sn Cz ?_);refine sg fun _ CU=>?_;refine bg fun _ CV=>?_;obtain ⟨C,hCd⟩:∃ C:World → Prop,∀ w,C w ↔ ∃ G,Sat w0 w ([Box U 39 [i_ a0,D],Box J 39 [i_ a0,u1]] ++ G):=⟨_,fun _=>Iff.rfl⟩;refine b9 [0,1,2,3,4,5,6,7,8,9,10,11] C (by kernel_rfl) ?_;intro De CE;replace S:=S.ext CE;replace S:=S.t3.t2;have hC:=(hCd _).2 ⟨_,S⟩;refine aP (.pointer (some ⟨U,0 + 1,none⟩)) 0 rfl rfl hC (aB rfl (fun w' hw'=>by obtain ⟨_,S⟩:=(hCd _).1 hw'; exact (ae Z))) ?_;refine aP D 1 rfl rfl hC (aB rfl (fun w' hw'=>by obtain ⟨_,S⟩:=(hCd _).1 hw'; exact (ac rfl ((S.boxAt 0 rfl) 1 _ rfl)))) ?_;refine aP (.pointer (some ⟨J,0 + 1,none⟩)) 3 rfl rfl hC (aB rfl (fun w' hw'=>by obtain ⟨_,S⟩:=(hCd _).1 hw'; exact (ae Cp))) ?_;refine aP u1 4 rfl rfl hC (aB rfl (fun w' hw'=>by obtain ⟨_,S⟩:=(hCd _).1 hw'; exact (ac rfl ((S.boxAt 1 rfl) 1 _ rfl)))) ?_;refine aP (i_ Y) 5 rfl rfl hC (aB rfl (fun w' hw'=>by obtain ⟨_,S⟩:=(hCd _).1 hw'; exact (aW Cr))) ?_;obtain ⟨CX,CF,F⟩:=ob F;refine jt (wA:=w0) (by kernel_rfl) 6 rfl hC (by kernel_rfl) (by kernel_rfl) rfl ha1 rfl (dt rfl) rfl CF (dt rfl) ?_;intro Df C5 Dg Cv CG;obtain ⟨CY,rfl⟩:=ax Cv;refine aP CY 7 rfl rfl hC (aB rfl (fun w' hw'=>by obtain ⟨_,S⟩:=(hCd _).1 hw'; exact (ac rfl ((ak S.below CG) 0 _ rfl)))) ?_;refine aO 2 rfl ?_;refine aT bY S (dt rfl) ?_;intro Dh Di S C6;refine ah ?_;replace S:=S.t2.t2;have hC:=(hCd _).2 ⟨_,S⟩;refine ⟨fun _=>hC,?_⟩;refine aO 8 rfl ?_;obtain ⟨Dj,CH,F⟩:=ob F;obtain ⟨C7,Dk,CI,CJ,Cw⟩:=dw (S.up Cv);replace S:=S.t2;replace S:=S.ints (xs:=CX);refine ay rfl (dt rfl) rfl (dt rfl) S rfl (rfl.trans CI) rfl CJ Cw CH (dt rfl) ?_;intro Dl CA S;refine ah ?_;replace S:=S.t2.t2;have hC:=(hCd _).2 ⟨_,S⟩;refine ⟨fun _=>hC,?_⟩;refine aO 9 rfl ?_;refine aq [CA] (aQ rfl (oc (S.rdAt (R:=R0_) 2 rfl))) (by rfl) (dt rfl) rfl (dt rfl) S (dt rfl) ?_;intro Dm CZ S C8;refine ah ?_;replace S:=S.t2.t2;have hC:=(hCd _).2 ⟨_,S⟩;refine ⟨fun _=>hC,?_⟩;refine aO 10 rfl ?_;obtain ⟨CB,CK,F⟩:=ob F;have Cx:=S.boxRow 2 rfl;replace S:=S.t4;replace S:=S.t4;replace S:=S.one;refine ay rfl (dt rfl) rfl (dt rfl) S rfl rfl rfl (by simp) Cx CK (dt rfl) ?_;intro Dn Ct S;refine ah ?_;replace S:=S.t2.t2;have hC:=(hCd _).2 ⟨_,S⟩;refine ⟨fun _=>hC,?_⟩;refine aO 11 rfl ?_;refine pe (.pointer (some ⟨U,0 + 1,none⟩)) (ae Z) (ah ?_);refine ⟨fun _=>hC,?_⟩;refine aO 12 rfl ?_;refine an (S.top 0 rfl) rfl [Ct] (aQ rfl (oc (S.rdAt (R:=R3_) 2 rfl))) rfl (dt rfl) (all_cons (oc (S.rdAt (R:=R3_) 2 rfl)) rfl) ?_;intro C0 S;replace S:Sat w0 C0 [Box U 39 [i_ a0,Ct],Box J 39 [i_ a0,u1],Own R3_ [Ct] CB,Box CZ 28 [CA],Box Cn 39 [i_ 0,n_]]:=S;refine ah ?_;refine ⟨fun h=>(nomatch (show false=true from h)),?_⟩;refine bF (by kernel_rfl) ?_;refine bn CV (tn CU ?_);replace S:=S.r3;refine ag (pM (i_ Y) Cr ?_);obtain ⟨Cu,CL,F⟩:=ob F;refine pe (i_ Cu) (aE rfl rfl CL) (pa (i_ Cu) (en Cy ?_));replace S:=S.t1.t3.t2.t3;replace S:=S.keep 4;exact ⟨Ct,CB,Cu,Cp,Cq,Z,rfl,S,F⟩
 refine cf Cs (aH (tx Cz (tx Cy ?_)));replace F:=exB F CD;refine bS CR (tn CP ?_);refine sg fun _ C1=>?_;replace S:=S.r3;refine ag (pe (.agg #[i_ a0,D]) (av (cs:=[i_ a0,D]) Z rfl (aw (S.boxAt 1 rfl))) ?_);refine an (S.top 2 rfl) Cq [i_ a0,D] rfl rfl (dt rfl) (all_cons rfl (all_cons (oc (S.rdAt (R:=R3_) 0 rfl)) rfl)) ?_;intro CC S;replace S:Sat w0 CC [Box Cn 39 [i_ a0,D],Own R3_ [D] Co,Box U 39 [i_ a0,D]]:=S;refine en C1 (aj ?_);refine dQ (cs:=[i_ a0,D]) rfl Cq rfl (aw (S.boxAt 0 rfl))  ?_;replace S:=S.t1;have hr:=Option.some.inj F;exact ⟨D,congrArg (fun (r:Int × List T0_)=>Ending.returned (.agg #[i_ r.1,D])) hr,Eq.mp (congrArg (fun (r:Int × List T0_)=>Sat w0 CC [Own R3_ [D] r.2]) hr) (S.keep 1)⟩
theorem bz {w0:World} {u0:Value} {a0:List Int} {u1:Value} {a1:List Int} (ha0:R0_.rd w0 [u0] a0) (ha1:R0_.rd w0 [u1] a1) {N:Nat} {r:Int} (F:bw N a0 a1=some r): Calls Tryz.prog 64 #[u0,u1] w0 fun e w'=>e=.returned (i_ r)∧Ext w0 w' := by
 unfold bw at F;refine aJ Tryz.func64 rfl rfl (dt rfl) ?_;have S:=Sat.start w0;refine sR fun _ C2=>?_;refine pa (i_ 0) (en C2 ?_);refine sg fun _ Cp=>?_;refine sR fun _ C3=>?_;refine pa (i_ 0) (en C3 ?_);refine bg fun _ Cq=>?_;obtain ⟨C4,hL,Cn⟩:=ob F;refine aI (fun k e w=>∃ (D:Int),e 0=u0∧e 1=u1∧e 5=i_ D∧Sat w0 w []∧ge N k a0 a1 D=some C4) N ?_ ?_ ?_
 ·exact ⟨0,rfl,rfl,rfl,S,hL⟩
 ·rintro e w ⟨_,_,_,_,_,hz⟩; exact nomatch (show none=some _ from hz)
 rintro k Dn Do ⟨D,U,Y,Z,S,F⟩;refine gn fun _ Co=>?_;refine sg fun _ Cy=>?_;refine sR fun _ CC=>?_;refine pM (i_ D) Z (pM u0 U (pe (i_ (a0.length:Int)) (au rfl ha0) (pe (.bool (decide (D < (a0.length:Int)))) (aM rfl rfl) (pm (.bool (decide (D < (a0.length:Int)))) ?_))));rcases oif F with ⟨J,F⟩|⟨J,F⟩
 ·refine ei J (pM (i_ D) Z (ei J (pM u1 Y (ei J (pe (i_ (a1.length:Int)) (au rfl ha1) (ei J (pe (.bool (decide (D < (a1.length:Int)))) (aM rfl rfl) (pe (.bool (decide (D < (a1.length:Int)))) (az rfl J rfl) (en CC ?_)))))))));rcases oif F with ⟨Cr,F⟩|⟨Cr,F⟩
  ·refine ct Cr (sn Cy ?_);refine sg fun _ Cz=>?_;refine bg fun _ CA=>?_;refine sg fun _ CD=>?_;refine sg fun _ C5=>?_;refine bO (by kernel_rfl) (by kernel_rfl) ?_;refine qM u0 U (qM (i_ D) Z ?_);obtain ⟨CE,CM,F⟩:=ob F;refine ba (wA:=w0) rfl ha0 rfl (dt rfl) rfl CM (dt rfl) ?_;intro Dp Dj Dq CN CO;obtain rfl:=CN;refine qe (i_ CE) (ac rfl ((ak S.below CO) 0 _ rfl)) (qM u1 Y (qM (i_ D) Z ?_));obtain ⟨CF,CP,F⟩:=ob F;refine ba (wA:=w0) rfl ha1 rfl (dt rfl) rfl CP (dt rfl) ?_;intro Dr Dk Ds CQ CR;obtain rfl:=CQ;refine qe (i_ CF) (ac rfl ((ak S.below CR) 0 _ rfl)) (qe (.bool (decide (CE < CF))) (aM rfl rfl) (bm ?_));intro Dt CS;replace S:=S.ext CS;refine tn C5 ?_;rcases oif F with ⟨Cs,F⟩|⟨Cs,F⟩
   ·refine ct Cs ?_;refine sR fun _ C6=>?_;refine pa (i_ (-1)) (en C6 (aj (tr CD (br CA (tr Cz (tr Co (br Cq (tr Cp ?_))))))));replace F:=exL F Cn;refine aK rfl rfl ?_;exact rI F S
   refine cf Cs (sn CD ?_);refine sg fun _ C7=>?_;refine bO (by kernel_rfl) (by kernel_rfl) ?_;refine qM u0 U (qM (i_ D) Z ?_);obtain ⟨CG,CT,F⟩:=ob F;refine ba (wA:=w0) rfl ha0 rfl (dt rfl) rfl CT (dt rfl) ?_;intro Du Dl Dv CU CV;obtain rfl:=CU;refine qe (i_ CG) (ac rfl ((ak S.below CV) 0 _ rfl)) (qM u1 Y (qM (i_ D) Z ?_));obtain ⟨CH,CX,F⟩:=ob F;refine ba (wA:=w0) rfl ha1 rfl (dt rfl) rfl CX (dt rfl) ?_;intro Dw Dm Dx CY CZ;obtain rfl:=CY;refine qe (i_ CH) (ac rfl ((ak S.below CZ) 0 _ rfl)) (qe (.bool (decide (CH < CG))) (bB rfl rfl) (bm ?_));intro Dy C0;replace S:=S.ext C0;refine tn C7 ?_;rcases oif F with ⟨Ct,F⟩|⟨Ct,F⟩
   ·refine ct Ct ?_;refine sR fun _ C8=>?_;refine pa (i_ 1) (en C8 (aj (br CA (tr Cz (tr Co (br Cq (tr Cp ?_)))))));replace F:=exL F Cn;refine aK rfl rfl ?_;exact rI F S
   refine cf Ct (aU (bn CA (tn Cz (ag (pM (i_ D) Z ?_)))));obtain ⟨CB,C1,F⟩:=ob F;refine pe (i_ CB) (aE rfl rfl C1) (pa (i_ CB) (en Co ?_));replace S:=S.keep 0;exact ⟨CB,U,Y,rfl,S,F⟩
  refine cf Cr (aH (tx Cy (tx Co ?_)));replace F:=exA F Cn;refine bS Cq (tn Cp ?_);refine sg fun _ CI=>?_;refine sR fun _ C9=>?_;refine pM u0 U (pe (i_ (a0.length:Int)) (au rfl ha0) (pM u1 Y (pe (i_ (a1.length:Int)) (au rfl ha1) (pe (.bool (decide ((a0.length:Int) < (a1.length:Int)))) (aM rfl rfl) (en C9 ?_)))));rcases oif F with ⟨Cu,F⟩|⟨Cu,F⟩
  ·refine ct Cu ?_;refine sR fun _ Da=>?_;refine pa (i_ (-1)) (en Da (aj (tr CI (aK rfl rfl ?_))));exact rI F S
  refine cf Cu (sn CI ?_);refine sg fun _ CJ=>?_;refine sR fun _ Db=>?_;refine pM u0 U (pe (i_ (a0.length:Int)) (au rfl ha0) (pM u1 Y (pe (i_ (a1.length:Int)) (au rfl ha1) (pe (.bool (decide ((a1.length:Int) < (a0.length:Int)))) (bB rfl rfl) (en Db ?_)))));rcases oif F with ⟨Cv,F⟩|⟨Cv,F⟩
  ·refine ct Cv ?_;refine sR fun _ Dc=>?_;refine pa (i_ 1) (en Dc (aj (tr CJ (aK rfl rfl ?_))));exact rI F S
  refine cf Cv (sn CJ ?_);refine sR fun _ Dd=>?_;refine pa (i_ 0) (en Dd (aj (aK rfl rfl ?_)));exact rI F S
 refine eo J (eo J (eo J (eo J (pe (.bool false) (aC rfl J rfl) (en CC (cf rfl (aH (tx Cy (tx Co ?_)))))))));replace F:=exA F Cn;refine bS Cq (tn Cp ?_);refine sg fun _ CK=>?_;refine sR fun _ De=>?_;refine pM u0 U (pe (i_ (a0.length:Int)) (au rfl ha0) (pM u1 Y (pe (i_ (a1.length:Int)) (au rfl ha1) (pe (.bool (decide ((a0.length:Int) < (a1.length:Int)))) (aM rfl rfl) (en De ?_)))));rcases oif F with ⟨Cw,F⟩|⟨Cw,F⟩
 ·refine ct Cw ?_;refine sR fun _ Df=>?_;refine pa (i_ (-1)) (en Df (aj (tr CK (aK rfl rfl ?_))));exact rI F S
 refine cf Cw (sn CK ?_);refine sg fun _ CL=>?_;refine sR fun _ Dg=>?_;refine pM u0 U (pe (i_ (a0.length:Int)) (au rfl ha0) (pM u1 Y (pe (i_ (a1.length:Int)) (au rfl ha1) (pe (.bool (decide ((a1.length:Int) < (a0.length:Int)))) (bB rfl rfl) (en Dg ?_)))));rcases oif F with ⟨Cx,F⟩|⟨Cx,F⟩
 ·refine ct Cx ?_;refine sR fun _ Dh=>?_;refine pa (i_ 1) (en Dh (aj (tr CL (aK rfl rfl ?_))));exact rI F S
 refine cf Cx (sn CL ?_);refine sR fun _ Di=>?_;refine pa (i_ 0) (en Di (aj (aK rfl rfl ?_)));exact rI F S
theorem eb {w0:World} {a0:Int} {a1:Int} {a2:Int}  {N:Nat} {r:Bool} (F:eh N a0 a1 a2=some r): Calls Tryz.prog 86 #[i_ a0,i_ a1,i_ a2] w0 fun e w'=>e=.returned (.bool r)∧Ext w0 w' := by
 unfold eh at F;refine aJ Tryz.func86 rfl rfl (dt rfl) ?_;have S:=Sat.start w0;refine sR fun _ U=>?_;refine pa (.bool false) (en U ?_);refine sR fun _ J=>?_;refine pm (i_ a0) (pm (i_ a1) (pe (.bool (decide (a1 ≤ a0))) (dR rfl rfl) (pm (.bool (decide (a1 ≤ a0))) ?_)));rcases oif F with ⟨D,F⟩|⟨D,F⟩
 ·refine ei D (pm (i_ a0) (ei D (pm (i_ a2) (ei D (pe (.bool (decide (a0 ≤ a2))) (iP rfl rfl) (pe (.bool (decide (a0 ≤ a2))) (az rfl D rfl) (pa (.bool (decide (a0 ≤ a2))) (en J (aj (aK rfl rfl ?_))))))))));exact rB F S
 refine eo D (eo D (eo D (pe (.bool false) (aC rfl D rfl) (pa (.bool false) (en J (aj (aK rfl rfl ?_)))))));exact rB F S
theorem ky {w0:World} {u0:Value} {a0:List Int} (ha0:R0_.rd w0 [u0] a0) {N:Nat} {r:Bool} (F:eY N a0=some r): Calls Tryz.prog 85 #[u0] w0 fun e w'=>e=.returned (.bool r)∧Ext w0 w' := by
 unfold eY at F;refine aJ Tryz.func85 rfl rfl (dt rfl) ?_;have S:=Sat.start w0;refine sR fun _ CA=>?_;refine pa (.bool false) (en CA ?_);refine sg fun _ Cq=>?_;refine sR fun _ CB=>?_;refine pa (i_ 0) (en CB ?_);refine bg fun _ Cr=>?_;obtain ⟨CC,hL,Cp⟩:=ob F;refine aI (fun k e w=>∃ (D:Int),e 0=u0∧e 3=i_ D∧Sat w0 w []∧c5 N k a0 D=some CC) N ?_ ?_ ?_
 ·exact ⟨0,rfl,rfl,S,hL⟩
 ·rintro e w ⟨_,_,_,_,hz⟩; exact nomatch (show none=some _ from hz)
 rintro k CL CM ⟨D,J,U,S,F⟩;refine gn fun _ Cn=>?_;refine sg fun _ Cs=>?_;refine sR fun _ CD=>?_;refine pM (i_ D) U (pM u0 J (pe (i_ (a0.length:Int)) (au rfl ha0) (pe (.bool (decide (D < (a0.length:Int)))) (aM rfl rfl) (en CD ?_))));rcases oif F with ⟨Y,F⟩|⟨Y,F⟩
 ·refine ct Y (sn Cs ?_);refine sg fun _ Ct=>?_;refine bg fun _ Cu=>?_;refine sR fun _ CE=>?_;refine pM u0 J (pM (i_ D) U ?_);obtain ⟨CF,Cv,F⟩:=ob F;refine aF (wA:=w0) rfl ha0 rfl (dt rfl) rfl Cv (dt rfl) ?_;intro CN CJ CO Cw Cx;obtain rfl:=Cw;refine pe (i_ CF) (ac rfl ((ak S.below Cx) 0 _ rfl)) ?_;obtain ⟨CG,Cy,F⟩:=ob F;refine ec0 jU (eb Cy) (ca (ai rfl (ai rfl (ai rfl rfl)))) S fun CP CK S=>?_;refine pe (.bool (!CG)) (be rfl) (en CE ?_);rcases oif F with ⟨Z,F⟩|⟨Z,F⟩
  ·refine cf (am Z) (aU (bn Cu (tn Ct (ag (pM (i_ D) U ?_)))));obtain ⟨Co,Cz,F⟩:=ob F;refine pe (i_ Co) (aE rfl rfl Cz) (pa (i_ Co) (en Cn ?_));replace S:=S.keep 0;exact ⟨Co,J,rfl,S,F⟩
  refine ct (ap Z) ?_;refine sR fun _ CH=>?_;refine pa (.bool false) (en CH (aj (br Cu (tr Ct (tr Cn (br Cr (tr Cq ?_)))))));replace F:=exL F Cp;refine aK rfl rfl ?_;exact rB F S
 refine cf Y (aH (tx Cs (tx Cn ?_)));replace F:=exA F Cp;refine bS Cr (tn Cq ?_);refine sR fun _ CI=>?_;refine pa (.bool true) (en CI (aj (aK rfl rfl ?_)));exact rB F S
theorem dM {w0:World} {a0:Int} {u1:Value} {a1:List T0_} (ha1:R3_.rd w0 [u1] a1) {N:Nat} {r:Bool} (F:cq N a0 a1=some r): Calls Tryz.prog 67 #[.agg #[i_ a0,u1]] w0 fun e w'=>e=.returned (.bool r)∧Ext w0 w' := by
 unfold cq at F;refine aJ Tryz.func67 rfl rfl (dt rfl) ?_;have S:=Sat.start w0;refine sR fun _ C6=>?_;refine bl [i_ a0,u1] rfl S (dt rfl) ?_;intro Dr Cp S Dl;refine pa (.bool false) (en C6 ?_);refine sg fun _ CC=>?_;refine sR fun _ CK=>?_;refine pe (.pointer (some ⟨Cp,0 + 0,none⟩)) (ae rfl) (pe (i_ a0) (ac rfl ((S.boxAt 0 rfl) 0 _ rfl)) ?_);obtain ⟨CL,CN,F⟩:=ob F;refine ec0 jU (eb CN) (ca (ai rfl (ai rfl (ai rfl rfl)))) S fun Ds Dm S=>?_;refine pe (.bool (!CL)) (be rfl) (pm (.bool (!CL)) ?_);rcases oif F with ⟨Y,F⟩|⟨Y,F⟩
 ·refine ei (am Y) (pe (.pointer (some ⟨Cp,0 + 1,none⟩)) (ae rfl) (ei (am Y) (pe u1 (ac rfl ((S.boxAt 0 rfl) 1 _ rfl)) (ei (am Y) (pe (i_ (a1.length:Int)) (au rfl ha1) (ei (am Y) (pe (.bool (decide (4000 < (a1.length:Int)))) (bB rfl rfl) (pe (.bool (decide (4000 < (a1.length:Int)))) (aC rfl (am Y) rfl) (en CK ?_)))))))));rcases oif F with ⟨Cu,F⟩|⟨Cu,F⟩
  ·refine ct Cu ?_;refine sg fun _ C7=>?_;replace S:=S.r0;refine ag (pa (.bool false) (en C7 (aj (tr CC (aK rfl rfl ?_)))));exact rB F S
  refine cf Cu (sn CC ?_);refine sg fun _ Cv=>?_;refine sR fun _ C8=>?_;refine pa (i_ 0) (en C8 ?_);refine bg fun _ Cw=>?_;obtain ⟨C9,hL,Cr⟩:=ob F;refine aI (fun k e w=>∃ (Z:Int),e 1=.pointer (some ⟨Cp,0,none⟩)∧e 3=i_ Z∧Sat w0 w [Box Cp 39 [i_ a0,u1]]∧cA N k a0 a1 Z=some C9) N ?_ ?_ ?_
  ·exact ⟨0,rfl,rfl,S,hL⟩
  ·rintro e w ⟨_,_,_,_,hz⟩; exact nomatch (show none=some _ from hz)
  rintro k Dt Du ⟨Z,Cn,Co,S,F⟩;refine gn fun _ Cq=>?_;refine sg fun _ CM=>?_;refine sR fun _ Da=>?_;refine pM (i_ Z) Co (pe (.pointer (some ⟨Cp,0 + 1,none⟩)) (ae Cn) (pe u1 (ac rfl ((S.boxAt 0 rfl) 1 _ rfl)) (pe (i_ (a1.length:Int)) (au rfl ha1) (pe (.bool (decide (Z < (a1.length:Int)))) (aM rfl rfl) (en Da ?_)))));rcases oif F with ⟨Cx,F⟩|⟨Cx,F⟩
  ·refine ct Cx (sn CM ?_);refine sg fun _ Cs=>?_;refine bg fun _ Ct=>?_;refine sg fun _ Cy=>?_;refine bO (by kernel_rfl) (by kernel_rfl) ?_;refine qe (.pointer (some ⟨Cp,0 + 1,none⟩)) (ae Cn) (qe u1 (ac rfl ((S.boxAt 0 rfl) 1 _ rfl)) (qM (i_ Z) Co ?_));obtain ⟨CD,CO,F⟩:=ob F;refine ba (wA:=w0) rfl ha1 rfl (dt rfl) rfl CO (dt rfl) ?_;intro Dv Dn Dw CG CP;obtain ⟨Db,rfl⟩:=ax CG;refine qe Db (ac rfl ((ak S.below CP) 0 _ rfl)) (qe (i_ (CD.length:Int)) (au rfl CG) (qe (.pointer (some ⟨Cp,0 + 0,none⟩)) (ae Cn) (qe (i_ a0) (ac rfl ((S.boxAt 0 rfl) 0 _ rfl)) (qe (.bool ((CD.length:Int) != a0)) (dp rfl rfl) (qm (.bool ((CD.length:Int) != a0)) ?_)))));rcases oif F with ⟨J,F⟩|⟨J,F⟩
   ·refine qo J (qo J (qo J (qo J (qo J (qo J (qo J (qe (.bool true) (az rfl J rfl) (qm (.bool true) (qo rfl (qo rfl (qo rfl ?_)))))))))));refine bI rfl (dt rfl) ?_;refine bI rfl (dt rfl) ?_;refine bI rfl (dt rfl) ?_;refine bI rfl (dt rfl) ?_;refine bI rfl (dt rfl) ?_;refine bI rfl (dt rfl) ?_;refine bI rfl (dt rfl) ?_;refine bI rfl (dt rfl) ?_;refine bI rfl (dt rfl) ?_;refine bI rfl (dt rfl) ?_;refine bI rfl (dt rfl) ?_;refine bI rfl (dt rfl) ?_;refine bI rfl (dt rfl) ?_;refine qo rfl (qe (.bool true) (az rfl rfl rfl) (bm ?_));intro Dx CQ;replace S:=S.ext CQ;refine tn Cy (ct rfl ?_);refine sg fun _ Dc=>?_;replace S:=S.r0;refine ag (pa (.bool false) (en Dc (aj (br Ct (tr Cs (tr Cq (br Cw (tr Cv ?_))))))));replace F:=exL F Cr;refine aK rfl rfl ?_;exact rB F S
   refine qi J (qe (.pointer (some ⟨Cp,0 + 1,none⟩)) (ae Cn) (qi J (qe u1 (ac rfl ((S.boxAt 0 rfl) 1 _ rfl)) (qi J (qM (i_ Z) Co (qi J ?_))))));obtain ⟨Dy,CR,F⟩:=ob F;refine ba (wA:=w0) rfl ha1 rfl (dt rfl) rfl CR (dt rfl) ?_;intro Dz Do DA CH CS;obtain ⟨Dd,rfl⟩:=ax CH;refine qi J (qe Dd (ac rfl ((ak S.below CS) 0 _ rfl)) (qi J ?_));obtain ⟨Cz,CT,F⟩:=ob F;refine c6 (.bool Cz) yr (fun w' hw'=>ky (bJ (S.up CH) hw') CT) (ca (ai rfl rfl)) (dt rfl) ?_;refine qi J (qe (.bool (!Cz)) (be rfl) (qe (.bool (!Cz)) (aC rfl J rfl) (qm (.bool (!Cz)) ?_)));rcases oif F with ⟨U,F⟩|⟨U,F⟩
   ·refine qi (am U) (qM (i_ Z) Co (qi (am U) (qe (.bool (decide (0 < Z))) (bB rfl rfl) (qi (am U) (qm (.bool (decide (0 < Z))) ?_)))));rcases oif F with ⟨D,F⟩|⟨D,F⟩
    ·refine qi D (qe (.pointer (some ⟨Cp,0 + 1,none⟩)) (ae Cn) (qi D (qe u1 (ac rfl ((S.boxAt 0 rfl) 1 _ rfl)) (qi D (qM (i_ Z) Co (qi D ?_))))));obtain ⟨De,CU,F⟩:=ob F;refine qe (i_ De) (cD rfl rfl CU) (qi D ?_);obtain ⟨DB,CV,F⟩:=ob F;refine ba (wA:=w0) rfl ha1 rfl (dt rfl) rfl CV (dt rfl) ?_;intro DC Dp DD CI CX;obtain ⟨Df,rfl⟩:=ax CI;refine qi D (qe Df (ac rfl ((ak S.below CX) 0 _ rfl)) (qi D (qe (.pointer (some ⟨Cp,0 + 1,none⟩)) (ae Cn) (qi D (qe u1 (ac rfl ((S.boxAt 0 rfl) 1 _ rfl)) (qi D (qM (i_ Z) Co (qi D ?_))))))));obtain ⟨DE,CY,F⟩:=ob F;refine ba (wA:=w0) rfl ha1 rfl (dt rfl) rfl CY (dt rfl) ?_;intro DF Dq DG CJ CZ;obtain ⟨Dg,rfl⟩:=ax CJ;refine qi D (qe Dg (ac rfl ((ak S.below CZ) 0 _ rfl)) (qi D ?_));obtain ⟨CA,C0,F⟩:=ob F;refine c6 (i_ CA) fX (fun w' hw'=>bz (bJ (S.up CI) hw') (bJ (S.up CJ) hw') C0) (ca (ai rfl (ai rfl rfl))) (dt rfl) ?_;refine qi D (qe (.bool (decide (0 ≤ CA))) (dR rfl rfl) (qi (am U) (qe (.bool (decide (0 ≤ CA))) (az rfl D rfl) (qe (.bool (decide (0 ≤ CA))) (aC rfl (am U) rfl) (bm ?_)))));intro DH C1;replace S:=S.ext C1;refine tn Cy ?_;rcases oif F with ⟨CB,F⟩|⟨CB,F⟩
     ·refine ct CB ?_;refine sg fun _ Dh=>?_;replace S:=S.r0;refine ag (pa (.bool false) (en Dh (aj (br Ct (tr Cs (tr Cq (br Cw (tr Cv ?_))))))));replace F:=exL F Cr;refine aK rfl rfl ?_;exact rB F S
     refine cf CB (aU (bn Ct (tn Cs (ag (pM (i_ Z) Co ?_)))));obtain ⟨CE,C2,F⟩:=ob F;refine pe (i_ CE) (aE rfl rfl C2) (pa (i_ CE) (en Cq ?_));replace S:=S.keep 1;exact ⟨CE,Cn,rfl,S,F⟩
    refine qo D (qo D (qo D (qo D (qo D (qo D (qo D (qo D (qo D (qo D (qo D (qo D (qo D (qi (am U) (qe (.bool false) (aC rfl D rfl) (qe (.bool false) (aC rfl (am U) rfl) (bm ?_))))))))))))))));intro DI C3;replace S:=S.ext C3;refine tn Cy (cf rfl (aU (bn Ct (tn Cs (ag (pM (i_ Z) Co ?_))))));obtain ⟨CF,C4,F⟩:=ob F;refine pe (i_ CF) (aE rfl rfl C4) (pa (i_ CF) (en Cq ?_));replace S:=S.keep 1;exact ⟨CF,Cn,rfl,S,F⟩
   refine qo (ap U) (qo (ap U) (qo (ap U) ?_));refine bI rfl (dt rfl) ?_;refine bI rfl (dt rfl) ?_;refine bI rfl (dt rfl) ?_;refine bI rfl (dt rfl) ?_;refine bI rfl (dt rfl) ?_;refine bI rfl (dt rfl) ?_;refine bI rfl (dt rfl) ?_;refine bI rfl (dt rfl) ?_;refine bI rfl (dt rfl) ?_;refine bI rfl (dt rfl) ?_;refine bI rfl (dt rfl) ?_;refine bI rfl (dt rfl) ?_;refine bI rfl (dt rfl) ?_;refine qo (ap U) (qe (.bool true) (az rfl (ap U) rfl) (bm ?_));intro DJ C5;replace S:=S.ext C5;refine tn Cy (ct rfl ?_);refine sg fun _ Di=>?_;replace S:=S.r0;refine ag (pa (.bool false) (en Di (aj (br Ct (tr Cs (tr Cq (br Cw (tr Cv ?_))))))));replace F:=exL F Cr;refine aK rfl rfl ?_;exact rB F S
  refine cf Cx (aH (tx CM (tx Cq ?_)));replace F:=exA F Cr;refine bS Cw (tn Cv ?_);refine sg fun _ Dj=>?_;replace S:=S.r0;refine ag (pa (.bool true) (en Dj (aj (aK rfl rfl ?_))));exact rB F S
 refine eo (ap Y) (eo (ap Y) (eo (ap Y) (eo (ap Y) (pe (.bool true) (az rfl (ap Y) rfl) (en CK (ct rfl ?_))))));refine sg fun _ Dk=>?_;replace S:=S.r0;refine ag (pa (.bool false) (en Dk (aj (tr CC (aK rfl rfl ?_)))));exact rB F S
theorem lT {w0:World} {a0:ByteArray} (_:a0.size ≤ 9223372036854775807) {N:Nat} {r:Bool} (F:gv N a0=some r): Calls Tryz.prog 144 #[.string a0] w0 fun e w'=>e=.returned (.bool r)∧Ext w0 w' := by
 unfold gv at F;refine aJ Tryz.func144 rfl rfl (dt rfl) ?_;have S:=Sat.start w0;refine sR fun _ CD=>?_;refine pa (.bool false) (en CD ?_);refine sg fun _ Cq=>?_;refine sR fun _ CE=>?_;refine pa (i_ 0) (en CE ?_);refine bg fun _ Cr=>?_;obtain ⟨CF,hL,Z⟩:=ob F;refine aI (fun k e w=>∃ (J:Int),e 0=.string a0∧e 3=i_ J∧Sat w0 w []∧eX N k a0 J=some CF) N ?_ ?_ ?_
 ·exact ⟨0,rfl,rfl,S,hL⟩
 ·rintro e w ⟨_,_,_,_,hz⟩; exact nomatch (show none=some _ from hz)
 rintro k CM CN ⟨J,U,Y,S,F⟩;refine gn fun _ Cn=>?_;refine sg fun _ Cx=>?_;refine sR fun _ CG=>?_;refine pM (i_ J) Y (pM (.string a0) U (pe (i_ (a0.size:Int)) (lp Tryz.underlying9 rfl) (pe (.bool (decide (J < (a0.size:Int)))) (aM rfl rfl) (en CG ?_))));rcases oif F with ⟨Co,F⟩|⟨Co,F⟩
 ·refine ct Co (sn Cx ?_);refine sg fun _ Cs=>?_;refine bg fun _ Ct=>?_;refine sR fun _ Cy=>?_;refine pM (.string a0) U (pM (i_ J) Y ?_);obtain ⟨Cu,Cz,F⟩:=ob F;refine pe (.int .u8 Cu) (sS Tryz.underlying9 rfl rfl Cz) (pe (.bool (decide (Cu < 97))) (aM rfl rfl) (pm (.bool (decide (Cu < 97))) ?_));rcases oif F with ⟨D,F⟩|⟨D,F⟩
  ·refine eo D (eo D (eo D (eo D (pe (.bool true) (az rfl D rfl) (en Cy (ct rfl ?_))))));refine sR fun _ CH=>?_;refine pa (.bool false) (en CH (aj (br Ct (tr Cs (tr Cn (br Cr (tr Cq ?_)))))));replace F:=exL F Z;refine aK rfl rfl ?_;exact rB F S
  refine ei D (pM (.string a0) U (ei D (pM (i_ J) Y (ei D ?_))));obtain ⟨Cv,CA,F⟩:=ob F;refine pe (.int .u8 Cv) (sS Tryz.underlying9 rfl rfl CA) (ei D (pe (.bool (decide (122 < Cv))) (bB rfl rfl) (pe (.bool (decide (122 < Cv))) (aC rfl D rfl) (en Cy ?_))));rcases oif F with ⟨Cp,F⟩|⟨Cp,F⟩
  ·refine ct Cp ?_;refine sR fun _ CI=>?_;refine pa (.bool false) (en CI (aj (br Ct (tr Cs (tr Cn (br Cr (tr Cq ?_)))))));replace F:=exL F Z;refine aK rfl rfl ?_;exact rB F S
  refine cf Cp (aU (bn Ct (tn Cs (ag (pM (i_ J) Y ?_)))));obtain ⟨Cw,CB,F⟩:=ob F;refine pe (i_ Cw) (aE rfl rfl CB) (pa (i_ Cw) (en Cn ?_));replace S:=S.keep 0;exact ⟨Cw,U,rfl,S,F⟩
 refine cf Co (aH (tx Cx (tx Cn ?_)));replace F:=exA F Z;refine bS Cr (tn Cq ?_);refine sR fun _ CJ=>?_;refine pM (.string a0) U (pe (i_ (a0.size:Int)) (lp Tryz.underlying9 rfl) ?_);obtain ⟨CK,CC,F⟩:=ob F;refine ec0 jU (eb CC) (ca (ai rfl (ai rfl (ai rfl rfl)))) S fun CO CL S=>?_;refine pa (.bool CK) (en CJ (aj (aK rfl rfl ?_)));exact rB F S
theorem ks {w0:World} {u0:Value} {a0:List T7_} (ha0:bC.rd w0 [u0] a0) {N:Nat} {r:Bool} (F:eu N a0=some r): Calls Tryz.prog 113 #[.agg #[u0]] w0 fun e w'=>e=.returned (.bool r)∧Ext w0 w' := by
 unfold eu at F;refine aJ Tryz.func113 rfl rfl (dt rfl) ?_;have S:=Sat.start w0;refine sR fun _ Di=>?_;refine bl [u0] rfl S (dt rfl) ?_;intro DD CD S Dz;refine pa (.bool false) (en Di ?_);refine sg fun _ Cx=>?_;refine sR fun _ Dj=>?_;refine pa (i_ 0) (en Dj ?_);refine bg fun _ Cy=>?_;obtain ⟨Dk,hL,Cs⟩:=ob F;refine aI (fun k e w=>∃ (Cr:Int),e 1=.pointer (some ⟨CD,0,none⟩)∧e 3=i_ Cr∧Sat w0 w [Box CD 26 [u0]]∧ce N k a0 Cr=some Dk) N ?_ ?_ ?_
 ·exact ⟨0,rfl,rfl,S,hL⟩
 ·rintro e w ⟨_,_,_,_,hz⟩; exact nomatch (show none=some _ from hz)
 rintro k DE DF ⟨Cr,CA,CB,S,F⟩;refine gn fun _ Ct=>?_;refine sg fun _ CN=>?_;refine sR fun _ Dl=>?_;refine pM (i_ Cr) CB (pe (.pointer (some ⟨CD,0 + 0,none⟩)) (ae CA) (pe u0 (ac rfl ((S.boxAt 0 rfl) 0 _ rfl)) (pe (i_ (a0.length:Int)) (au rfl ha0) (pe (.bool (decide (Cr < (a0.length:Int)))) (aM rfl rfl) (en Dl ?_)))));rcases oif F with ⟨CF,F⟩|⟨CF,F⟩
 ·refine ct CF (sn CN ?_);refine sg fun _ Cu=>?_;refine bg fun _ Cv=>?_;refine sR fun _ Dm=>?_;refine pe (.pointer (some ⟨CD,0 + 0,none⟩)) (ae CA) (pe u0 (ac rfl ((S.boxAt 0 rfl) 0 _ rfl)) (pM (i_ Cr) CB ?_));obtain ⟨D,CO,F⟩:=ob F;refine aF (wA:=w0) rfl ha0 rfl (dt rfl) rfl CO (dt rfl) ?_;intro DG DA DH CP CQ;obtain ⟨_,_,rfl,CR,CS⟩:=CP;obtain ⟨rfl,CT⟩:=CR;obtain ⟨_,_,rfl,CU,CC⟩:=CS;obtain rfl:=CU;obtain ⟨Cw,rfl⟩:=ax CC;refine pe (.agg #[.string D.1,i_ D.2.1,Cw]) (av (cs:=[.string D.1,i_ D.2.1,Cw]) rfl rfl (ak S.below CQ)) ?_;refine aL S (dt rfl) ?_;intro DI Cq S DB;refine an (S.top 0 rfl) rfl [.string D.1,i_ D.2.1,Cw] rfl rfl (dt rfl) (all_cons rfl (all_cons rfl (all_cons (oc CC) rfl))) ?_;intro Dn S;replace S:Sat w0 Dn [Box Cq 147 [.string D.1,i_ D.2.1,Cw],Box CD 26 [u0]]:=S;refine en Dm ?_;refine sg fun _ Cz=>?_;refine bO (by kernel_rfl) (by kernel_rfl) ?_;refine qe (.pointer (some ⟨Cq,0 + 0,none⟩)) (ae rfl) (qe (.string D.1) (ac rfl ((S.boxAt 0 rfl) 0 _ rfl)) ?_);obtain ⟨CK,CV,F⟩:=ob F;refine c6 (.bool CK) w7 (fun w' hw'=>lT CT CV) (ca (ai rfl rfl)) (dt rfl) ?_;refine qe (.bool (!CK)) (be rfl) (qm (.bool (!CK)) ?_);rcases oif F with ⟨U,F⟩|⟨U,F⟩
  ·refine qi (am U) (qM (i_ Cr) CB (qi (am U) (qe (.bool (decide (0 < Cr))) (bB rfl rfl) (qi (am U) (qm (.bool (decide (0 < Cr))) ?_)))));rcases oif F with ⟨J,F⟩|⟨J,F⟩
   ·refine qi J (qe (.pointer (some ⟨CD,0 + 0,none⟩)) (ae CA) (qi J (qe u0 (ac rfl ((S.boxAt 1 rfl) 0 _ rfl)) (qi J (qM (i_ Cr) CB (qi J ?_))))));obtain ⟨Do,CX,F⟩:=ob F;refine qe (i_ Do) (cD rfl rfl CX) (qi J ?_);obtain ⟨CE,CY,F⟩:=ob F;refine ba (wA:=w0) rfl ha0 rfl (dt rfl) rfl CY (dt rfl) ?_;intro Dp CZ DJ C0 C1;obtain ⟨_,_,rfl,C2,C3⟩:=C0;obtain ⟨rfl,DC⟩:=C2;obtain ⟨_,_,rfl,C4,C5⟩:=C3;obtain rfl:=C4;obtain ⟨DK,rfl⟩:=ax C5;refine qi J (qe (.pointer (some ⟨Dp,CZ + 0,none⟩)) (ae rfl) (qi J (qe (.string CE.1) (ac rfl ((ak S.below C1) 0 _ rfl)) (qi J (qe (.pointer (some ⟨Cq,0 + 0,none⟩)) (ae rfl) (qi J (qe (.string D.1) (ac rfl ((S.boxAt 0 rfl) 0 _ rfl)) (qi J (qe (.bool (!(ltS CE.1 D.1))) (wx rfl rfl) (qi (am U) (qe (.bool (!(ltS CE.1 D.1))) (az rfl J rfl) (qe (.bool (!(ltS CE.1 D.1))) (aC rfl (am U) rfl) (qm (.bool (!(ltS CE.1 D.1))) ?_)))))))))))));rcases oif F with ⟨Cn,F⟩|⟨Cn,F⟩
    ·refine qi (am Cn) (qe (.pointer (some ⟨Cq,0 + 1,none⟩)) (ae rfl) (qi (am Cn) (qe (.agg #[i_ D.2.1,Cw]) (av (cs:=[i_ D.2.1,Cw]) rfl rfl (uP (S.boxAt 0 rfl) 1 2)) (qi (am Cn) ?_))));obtain ⟨CG,C6,F⟩:=ob F;refine c6 (.bool CG) oD (fun w' hw'=>dM (bJ (S.up CC) hw') C6) (ca (ai rfl rfl)) (dt rfl) ?_;refine qi (am Cn) (qe (.bool (!CG)) (be rfl) (qe (.bool (!CG)) (aC rfl (am Cn) rfl) (qm (.bool (!CG)) ?_)));rcases oif F with ⟨Y,F⟩|⟨Y,F⟩
     ·refine qi (am Y) (qe (.pointer (some ⟨Cq,0 + 1,none⟩)) (ae rfl) (qi (am Y) (qe (.pointer (some ⟨Cq,0 + 1 + 1,none⟩)) (ae rfl) (qi (am Y) (qe Cw (ac rfl ((S.boxAt 0 rfl) 2 _ rfl)) (qi (am Y) (qe (i_ (D.2.2.length:Int)) (au rfl CC) (qi (am Y) (qe (.bool (decide (16 < (D.2.2.length:Int)))) (bB rfl rfl) (qe (.bool (decide (16 < (D.2.2.length:Int)))) (aC rfl (am Y) rfl) (qm (.bool (decide (16 < (D.2.2.length:Int)))) ?_)))))))))));rcases oif F with ⟨Co,F⟩|⟨Co,F⟩
      ·refine qo Co (qo Co (qo Co (qo Co (qe (.bool true) (az rfl Co rfl) (bm ?_)))));intro DL C7;replace S:=S.ext C7;refine tn Cz (ct rfl ?_);refine sg fun _ Dq=>?_;replace S:=S.r1.r0;refine ag (pa (.bool false) (en Dq (aj (br Cv (tr Cu (tr Ct (br Cy (tr Cx ?_))))))));replace F:=exL F Cs;refine aK rfl rfl ?_;exact rB F S
      refine qi Co (qe (.pointer (some ⟨Cq,0 + 1,none⟩)) (ae rfl) (qi Co (qe (.pointer (some ⟨Cq,0 + 1 + 0,none⟩)) (ae rfl) (qi Co (qe (i_ D.2.1) (ac rfl ((S.boxAt 0 rfl) 1 _ rfl)) (qi Co (qe (.bool (decide (D.2.1 < 1))) (aM rfl rfl) (qe (.bool (decide (D.2.1 < 1))) (aC rfl Co rfl) (bm ?_)))))))));intro DM C8;replace S:=S.ext C8;refine tn Cz ?_;rcases oif F with ⟨CH,F⟩|⟨CH,F⟩
      ·refine ct CH ?_;refine sg fun _ Dr=>?_;replace S:=S.r1.r0;refine ag (pa (.bool false) (en Dr (aj (br Cv (tr Cu (tr Ct (br Cy (tr Cx ?_))))))));replace F:=exL F Cs;refine aK rfl rfl ?_;exact rB F S
      refine cf CH (aU (bn Cv (tn Cu ?_)));replace S:=S.r0;refine ag (pM (i_ Cr) CB ?_);obtain ⟨CL,C9,F⟩:=ob F;refine pe (i_ CL) (aE rfl rfl C9) (pa (i_ CL) (en Ct ?_));replace S:=S.keep 1;exact ⟨CL,CA,rfl,S,F⟩
     refine qo (ap Y) (qo (ap Y) (qo (ap Y) (qo (ap Y) (qo (ap Y) (qe (.bool true) (az rfl (ap Y) rfl) (qm (.bool true) (qo rfl (qo rfl (qo rfl (qo rfl (qe (.bool true) (az rfl rfl rfl) (bm ?_))))))))))));intro DN Da;replace S:=S.ext Da;refine tn Cz (ct rfl ?_);refine sg fun _ Ds=>?_;replace S:=S.r1.r0;refine ag (pa (.bool false) (en Ds (aj (br Cv (tr Cu (tr Ct (br Cy (tr Cx ?_))))))));replace F:=exL F Cs;refine aK rfl rfl ?_;exact rB F S
    refine qo (ap Cn) (qo (ap Cn) (qo (ap Cn) (qo (ap Cn) (qe (.bool true) (az rfl (ap Cn) rfl) (qm (.bool true) (qo rfl (qo rfl (qo rfl (qo rfl (qo rfl (qe (.bool true) (az rfl rfl rfl) (qm (.bool true) (qo rfl (qo rfl (qo rfl (qo rfl (qe (.bool true) (az rfl rfl rfl) (bm ?_))))))))))))))))));intro DO Db;replace S:=S.ext Db;refine tn Cz (ct rfl ?_);refine sg fun _ Dt=>?_;replace S:=S.r1.r0;refine ag (pa (.bool false) (en Dt (aj (br Cv (tr Cu (tr Ct (br Cy (tr Cx ?_))))))));replace F:=exL F Cs;refine aK rfl rfl ?_;exact rB F S
   refine qo J (qo J (qo J (qo J (qo J (qo J (qo J (qo J (qo J (qo J (qi (am U) (qe (.bool false) (aC rfl J rfl) (qe (.bool false) (aC rfl (am U) rfl) (qm (.bool false) (qi rfl (qe (.pointer (some ⟨Cq,0 + 1,none⟩)) (ae rfl) (qi rfl (qe (.agg #[i_ D.2.1,Cw]) (av (cs:=[i_ D.2.1,Cw]) rfl rfl (uP (S.boxAt 0 rfl) 1 2)) (qi rfl ?_))))))))))))))))));obtain ⟨CI,Dc,F⟩:=ob F;refine c6 (.bool CI) oD (fun w' hw'=>dM (bJ (S.up CC) hw') Dc) (ca (ai rfl rfl)) (dt rfl) ?_;refine qi rfl (qe (.bool (!CI)) (be rfl) (qe (.bool (!CI)) (aC rfl rfl rfl) (qm (.bool (!CI)) ?_)));rcases oif F with ⟨Z,F⟩|⟨Z,F⟩
   ·refine qi (am Z) (qe (.pointer (some ⟨Cq,0 + 1,none⟩)) (ae rfl) (qi (am Z) (qe (.pointer (some ⟨Cq,0 + 1 + 1,none⟩)) (ae rfl) (qi (am Z) (qe Cw (ac rfl ((S.boxAt 0 rfl) 2 _ rfl)) (qi (am Z) (qe (i_ (D.2.2.length:Int)) (au rfl CC) (qi (am Z) (qe (.bool (decide (16 < (D.2.2.length:Int)))) (bB rfl rfl) (qe (.bool (decide (16 < (D.2.2.length:Int)))) (aC rfl (am Z) rfl) (qm (.bool (decide (16 < (D.2.2.length:Int)))) ?_)))))))))));rcases oif F with ⟨Cp,F⟩|⟨Cp,F⟩
    ·refine qo Cp (qo Cp (qo Cp (qo Cp (qe (.bool true) (az rfl Cp rfl) (bm ?_)))));intro DP Dd;replace S:=S.ext Dd;refine tn Cz (ct rfl ?_);refine sg fun _ Du=>?_;replace S:=S.r1.r0;refine ag (pa (.bool false) (en Du (aj (br Cv (tr Cu (tr Ct (br Cy (tr Cx ?_))))))));replace F:=exL F Cs;refine aK rfl rfl ?_;exact rB F S
    refine qi Cp (qe (.pointer (some ⟨Cq,0 + 1,none⟩)) (ae rfl) (qi Cp (qe (.pointer (some ⟨Cq,0 + 1 + 0,none⟩)) (ae rfl) (qi Cp (qe (i_ D.2.1) (ac rfl ((S.boxAt 0 rfl) 1 _ rfl)) (qi Cp (qe (.bool (decide (D.2.1 < 1))) (aM rfl rfl) (qe (.bool (decide (D.2.1 < 1))) (aC rfl Cp rfl) (bm ?_)))))))));intro DQ De;replace S:=S.ext De;refine tn Cz ?_;rcases oif F with ⟨CJ,F⟩|⟨CJ,F⟩
    ·refine ct CJ ?_;refine sg fun _ Dv=>?_;replace S:=S.r1.r0;refine ag (pa (.bool false) (en Dv (aj (br Cv (tr Cu (tr Ct (br Cy (tr Cx ?_))))))));replace F:=exL F Cs;refine aK rfl rfl ?_;exact rB F S
    refine cf CJ (aU (bn Cv (tn Cu ?_)));replace S:=S.r0;refine ag (pM (i_ Cr) CB ?_);obtain ⟨CM,Df,F⟩:=ob F;refine pe (i_ CM) (aE rfl rfl Df) (pa (i_ CM) (en Ct ?_));replace S:=S.keep 1;exact ⟨CM,CA,rfl,S,F⟩
   refine qo (ap Z) (qo (ap Z) (qo (ap Z) (qo (ap Z) (qo (ap Z) (qe (.bool true) (az rfl (ap Z) rfl) (qm (.bool true) (qo rfl (qo rfl (qo rfl (qo rfl (qe (.bool true) (az rfl rfl rfl) (bm ?_))))))))))));intro DR Dg;replace S:=S.ext Dg;refine tn Cz (ct rfl ?_);refine sg fun _ Dw=>?_;replace S:=S.r1.r0;refine ag (pa (.bool false) (en Dw (aj (br Cv (tr Cu (tr Ct (br Cy (tr Cx ?_))))))));replace F:=exL F Cs;refine aK rfl rfl ?_;exact rB F S
  refine qo (ap U) (qo (ap U) (qo (ap U) ?_));refine bI rfl (dt rfl) ?_;refine bI rfl (dt rfl) ?_;refine bI rfl (dt rfl) ?_;refine bI rfl (dt rfl) ?_;refine bI rfl (dt rfl) ?_;refine bI rfl (dt rfl) ?_;refine bI rfl (dt rfl) ?_;refine bI rfl (dt rfl) ?_;refine bI rfl (dt rfl) ?_;refine bI rfl (dt rfl) ?_;refine qo (ap U) (qe (.bool true) (az rfl (ap U) rfl) (qm (.bool true) (qo rfl (qo rfl (qo rfl (qo rfl (qe (.bool true) (az rfl rfl rfl) (qm (.bool true) (qo rfl (qo rfl (qo rfl (qo rfl (qo rfl (qe (.bool true) (az rfl rfl rfl) (qm (.bool true) (qo rfl (qo rfl (qo rfl (qo rfl (qe (.bool true) (az rfl rfl rfl) (bm ?_)))))))))))))))))))));intro DS Dh;replace S:=S.ext Dh;refine tn Cz (ct rfl ?_);refine sg fun _ Dx=>?_;replace S:=S.r1.r0;refine ag (pa (.bool false) (en Dx (aj (br Cv (tr Cu (tr Ct (br Cy (tr Cx ?_))))))));replace F:=exL F Cs;refine aK rfl rfl ?_;exact rB F S
 refine cf CF (aH (tx CN (tx Ct ?_)));replace F:=exA F Cs;refine bS Cy (tn Cx ?_);refine sR fun _ Dy=>?_;refine pe (.pointer (some ⟨CD,0 + 0,none⟩)) (ae CA) (pe u0 (ac rfl ((S.boxAt 0 rfl) 0 _ rfl)) (pe (i_ (a0.length:Int)) (au rfl ha0) (pe (.bool (decide ((a0.length:Int) ≤ 6))) (iP rfl rfl) (pa (.bool (decide ((a0.length:Int) ≤ 6))) (en Dy (aj (aK rfl rfl ?_)))))));exact rB F S
theorem ff {w0:World} {u0:Value} {a0:List T7_} {a1:ByteArray} (ha0:bC.rd w0 [u0] a0) (_:a1.size ≤ 9223372036854775807) {N:Nat} {r:T4_ × Bool} (F:dW N a0 a1=some r): Calls Tryz.prog 111 #[.agg #[u0],.string a1] w0 fun e w'=>∃ (q0:Value),e=.returned (.tuple #[.agg #[i_ r.1.1,q0],.bool r.2])∧Sat w0 w' [Own R3_ [q0] r.1.2] := by
 unfold dW at F;refine aJ Tryz.func111 rfl rfl (dt rfl) ?_;have S:=Sat.start w0;refine sR fun _ C3=>?_;refine bl [u0] rfl S (dt rfl) ?_;intro Dj Cn S Dd;refine aL S (dt rfl) ?_;intro Dk Cp S De;refine pa (.bool false) (en C3 ?_);refine sg fun _ Cv=>?_;refine sR fun _ C4=>?_;refine pa (i_ 0) (en C4 ?_);refine bg fun _ Cw=>?_;obtain ⟨C5,hL,Cq⟩:=ob F;refine aI (fun k e w=>∃ (D:Int),e 1=.string a1∧e 2=.pointer (some ⟨Cn,0,none⟩)∧e 4=.pointer (some ⟨Cp,0,none⟩)∧e 6=i_ D∧Sat w0 w [Box Cp 39 [i_ 0,n_],Box Cn 26 [u0]]∧ck N k a1 a0 0 [] D=some C5) N ?_ ?_ ?_
 ·exact ⟨0,rfl,rfl,rfl,rfl,S,hL⟩
 ·rintro e w ⟨_,_,_,_,_,_,hz⟩; exact nomatch (show none=some _ from hz)
 rintro k Dl Dm ⟨D,Cz,Z,J,Co,S,F⟩;refine gn fun _ Cr=>?_;refine sg fun _ Cx=>?_;refine sR fun _ CB=>?_;refine pM (i_ D) Co (pe (.pointer (some ⟨Cn,0 + 0,none⟩)) (ae Z) (pe u0 (ac rfl ((S.boxAt 1 rfl) 0 _ rfl)) (pe (i_ (a0.length:Int)) (au rfl ha0) (pe (.bool (decide (D < (a0.length:Int)))) (aM rfl rfl) (pm (.bool (decide (D < (a0.length:Int)))) ?_)))));rcases oif F with ⟨U,F⟩|⟨U,F⟩
 ·refine ei U (pe (.agg #[u0]) (av (cs:=[u0]) Z rfl (aw (S.boxAt 1 rfl))) (ei U ?_));obtain ⟨C6,CK,F⟩:=ob F;refine ec0 wX (ks (S.up ha0) CK) (ca (ai rfl rfl)) S fun Dn Df S=>?_;refine pe (.bool C6) (az rfl U rfl) (en CB ?_);rcases oif F with ⟨Cs,F⟩|⟨Cs,F⟩
  ·refine ct Cs (sn Cx ?_);refine sg fun _ CC=>?_;refine bg fun _ CD=>?_;refine sR fun _ C7=>?_;refine pe (.pointer (some ⟨Cn,0 + 0,none⟩)) (ae Z) (pe u0 (ac rfl ((S.boxAt 1 rfl) 0 _ rfl)) (pM (i_ D) Co ?_));obtain ⟨CE,CL,F⟩:=ob F;refine aF (wA:=w0) rfl ha0 rfl (dt rfl) rfl CL (dt rfl) ?_;intro C8 CM Do CN CO;obtain ⟨_,_,rfl,CP,CQ⟩:=CN;obtain ⟨rfl,Dg⟩:=CP;obtain ⟨_,_,rfl,CR,CS⟩:=CQ;obtain rfl:=CR;obtain ⟨Dp,rfl⟩:=ax CS;refine pe (.pointer (some ⟨C8,CM + 0,none⟩)) (ae rfl) (pe (.string CE.1) (ac rfl ((ak S.below CO) 0 _ rfl)) (pM (.string a1) Cz (pe (.bool (eqS CE.1 a1)) (nb rfl rfl) (en C7 ?_))));rcases oif F with ⟨Ct,F⟩|⟨Ct,F⟩
   ·refine ct Ct ?_;refine sR fun _ C9=>?_;refine pe (.pointer (some ⟨Cn,0 + 0,none⟩)) (ae Z) (pe u0 (ac rfl ((S.boxAt 1 rfl) 0 _ rfl)) (pM (i_ D) Co ?_));obtain ⟨CF,CT,F⟩:=ob F;refine aF (wA:=w0) rfl ha0 rfl (dt rfl) rfl CT (dt rfl) ?_;intro Da CU Dq CV CX;obtain ⟨_,_,rfl,CY,CZ⟩:=CV;obtain ⟨rfl,Dh⟩:=CY;obtain ⟨_,_,rfl,C0,CA⟩:=CZ;obtain rfl:=C0;obtain ⟨CG,rfl⟩:=ax CA;refine pe (.pointer (some ⟨Da,CU + 1,none⟩)) (ae rfl) (pe (.agg #[i_ CF.2.1,CG]) (av (cs:=[i_ CF.2.1,CG]) rfl rfl (yl (ak S.below CX) 1 2)) ?_);obtain ⟨Cu,C1,F⟩:=ob F;refine ec1 wv (ox (S.up CA) C1) (ca (ai rfl rfl)) S fun Dr Y Di S=>?_;refine an (S.top 1 rfl) J [i_ Cu.1,Y] rfl rfl (dt rfl) (all_cons rfl (all_cons (oc (S.rdAt (R:=R3_) 0 rfl)) rfl)) ?_;intro CH S;replace S:Sat w0 CH [Box Cp 39 [i_ Cu.1,Y],Own R3_ [Y] Cu.2,Box Cn 26 [u0]]:=S;refine pa (.bool true) (en C9 (aj (br CD (tr CC (tr Cr (br Cw (tr Cv ?_)))))));replace F:=exL F Cq;refine c8 (cs:=[i_ Cu.1,Y]) rfl J rfl (aw (S.boxAt 0 rfl)) rfl ?_;replace S:=S.t1;have hr:=Option.some.inj F;exact ⟨Y,congrArg (fun (r:T4_ × Bool)=>Ending.returned (.tuple #[.agg #[i_ r.1.1,Y],.bool r.2])) hr,Eq.mp (congrArg (fun (r:T4_ × Bool)=>Sat w0 CH [Own R3_ [Y] r.1.2]) hr) (S.keep 1)⟩
   refine cf Ct (aU (bn CD (tn CC (ag (pM (i_ D) Co ?_)))));obtain ⟨Cy,C2,F⟩:=ob F;refine pe (i_ Cy) (aE rfl rfl C2) (pa (i_ Cy) (en Cr ?_));replace S:=S.keep 2;exact ⟨Cy,Cz,Z,J,rfl,S,F⟩
  refine cf Cs (aH (tx Cx (tx Cr ?_)));replace F:=exA F Cq;refine bS Cw (tn Cv ?_);refine sg fun _ Db=>?_;replace S:=S.r1;refine ag (pe (.agg #[i_ 0,n_]) (bf [] [i_ 0,n_] rfl rfl) ?_);refine an (S.top 0 rfl) J [i_ 0,n_] rfl rfl (dt rfl) (all_cons rfl (all_cons rfl rfl)) ?_;intro CI S;replace S:Sat w0 CI [Box Cp 39 [i_ 0,n_]]:=S;refine pa (.bool false) (en Db (aj ?_));replace S:=S.nil R0_ 28;refine c8 (cs:=[i_ 0,n_]) rfl J rfl (aw (S.boxAt 1 rfl)) rfl ?_;have hr:=Option.some.inj F;exact ⟨n_,congrArg (fun (r:T4_ × Bool)=>Ending.returned (.tuple #[.agg #[i_ r.1.1,n_],.bool r.2])) hr,Eq.mp (congrArg (fun (r:T4_ × Bool)=>Sat w0 CI [Own R3_ [n_] r.1.2]) hr) (S.keep 1)⟩
 refine eo U (eo U (pe (.bool false) (aC rfl U rfl) (en CB (cf rfl (aH (tx Cx (tx Cr ?_)))))));replace F:=exA F Cq;refine bS Cw (tn Cv ?_);refine sg fun _ Dc=>?_;replace S:=S.r1;refine ag (pe (.agg #[i_ 0,n_]) (bf [] [i_ 0,n_] rfl rfl) ?_);refine an (S.top 0 rfl) J [i_ 0,n_] rfl rfl (dt rfl) (all_cons rfl (all_cons rfl rfl)) ?_;intro CJ S;replace S:Sat w0 CJ [Box Cp 39 [i_ 0,n_]]:=S;refine pa (.bool false) (en Dc (aj ?_));replace S:=S.nil R0_ 28;refine c8 (cs:=[i_ 0,n_]) rfl J rfl (aw (S.boxAt 1 rfl)) rfl ?_;have hr:=Option.some.inj F;exact ⟨n_,congrArg (fun (r:T4_ × Bool)=>Ending.returned (.tuple #[.agg #[i_ r.1.1,n_],.bool r.2])) hr,Eq.mp (congrArg (fun (r:T4_ × Bool)=>Sat w0 CJ [Own R3_ [n_] r.1.2]) hr) (S.keep 1)⟩
theorem gw {w0:World} {u0:Value} {a0:List Int} {a1:Int} (ha0:R0_.rd w0 [u0] a0) {N:Nat} {r:Int} (F:fg N a0 a1=some r): Calls Tryz.prog 77 #[u0,i_ a1] w0 fun e w'=>e=.returned (i_ r)∧Ext w0 w' := by
 unfold fg at F;refine aJ Tryz.func77 rfl rfl (dt rfl) ?_;have S:=Sat.start w0;refine sR fun _ CB=>?_;refine pa (i_ 0) (en CB ?_);refine sg fun _ Cr=>?_;refine sR fun _ CC=>?_;refine pa (i_ 0) (en CC ?_);refine bg fun _ Cs=>?_;obtain ⟨CD,hL,Cp⟩:=ob F;refine aI (fun k e w=>∃ (D:Int),e 0=u0∧e 1=i_ a1∧e 5=i_ D∧Sat w0 w []∧jh N k a0 a1 D=some CD) N ?_ ?_ ?_
 ·exact ⟨0,rfl,rfl,rfl,S,hL⟩
 ·rintro e w ⟨_,_,_,_,_,hz⟩; exact nomatch (show none=some _ from hz)
 rintro k CJ CK ⟨D,U,Cq,J,S,F⟩;refine gn fun _ Cn=>?_;refine sg fun _ Ct=>?_;refine sR fun _ CE=>?_;refine pM (i_ D) J (pM u0 U (pe (i_ (a0.length:Int)) (au rfl ha0) (pe (.bool (decide (D < (a0.length:Int)))) (aM rfl rfl) (en CE ?_))));rcases oif F with ⟨Y,F⟩|⟨Y,F⟩
 ·refine ct Y (sn Ct ?_);refine sg fun _ Cu=>?_;refine bg fun _ Cv=>?_;refine sR fun _ CF=>?_;refine pM u0 U (pM (i_ D) J ?_);obtain ⟨Cw,Cx,F⟩:=ob F;refine aF (wA:=w0) rfl ha0 rfl (dt rfl) rfl Cx (dt rfl) ?_;intro CL CI CM Cy Cz;obtain rfl:=Cy;refine pe (i_ Cw) (ac rfl ((ak S.below Cz) 0 _ rfl)) (pM (i_ a1) Cq (pe (.bool (Cw == a1)) (bA rfl rfl) (en CF ?_)));rcases oif F with ⟨Z,F⟩|⟨Z,F⟩
  ·refine ct Z ?_;refine sR fun _ CG=>?_;refine pM (i_ D) J (pa (i_ D) (en CG (aj (br Cv (tr Cu (tr Cn (br Cs (tr Cr ?_))))))));replace F:=exL F Cp;refine aK rfl rfl ?_;exact rI F S
  refine cf Z (aU (bn Cv (tn Cu (ag (pM (i_ D) J ?_)))));obtain ⟨Co,CA,F⟩:=ob F;refine pe (i_ Co) (aE rfl rfl CA) (pa (i_ Co) (en Cn ?_));replace S:=S.keep 0;exact ⟨Co,U,Cq,rfl,S,F⟩
 refine cf Y (aH (tx Ct (tx Cn ?_)));replace F:=exA F Cp;refine bS Cs (tn Cr ?_);refine sR fun _ CH=>?_;refine pa (i_ (-1)) (en CH (aj (aK rfl rfl ?_)));exact rI F S
theorem fK {w0:World} {a0:ByteArray} {u1:Value} {a1:List Int} {a2:Int} (_:a0.size ≤ 9223372036854775807) (ha1:R0_.rd w0 [u1] a1) {N:Nat} {r:Bool} (F:dg N a0 a1 a2=some r): Calls Tryz.prog 139 #[.agg #[.string a0,u1],i_ a2] w0 fun e w'=>e=.returned (.bool r)∧Ext w0 w' := by
 unfold dg at F;refine aJ Tryz.func139 rfl rfl (dt rfl) ?_;have S:=Sat.start w0;refine sR fun _ CC=>?_;refine bl [.string a0,u1] rfl S (dt rfl) ?_;intro CL J S CJ;refine pa (.bool false) (en CC ?_);refine sg fun _ Cs=>?_;refine sR fun _ CD=>?_;refine pa (i_ 0) (en CD ?_);refine bg fun _ Ct=>?_;obtain ⟨CE,hL,Cq⟩:=ob F;refine aI (fun k e w=>∃ (D:Int),e 1=i_ a2∧e 2=.pointer (some ⟨J,0,none⟩)∧e 5=i_ D∧Sat w0 w [Box J 113 [.string a0,u1]]∧cp N k a2 a0 a1 D=some CE) N ?_ ?_ ?_
 ·exact ⟨0,rfl,rfl,rfl,S,hL⟩
 ·rintro e w ⟨_,_,_,_,_,hz⟩; exact nomatch (show none=some _ from hz)
 rintro k CM CN ⟨D,Cr,U,Y,S,F⟩;refine gn fun _ Co=>?_;refine sg fun _ Cu=>?_;refine sR fun _ CF=>?_;refine pM (i_ D) Y (pe (.pointer (some ⟨J,0 + 1,none⟩)) (ae U) (pe u1 (ac rfl ((S.boxAt 0 rfl) 1 _ rfl)) (pe (i_ (a1.length:Int)) (au rfl ha1) (pe (.bool (decide (D < (a1.length:Int)))) (aM rfl rfl) (en CF ?_)))));rcases oif F with ⟨Z,F⟩|⟨Z,F⟩
 ·refine ct Z (sn Cu ?_);refine sg fun _ Cv=>?_;refine bg fun _ Cw=>?_;refine sR fun _ CG=>?_;refine pe (.pointer (some ⟨J,0 + 1,none⟩)) (ae U) (pe u1 (ac rfl ((S.boxAt 0 rfl) 1 _ rfl)) (pM (i_ D) Y ?_));obtain ⟨Cx,Cy,F⟩:=ob F;refine aF (wA:=w0) rfl ha1 rfl (dt rfl) rfl Cy (dt rfl) ?_;intro CO CK CP Cz CA;obtain rfl:=Cz;refine pe (i_ Cx) (ac rfl ((ak S.below CA) 0 _ rfl)) (pM (i_ a2) Cr (pe (.bool (Cx == a2)) (bA rfl rfl) (en CG ?_)));rcases oif F with ⟨Cn,F⟩|⟨Cn,F⟩
  ·refine ct Cn ?_;refine sg fun _ CH=>?_;replace S:=S.r0;refine ag (pa (.bool true) (en CH (aj (br Cw (tr Cv (tr Co (br Ct (tr Cs ?_))))))));replace F:=exL F Cq;refine aK rfl rfl ?_;exact rB F S
  refine cf Cn (aU (bn Cw (tn Cv (ag (pM (i_ D) Y ?_)))));obtain ⟨Cp,CB,F⟩:=ob F;refine pe (i_ Cp) (aE rfl rfl CB) (pa (i_ Cp) (en Co ?_));replace S:=S.keep 1;exact ⟨Cp,Cr,U,rfl,S,F⟩
 refine cf Z (aH (tx Cu (tx Co ?_)));replace F:=exA F Cq;refine bS Ct (tn Cs ?_);refine sg fun _ CI=>?_;replace S:=S.r0;refine ag (pa (.bool false) (en CI (aj (aK rfl rfl ?_))));exact rB F S
theorem fS {w0:World} {a0:Int} {u1:Value} {a1:List T3_} {u2:Value} {a2:List Int} (ha1:R7_.rd w0 [u1] a1) (ha2:R0_.rd w0 [u2] a2) {N:Nat} {r:Bool} (F:dC N a0 a1 a2=some r): Calls Tryz.prog 112 #[.agg #[i_ a0,u1,u2]] w0 fun e w'=>e=.returned (.bool r)∧Ext w0 w' := by
 unfold dC at F;refine aJ Tryz.func112 rfl rfl (dt rfl) ?_;have S:=Sat.start w0;refine sR fun _ EK=>?_;refine bl [i_ a0,u1,u2] rfl S (dt rfl) ?_;intro FH J S Fu;refine pa (.bool false) (en EK ?_);refine sg fun _ CF=>?_;refine sR fun _ CZ=>?_;refine pe (.pointer (some ⟨J,0 + 0,none⟩)) (ae rfl) (pe (i_ a0) (ac rfl ((S.boxAt 0 rfl) 0 _ rfl)) ?_);obtain ⟨Dq,DN,F⟩:=ob F;refine ec0 jU (eb DN) (ca (ai rfl (ai rfl (ai rfl rfl)))) S fun FI Fv S=>?_;refine pe (.bool (!Dq)) (be rfl) (pm (.bool (!Dq)) ?_);rcases oif F with ⟨Cn,F⟩|⟨Cn,F⟩
 ·refine ei (am Cn) (pe (.pointer (some ⟨J,0 + 1,none⟩)) (ae rfl) (ei (am Cn) (pe u1 (ac rfl ((S.boxAt 0 rfl) 1 _ rfl)) (ei (am Cn) (pe (i_ (a1.length:Int)) (au rfl ha1) (ei (am Cn) ?_))))));obtain ⟨C0,DO,F⟩:=ob F;refine ec0 jU (eb DO) (ca (ai rfl (ai rfl (ai rfl rfl)))) S fun FJ Fw S=>?_;refine ei (am Cn) (pe (.bool (!C0)) (be rfl) (pe (.bool (!C0)) (aC rfl (am Cn) rfl) (pm (.bool (!C0)) ?_)));rcases oif F with ⟨Z,F⟩|⟨Z,F⟩
  ·refine ei (am Z) (pe (.pointer (some ⟨J,0 + 2,none⟩)) (ae rfl) (ei (am Z) (pe u2 (ac rfl ((S.boxAt 0 rfl) 2 _ rfl)) (ei (am Z) (pe (i_ (a2.length:Int)) (au rfl ha2) (ei (am Z) (pe (.pointer (some ⟨J,0 + 0,none⟩)) (ae rfl) (ei (am Z) (pe (i_ a0) (ac rfl ((S.boxAt 0 rfl) 0 _ rfl)) (ei (am Z) (pe (.bool (decide (a0 < (a2.length:Int)))) (bB rfl rfl) (pe (.bool (decide (a0 < (a2.length:Int)))) (aC rfl (am Z) rfl) (en CZ ?_)))))))))))));rcases oif F with ⟨CG,F⟩|⟨CG,F⟩
   ·refine ct CG ?_;refine sg fun _ EM=>?_;replace S:=S.r0;refine ag (pa (.bool false) (en EM (aj (tr CF (aK rfl rfl ?_)))));exact rB F S
   refine cf CG (sn CF ?_);refine sg fun _ CH=>?_;refine sR fun _ EN=>?_;refine pa (i_ 0) (en EN ?_);refine bg fun _ CI=>?_;obtain ⟨EO,hL,Cz⟩:=ob F;refine aI (fun k e w=>∃ (Co:Int),e 1=.pointer (some ⟨J,0,none⟩)∧e 3=i_ Co∧Sat w0 w [Box J 30 [i_ a0,u1,u2]]∧cV N k a0 a1 a2 Co=some EO) N ?_ ?_ ?_
   ·exact ⟨0,rfl,rfl,S,hL⟩
   ·rintro e w ⟨_,_,_,_,hz⟩; exact nomatch (show none=some _ from hz)
   rintro k FK FL ⟨Co,Cv,CA,S,F⟩;refine gn fun _ CE=>?_;refine sg fun _ Dr=>?_;refine sR fun _ EP=>?_;refine pM (i_ Co) CA (pe (.pointer (some ⟨J,0 + 1,none⟩)) (ae Cv) (pe u1 (ac rfl ((S.boxAt 0 rfl) 1 _ rfl)) (pe (i_ (a1.length:Int)) (au rfl ha1) (pe (.bool (decide (Co < (a1.length:Int)))) (aM rfl rfl) (en EP ?_)))));rcases oif F with ⟨CJ,F⟩|⟨CJ,F⟩
   ·refine ct CJ (sn Dr ?_);refine sg fun _ CK=>?_;refine bg fun _ CL=>?_;refine sg fun _ C1=>?_;refine sR fun _ Ds=>?_;refine pe (.pointer (some ⟨J,0 + 1,none⟩)) (ae Cv) (pe u1 (ac rfl ((S.boxAt 0 rfl) 1 _ rfl)) (pM (i_ Co) CA ?_));obtain ⟨EQ,DP,F⟩:=ob F;refine aF (wA:=w0) rfl ha1 rfl (dt rfl) rfl DP (dt rfl) ?_;intro ER DQ FM DR DS;obtain ⟨_,_,rfl,DT,DU⟩:=DR;obtain ⟨rfl,DV⟩:=DT;obtain ⟨FN,rfl⟩:=ax DU;refine pe (.pointer (some ⟨ER,DQ + 0,none⟩)) (ae rfl) (pe (.string EQ.1) (ac rfl ((ak S.below DS) 0 _ rfl)) ?_);obtain ⟨Dt,DW,F⟩:=ob F;refine ec0 w7 (lT DV DW) (ca (ai rfl rfl)) S fun FO Fx S=>?_;refine pe (.bool (!Dt)) (be rfl) (pm (.bool (!Dt)) ?_);rcases oif F with ⟨U,F⟩|⟨U,F⟩
    ·refine ei (am U) (pe (.pointer (some ⟨J,0 + 1,none⟩)) (ae Cv) (ei (am U) (pe u1 (ac rfl ((S.boxAt 0 rfl) 1 _ rfl)) (ei (am U) (pM (i_ Co) CA (ei (am U) ?_))))));obtain ⟨ES,DX,F⟩:=ob F;refine aF (wA:=w0) rfl ha1 rfl (dt rfl) rfl DX (dt rfl) ?_;intro ET DY FP DZ D0;obtain ⟨_,_,rfl,D1,Di⟩:=DZ;obtain ⟨rfl,Fy⟩:=D1;obtain ⟨EU,rfl⟩:=ax Di;refine ei (am U) (pe (.pointer (some ⟨ET,DY + 1,none⟩)) (ae rfl) (ei (am U) (pe EU (ac rfl ((ak S.below D0) 1 _ rfl)) (ei (am U) (pe (i_ (ES.2.length:Int)) (au rfl Di) (ei (am U) ?_))))));obtain ⟨Du,D2,F⟩:=ob F;refine ec0 jU (eb D2) (ca (ai rfl (ai rfl (ai rfl rfl)))) S fun FQ Fz S=>?_;refine ei (am U) (pe (.bool (!Du)) (be rfl) (pe (.bool (!Du)) (aC rfl (am U) rfl) (en Ds ?_)));rcases oif F with ⟨CM,F⟩|⟨CM,F⟩
     ·refine cf (am CM) (sn C1 ?_);refine sR fun _ EV=>?_;refine pa (i_ 0) (en EV ?_);refine bg fun _ Dv=>?_;obtain ⟨EW,hL,Dj⟩:=ob F;refine aI (fun k e w=>∃ (Ct:Int),e 1=.pointer (some ⟨J,0,none⟩)∧e 3=i_ Co∧e 4=i_ Ct∧Sat w0 w [Box J 30 [i_ a0,u1,u2]]∧cY N k a0 a1 a2 Co Ct=some EW) N ?_ ?_ ?_
      ·exact ⟨0,Cv,CA,rfl,S,hL⟩
      ·rintro e w ⟨_,_,_,_,_,hz⟩; exact nomatch (show none=some _ from hz)
      rintro k FR FS ⟨Ct,Cw,CB,CN,S,F⟩;refine gn fun _ C2=>?_;refine sg fun _ Dw=>?_;refine sR fun _ EX=>?_;refine pM (i_ Ct) CN (pe (.pointer (some ⟨J,0 + 1,none⟩)) (ae Cw) (pe u1 (ac rfl ((S.boxAt 0 rfl) 1 _ rfl)) (pM (i_ Co) CB ?_)));obtain ⟨Dx,D3,F⟩:=ob F;refine aF (wA:=w0) rfl ha1 rfl (dt rfl) rfl D3 (dt rfl) ?_;intro EY D4 FT D5 D6;obtain ⟨_,_,rfl,D7,Dk⟩:=D5;obtain ⟨rfl,FA⟩:=D7;obtain ⟨EZ,rfl⟩:=ax Dk;refine pe (.pointer (some ⟨EY,D4 + 1,none⟩)) (ae rfl) (pe EZ (ac rfl ((ak S.below D6) 1 _ rfl)) (pe (i_ (Dx.2.length:Int)) (au rfl Dk) (pe (.bool (decide (Ct < (Dx.2.length:Int)))) (aM rfl rfl) (en EX ?_))));rcases oif F with ⟨CO,F⟩|⟨CO,F⟩
      ·refine ct CO (sn Dw ?_);refine sg fun _ Dy=>?_;refine bg fun _ Dz=>?_;refine sg fun _ E0=>?_;refine bO (by kernel_rfl) (by kernel_rfl) ?_;refine qe (.pointer (some ⟨J,0 + 1,none⟩)) (ae Cw) (qe u1 (ac rfl ((S.boxAt 0 rfl) 1 _ rfl)) (qM (i_ Co) CB ?_));obtain ⟨FU,D8,F⟩:=ob F;refine ba (wA:=w0) rfl ha1 rfl (dt rfl) rfl D8 (dt rfl) ?_;intro E1 D9 FV Ea Eb;obtain ⟨_,_,rfl,Ec,Dl⟩:=Ea;obtain ⟨rfl,FB⟩:=Ec;obtain ⟨E2,rfl⟩:=ax Dl;refine qe (.pointer (some ⟨E1,D9 + 1,none⟩)) (ae rfl) (qe E2 (ac rfl ((ak S.below Eb) 1 _ rfl)) (qM (i_ Ct) CN ?_));obtain ⟨E3,Ed,F⟩:=ob F;refine ba (wA:=w0) rfl Dl rfl (dt rfl) rfl Ed (dt rfl) ?_;intro FW FC FX Ee Ef;obtain rfl:=Ee;refine qe (i_ E3) (ac rfl ((ak S.below Ef) 0 _ rfl)) (qe (.pointer (some ⟨J,0 + 0,none⟩)) (ae Cw) (qe (i_ a0) (ac rfl ((S.boxAt 0 rfl) 0 _ rfl)) ?_));obtain ⟨E4,Eg,F⟩:=ob F;refine qe (i_ E4) (cD rfl rfl Eg) ?_;obtain ⟨DA,Eh,F⟩:=ob F;refine c6 (.bool DA) jU (fun w' hw'=>eb Eh) (ca (ai rfl (ai rfl (ai rfl rfl)))) (dt rfl) ?_;refine qe (.bool (!DA)) (be rfl) (bm ?_);intro FY Ei;replace S:=S.ext Ei;refine tn E0 ?_;rcases oif F with ⟨CP,F⟩|⟨CP,F⟩
       ·refine cf (am CP) (aU (bn Dz (tn Dy (ag (pM (i_ Ct) CN ?_)))));obtain ⟨C3,Ej,F⟩:=ob F;refine pe (i_ C3) (aE rfl rfl Ej) (pa (i_ C3) (en C2 ?_));replace S:=S.keep 1;exact ⟨C3,Cw,CB,rfl,S,F⟩
       refine ct (ap CP) ?_;refine sg fun _ E5=>?_;replace S:=S.r0;refine ag (pa (.bool false) (en E5 (aj (br Dz (tr Dy (tr C2 (br Dv (br CL (tr CK (tr CE (br CI (tr CH ?_))))))))))));replace F:=exL F Dj;replace F:=exL F Cz;refine aK rfl rfl ?_;exact rB F S
      refine cf CO (aH (tx Dw (tx C2 ?_)));replace F:=exA F Dj;refine bS Dv (bn CL (tn CK (ag (pM (i_ Co) CB ?_))));obtain ⟨C4,Ek,F⟩:=ob F;refine pe (i_ C4) (aE rfl rfl Ek) (pa (i_ C4) (en CE ?_));replace S:=S.keep 1;exact ⟨C4,Cw,rfl,S,F⟩
     refine ct (ap CM) ?_;refine sg fun _ E6=>?_;replace S:=S.r0;refine ag (pa (.bool false) (en E6 (aj (tr C1 (br CL (tr CK (tr CE (br CI (tr CH ?_)))))))));replace F:=exL F Cz;refine aK rfl rfl ?_;exact rB F S
    refine eo (ap U) (eo (ap U) (eo (ap U) (eo (ap U) (eo (ap U) (eo (ap U) (eo (ap U) (eo (ap U) (eo (ap U) (pe (.bool true) (az rfl (ap U) rfl) (en Ds (ct rfl ?_)))))))))));refine sg fun _ E7=>?_;replace S:=S.r0;refine ag (pa (.bool false) (en E7 (aj (tr C1 (br CL (tr CK (tr CE (br CI (tr CH ?_)))))))));replace F:=exL F Cz;refine aK rfl rfl ?_;exact rB F S
   refine cf CJ (aH (tx Dr (tx CE ?_)));replace F:=exA F Cz;refine bS CI (tn CH ?_);refine sg fun _ DB=>?_;refine sR fun _ E8=>?_;refine pa (i_ 0) (en E8 ?_);refine bg fun _ DC=>?_;obtain ⟨E9,hL,Dm⟩:=ob F;refine aI (fun k e w=>∃ (Cp:Int),e 1=.pointer (some ⟨J,0,none⟩)∧e 5=i_ Cp∧Sat w0 w [Box J 30 [i_ a0,u1,u2]]∧cT N k a0 a1 a2 Cp=some E9) N ?_ ?_ ?_
   ·exact ⟨0,Cv,rfl,S,hL⟩
   ·rintro e w ⟨_,_,_,_,hz⟩; exact nomatch (show none=some _ from hz)
   rintro k FZ F0 ⟨Cp,CQ,Dn,S,F⟩;refine gn fun _ C5=>?_;refine sg fun _ DD=>?_;refine sR fun _ Fa=>?_;refine pM (i_ Cp) Dn (pe (.pointer (some ⟨J,0 + 0,none⟩)) (ae CQ) (pe (i_ a0) (ac rfl ((S.boxAt 0 rfl) 0 _ rfl)) (pe (.bool (decide (Cp < a0))) (aM rfl rfl) (en Fa ?_))));rcases oif F with ⟨CR,F⟩|⟨CR,F⟩
   ·refine ct CR (sn DD ?_);refine sg fun _ DE=>?_;refine bg fun _ DF=>?_;refine sR fun _ Fb=>?_;refine pa (.bool false) (en Fb ?_);refine sg fun _ Fc=>?_;refine sR fun _ Fd=>?_;refine pa (i_ 0) (en Fd ?_);refine bg fun _ Fe=>?_;obtain ⟨Ff,hL,El⟩:=ob F;refine aI (fun k e w=>∃ (Cu:Bool),∃ (Cr:Int),e 1=.pointer (some ⟨J,0,none⟩)∧e 5=i_ Cp∧e 6=.bool Cu∧e 7=i_ Cr∧Sat w0 w [Box J 30 [i_ a0,u1,u2]]∧cL N k a0 a1 a2 Cp Cu Cr=some Ff) N ?_ ?_ ?_
    ·exact ⟨false,0,CQ,Dn,rfl,rfl,S,hL⟩
    ·rintro e w ⟨_,_,_,_,_,_,_,hz⟩; exact nomatch (show none=some _ from hz)
    rintro k F3 F4 ⟨Cu,Cr,Cx,CC,Do,CD,S,F⟩;refine gn fun _ C6=>?_;refine sg fun _ DG=>?_;refine sR fun _ Fg=>?_;refine pM (i_ Cr) CD (pe (.pointer (some ⟨J,0 + 1,none⟩)) (ae Cx) (pe u1 (ac rfl ((S.boxAt 0 rfl) 1 _ rfl)) (pe (i_ (a1.length:Int)) (au rfl ha1) (pe (.bool (decide (Cr < (a1.length:Int)))) (aM rfl rfl) (en Fg ?_)))));rcases oif F with ⟨CS,F⟩|⟨CS,F⟩
    ·refine ct CS (sn DG ?_);refine sg fun _ DH=>?_;refine bg fun _ DI=>?_;refine ag (pM (.bool Cu) Do (pm (.bool Cu) ?_));rcases oif F with ⟨Y,F⟩|⟨Y,F⟩
     ·refine eo Y (eo Y (eo Y (eo Y (eo Y (eo Y (eo Y (pe (.bool true) (az rfl Y rfl) (pa (.bool true) (ah (bn DI (tn DH (ag (pM (i_ Cr) CD ?_)))))))))))));obtain ⟨C7,Em,F⟩:=ob F;refine pe (i_ C7) (aE rfl rfl Em) (pa (i_ C7) (en C6 ?_));replace S:=S.keep 1;exact ⟨true,C7,Cx,CC,rfl,rfl,S,F⟩
     refine ei Y (pe (.pointer (some ⟨J,0 + 1,none⟩)) (ae Cx) (ei Y (pe u1 (ac rfl ((S.boxAt 0 rfl) 1 _ rfl)) (ei Y (pM (i_ Cr) CD (ei Y ?_))))));obtain ⟨DJ,En,F⟩:=ob F;refine aF (wA:=w0) rfl ha1 rfl (dt rfl) rfl En (dt rfl) ?_;intro F5 FD F6 Eo Ep;obtain ⟨_,_,rfl,Er,Dp⟩:=Eo;obtain ⟨rfl,Es⟩:=Er;obtain ⟨DK,rfl⟩:=ax Dp;refine ei Y (pe (.agg #[.string DJ.1,DK]) (av (cs:=[.string DJ.1,DK]) rfl rfl (ak S.below Ep)) (ei Y (pM (i_ Cp) CC (ei Y ?_))));obtain ⟨C8,Et,F⟩:=ob F;refine ec0 qU (fK Es (S.up Dp) Et) (ca (ai rfl (ai rfl rfl))) S fun F7 FE S=>?_;refine pe (.bool C8) (aC rfl Y rfl) (pa (.bool C8) (ah (bn DI (tn DH (ag (pM (i_ Cr) CD ?_))))));obtain ⟨C9,Eu,F⟩:=ob F;refine pe (i_ C9) (aE rfl rfl Eu) (pa (i_ C9) (en C6 ?_));replace S:=S.keep 1;exact ⟨C8,C9,Cx,CC,rfl,rfl,S,F⟩
    refine cf CS (aH (tx DG (tx C6 ?_)));replace F:=exB F El;refine bS Fe (tn Fc ?_);refine sR fun _ Fh=>?_;refine pM (.bool Cu) Do (pe (.bool (!Cu)) (be rfl) (en Fh ?_));rcases oif F with ⟨CT,F⟩|⟨CT,F⟩
    ·refine cf (am CT) (aU (bn DF (tn DE (ag (pM (i_ Cp) CC ?_)))));obtain ⟨Da,Ev,F⟩:=ob F;refine pe (i_ Da) (aE rfl rfl Ev) (pa (i_ Da) (en C5 ?_));replace S:=S.keep 1;exact ⟨Da,Cx,rfl,S,F⟩
    refine ct (ap CT) ?_;refine sg fun _ Fi=>?_;replace S:=S.r0;refine ag (pa (.bool false) (en Fi (aj (br DF (tr DE (tr C5 (br DC (tr DB ?_))))))));replace F:=exL F Dm;refine aK rfl rfl ?_;exact rB F S
   refine cf CR (aH (tx DD (tx C5 ?_)));replace F:=exA F Dm;refine bS DC (tn DB ?_);refine sg fun _ Db=>?_;refine sR fun _ Fj=>?_;refine pa (i_ 0) (en Fj ?_);refine bg fun _ Dc=>?_;obtain ⟨Fk,hL,CU⟩:=ob F;refine aI (fun k e w=>∃ (Cq:Int),e 1=.pointer (some ⟨J,0,none⟩)∧e 8=i_ Cq∧Sat w0 w [Box J 30 [i_ a0,u1,u2]]∧cU N k a0 a1 a2 Cq=some Fk) N ?_ ?_ ?_
   ·exact ⟨0,CQ,rfl,S,hL⟩
   ·rintro e w ⟨_,_,_,_,hz⟩; exact nomatch (show none=some _ from hz)
   rintro k F8 F9 ⟨Cq,Cs,Cy,S,F⟩;refine gn fun _ CV=>?_;refine sg fun _ DL=>?_;refine sR fun _ Fl=>?_;refine pM (i_ Cq) Cy (pe (.pointer (some ⟨J,0 + 2,none⟩)) (ae Cs) (pe u2 (ac rfl ((S.boxAt 0 rfl) 2 _ rfl)) (pe (i_ (a2.length:Int)) (au rfl ha2) (pe (.bool (decide (Cq < (a2.length:Int)))) (aM rfl rfl) (en Fl ?_)))));rcases oif F with ⟨CX,F⟩|⟨CX,F⟩
   ·refine ct CX (sn DL ?_);refine sg fun _ Dd=>?_;refine bg fun _ De=>?_;refine sg fun _ DM=>?_;refine bO (by kernel_rfl) (by kernel_rfl) ?_;refine qe (.pointer (some ⟨J,0 + 2,none⟩)) (ae Cs) (qe u2 (ac rfl ((S.boxAt 0 rfl) 2 _ rfl)) (qM (i_ Cq) Cy ?_));obtain ⟨Fm,Ew,F⟩:=ob F;refine ba (wA:=w0) rfl ha2 rfl (dt rfl) rfl Ew (dt rfl) ?_;intro Ga FF Gb Ex Ey;obtain rfl:=Ex;refine qe (i_ Fm) (ac rfl ((ak S.below Ey) 0 _ rfl)) (qe (.pointer (some ⟨J,0 + 0,none⟩)) (ae Cs) (qe (i_ a0) (ac rfl ((S.boxAt 0 rfl) 0 _ rfl)) ?_));obtain ⟨Fn,Ez,F⟩:=ob F;refine qe (i_ Fn) (cD rfl rfl Ez) ?_;obtain ⟨Df,EA,F⟩:=ob F;refine c6 (.bool Df) jU (fun w' hw'=>eb EA) (ca (ai rfl (ai rfl (ai rfl rfl)))) (dt rfl) ?_;refine qe (.bool (!Df)) (be rfl) (qm (.bool (!Df)) ?_);rcases oif F with ⟨D,F⟩|⟨D,F⟩
    ·refine qi (am D) (qe (.pointer (some ⟨J,0 + 2,none⟩)) (ae Cs) (qi (am D) (qe u2 (ac rfl ((S.boxAt 0 rfl) 2 _ rfl)) (qi (am D) (qM (i_ Cq) Cy (qi (am D) ?_))))));obtain ⟨Gc,EB,F⟩:=ob F;refine vg (wA:=w0) rfl rfl ha2 (.inr ⟨rfl,rfl⟩) (.inl (congrArg some rfl)) EB (dt rfl) ?_;intro Gd EC;refine qi (am D) (qe (.pointer (some ⟨J,0 + 2,none⟩)) (ae Cs) (qi (am D) (qe u2 (ac rfl ((S.boxAt 0 rfl) 2 _ rfl)) (qi (am D) (qM (i_ Cq) Cy (qi (am D) ?_))))));obtain ⟨Fo,ED,F⟩:=ob F;refine ba (wA:=w0) rfl ha2 rfl (dt rfl) rfl ED (dt rfl) ?_;intro Ge FG Gf EE EF;obtain rfl:=EE;refine qi (am D) (qe (i_ Fo) (ac rfl ((ak S.below EF) 0 _ rfl)) (qi (am D) ?_));obtain ⟨Dg,EG,F⟩:=ob F;refine c6 (i_ Dg) nm (fun w' hw'=>gw (bJ (S.up EC) hw') EG) (ca (ai rfl (ai rfl rfl))) (dt rfl) ?_;refine qi (am D) (qe (.bool (decide (0 ≤ Dg))) (dR rfl rfl) (qe (.bool (decide (0 ≤ Dg))) (aC rfl (am D) rfl) (bm ?_)));intro Gg EH;replace S:=S.ext EH;refine tn DM ?_;rcases oif F with ⟨CY,F⟩|⟨CY,F⟩
     ·refine ct CY ?_;refine sg fun _ Fp=>?_;replace S:=S.r0;refine ag (pa (.bool false) (en Fp (aj (br De (tr Dd (tr CV (br Dc (tr Db ?_))))))));replace F:=exL F CU;refine aK rfl rfl ?_;exact rB F S
     refine cf CY (aU (bn De (tn Dd (ag (pM (i_ Cq) Cy ?_)))));obtain ⟨Dh,EI,F⟩:=ob F;refine pe (i_ Dh) (aE rfl rfl EI) (pa (i_ Dh) (en CV ?_));replace S:=S.keep 1;exact ⟨Dh,Cs,rfl,S,F⟩
    refine qo (ap D) (qo (ap D) (qo (ap D) (qo (ap D) (qo (ap D) (qo (ap D) (qo (ap D) (qo (ap D) (qo (ap D) (qo (ap D) (qo (ap D) (qe (.bool true) (az rfl (ap D) rfl) (bm ?_))))))))))));intro Gh EJ;replace S:=S.ext EJ;refine tn DM (ct rfl ?_);refine sg fun _ Fq=>?_;replace S:=S.r0;refine ag (pa (.bool false) (en Fq (aj (br De (tr Dd (tr CV (br Dc (tr Db ?_))))))));replace F:=exL F CU;refine aK rfl rfl ?_;exact rB F S
   refine cf CX (aH (tx DL (tx CV ?_)));replace F:=exA F CU;refine bS Dc (tn Db ?_);refine sg fun _ Fr=>?_;replace S:=S.r0;refine ag (pa (.bool true) (en Fr (aj (aK rfl rfl ?_))));exact rB F S
  refine eo (ap Z) (eo (ap Z) (eo (ap Z) (eo (ap Z) (eo (ap Z) (eo (ap Z) (pe (.bool true) (az rfl (ap Z) rfl) (en CZ (ct rfl ?_))))))));refine sg fun _ Fs=>?_;replace S:=S.r0;refine ag (pa (.bool false) (en Fs (aj (tr CF (aK rfl rfl ?_)))));exact rB F S
 refine eo (ap Cn) (eo (ap Cn) (eo (ap Cn) (eo (ap Cn) (eo (ap Cn) (pe (.bool true) (az rfl (ap Cn) rfl) (pm (.bool true) (eo rfl (eo rfl (eo rfl (eo rfl (eo rfl (eo rfl (pe (.bool true) (az rfl rfl rfl) (en CZ (ct rfl ?_)))))))))))))));refine sg fun _ Ft=>?_;replace S:=S.r0;refine ag (pa (.bool false) (en Ft (aj (tr CF (aK rfl rfl ?_)))));exact rB F S

end Go.Proofs.YtoijldeajagjjaaGreat
namespace Go.Proofs.YtoijldeajagjjaaGreat
open Go.RowKit
set_option maxRecDepth 100000
set_option maxHeartbeats 4000000
theorem j9 {w0:World} {u0:Value} {a0:List T7_} {a1:Int} {u2:Value} {a2:List T3_} {u3:Value} {a3:List Int} (ha0:bC.rd w0 [u0] a0) (ha2:R7_.rd w0 [u2] a2) (ha3:R0_.rd w0 [u3] a3) {N:Nat} {r:Bool} (F:fR N a0 a1 a2 a3=some r): Calls Tryz.prog 65 #[.agg #[u0],.agg #[i_ a1,u2,u3]] w0 fun e w'=>e=.returned (.bool r)∧Ext w0 w' := by
 unfold fR at F;refine aJ Tryz.func65 rfl rfl (dt rfl) ?_;have S:=Sat.start w0;refine sR fun _ Da=>?_;refine bl [u0] rfl S (dt rfl) ?_;intro Dt Cp S Do;refine bl [i_ a1,u2,u3] rfl S (dt rfl) ?_;intro Du Y S Dp;refine pa (.bool false) (en Da ?_);refine sg fun _ Cx=>?_;refine sR fun _ Db=>?_;refine pa (i_ 0) (en Db ?_);refine bg fun _ Cy=>?_;obtain ⟨Dc,hL,Ct⟩:=ob F;refine aI (fun k e w=>∃ (Cn:Int),e 2=.pointer (some ⟨Cp,0,none⟩)∧e 3=.pointer (some ⟨Y,0,none⟩)∧e 5=i_ Cn∧Sat w0 w [Box Y 30 [i_ a1,u2,u3],Box Cp 26 [u0]]∧dm N k a0 a1 a2 a3 Cn=some Dc) N ?_ ?_ ?_
 ·exact ⟨0,rfl,rfl,rfl,S,hL⟩
 ·rintro e w ⟨_,_,_,_,_,hz⟩; exact nomatch (show none=some _ from hz)
 rintro k Dv Dw ⟨Cn,Cr,Cq,Cs,S,F⟩;refine gn fun _ Cu=>?_;refine sg fun _ CJ=>?_;refine sR fun _ Dd=>?_;refine pM (i_ Cn) Cs (pe (.pointer (some ⟨Y,0 + 1,none⟩)) (ae Cq) (pe u2 (ac rfl ((S.boxAt 0 rfl) 1 _ rfl)) (pe (i_ (a2.length:Int)) (au rfl ha2) (pe (.bool (decide (Cn < (a2.length:Int)))) (aM rfl rfl) (en Dd ?_)))));rcases oif F with ⟨Cv,F⟩|⟨Cv,F⟩
 ·refine ct Cv (sn CJ ?_);refine sg fun _ Cz=>?_;refine bg fun _ CA=>?_;refine sg fun _ De=>?_;obtain ⟨Df,CN,F⟩:=ob F;obtain ⟨J,CE,F⟩:=ob F;refine j7 (fun e w=>∃ (Z:Nat),∃ (U:Value),e 2=.pointer (some ⟨Cp,0,none⟩)∧e 3=.pointer (some ⟨Y,0,none⟩)∧e 5=i_ Cn∧e 6=.pointer (some ⟨Z,0,none⟩)∧e 7=.bool J.2∧Sat w0 w [Box Y 30 [i_ a1,u2,u3],Box Cp 26 [u0],Box Z 39 [i_ J.1.1,U],Own R3_ [U] J.1.2]) ?_ ?_
  ·obtain ⟨C,hCd⟩:∃ C:World → Prop,∀ w,C w ↔ ∃ G,Sat w0 w ([Box Y 30 [i_ a1,u2,u3],Box Cp 26 [u0]] ++ G):=⟨_,fun _=>Iff.rfl⟩;refine b9 [0,1,2,3,4,5,6,7,8,9,10,11,12,13] C (by kernel_rfl) ?_;intro Dx CO;replace S:=S.ext CO;have hC:=(hCd _).2 ⟨_,S⟩;refine aP (.agg #[u0]) 0 rfl rfl hC (aB rfl (fun w' hw'=>by obtain ⟨_,S⟩:=(hCd _).1 hw'; exact (av (cs:=[u0]) Cr rfl (aw (S.boxAt 1 rfl))))) ?_;refine aP (.pointer (some ⟨Y,0 + 1,none⟩)) 1 rfl rfl hC (aB rfl (fun w' hw'=>by obtain ⟨_,S⟩:=(hCd _).1 hw'; exact (ae Cq))) ?_;refine aP u2 2 rfl rfl hC (aB rfl (fun w' hw'=>by obtain ⟨_,S⟩:=(hCd _).1 hw'; exact (ac rfl ((S.boxAt 0 rfl) 1 _ rfl)))) ?_;refine aP (i_ Cn) 3 rfl rfl hC (aB rfl (fun w' hw'=>by obtain ⟨_,S⟩:=(hCd _).1 hw'; exact (aW Cs))) ?_;refine jt (wA:=w0) (by kernel_rfl) 4 rfl hC (by kernel_rfl) (by kernel_rfl) rfl ha2 rfl (dt rfl) rfl CN (dt rfl) ?_;intro Dg CP Dy CQ CR;obtain ⟨_,_,rfl,CS,CT⟩:=CQ;obtain ⟨rfl,CF⟩:=CS;obtain ⟨Dz,rfl⟩:=ax CT;refine aP (.pointer (some ⟨Dg,CP + 0,none⟩)) 5 rfl rfl hC (aB rfl (fun w' hw'=>by obtain ⟨_,S⟩:=(hCd _).1 hw'; exact (ae rfl))) ?_;refine aP (.string Df.1) 6 rfl rfl hC (aB rfl (fun w' hw'=>by obtain ⟨_,S⟩:=(hCd _).1 hw'; exact (ac rfl ((ak S.below CR) 0 _ rfl)))) ?_;refine eI 7 11 (by kernel_rfl) rfl rfl ?_ ?_
   ·refine ec1 oL (ff (S.up ha0) CF CE) (ca (ai rfl (ai rfl rfl))) S fun Dh U CU S=>?_;refine ah ?_;replace S:=S.t2.t2;have hC:=(hCd _).2 ⟨_,S⟩;refine ⟨fun _=>hC,?_⟩;refine aP (.tuple #[.agg #[i_ J.1.1,U],.bool J.2]) 8 rfl rfl hC (aB rfl (fun w' hw'=>by obtain ⟨_,S⟩:=(hCd _).1 hw'; exact (aW rfl))) ?_;refine aP (.agg #[i_ J.1.1,U]) 9 rfl rfl hC (aB rfl (fun w' hw'=>by obtain ⟨_,S⟩:=(hCd _).1 hw'; exact (aD rfl rfl))) ?_;refine aP (.bool J.2) 10 rfl rfl hC (aB rfl (fun w' hw'=>by obtain ⟨_,S⟩:=(hCd _).1 hw'; exact (aD rfl rfl))) ?_;refine aO 11 rfl ?_;refine aL S (dt rfl) ?_;intro Di Z S CV;refine ah ?_;replace S:=S.t2.t2;have hC:=(hCd _).2 ⟨_,S⟩;refine ⟨fun _=>hC,?_⟩;refine aO 12 rfl ?_;refine an (S.top 2 rfl) rfl [i_ J.1.1,U] rfl rfl (dt rfl) (all_cons rfl (all_cons (oc (S.rdAt (R:=R3_) 3 rfl)) rfl)) ?_;intro CB S;replace S:Sat w0 CB [Box Z 39 [i_ J.1.1,U],Box Y 30 [i_ a1,u2,u3],Box Cp 26 [u0],Own R3_ [U] J.1.2]:=S;refine ah ?_;replace S:=S.t2.t2;have hC:=(hCd _).2 ⟨_,S⟩;refine ⟨fun _=>hC,?_⟩;refine aO 13 rfl ?_;refine pa (.bool J.2) (ah ?_);refine ⟨fun _=>hC,?_⟩;refine bF (by kernel_rfl) ?_;exact ⟨rfl,Z,U,Cr,Cq,Cs,rfl,rfl,S⟩
   refine aL S (dt rfl) ?_;intro Di Z S CV;refine ah ?_;replace S:=S.t2.t2;have hC:=(hCd _).2 ⟨_,S⟩;refine ⟨fun _=>hC,?_⟩;refine aO 7 rfl ?_;refine ec1 oL (ff (S.up ha0) CF CE) (ca (ai rfl (ai rfl rfl))) S fun Dh U CU S=>?_;refine ah ?_;replace S:=S.t2.t2;have hC:=(hCd _).2 ⟨_,S⟩;refine ⟨fun _=>hC,?_⟩;refine aO 8 rfl ?_;refine pm (.tuple #[.agg #[i_ J.1.1,U],.bool J.2]) (ah ?_);refine ⟨fun _=>hC,?_⟩;refine aP (.agg #[i_ J.1.1,U]) 9 rfl rfl hC (aB rfl (fun w' hw'=>by obtain ⟨_,S⟩:=(hCd _).1 hw'; exact (aD rfl rfl))) ?_;refine aP (.bool J.2) 10 rfl rfl hC (aB rfl (fun w' hw'=>by obtain ⟨_,S⟩:=(hCd _).1 hw'; exact (aD rfl rfl))) ?_;refine aO 12 rfl ?_;refine an (S.top 3 rfl) rfl [i_ J.1.1,U] rfl rfl (dt rfl) (all_cons rfl (all_cons (oc (S.rdAt (R:=R3_) 2 rfl)) rfl)) ?_;intro CB S;replace S:Sat w0 CB [Box Z 39 [i_ J.1.1,U],Box Y 30 [i_ a1,u2,u3],Box Cp 26 [u0],Own R3_ [U] J.1.2]:=S;refine ah ?_;replace S:=S.t2.t2;have hC:=(hCd _).2 ⟨_,S⟩;refine ⟨fun _=>hC,?_⟩;refine aO 13 rfl ?_;refine pa (.bool J.2) (ah ?_);refine ⟨fun _=>hC,?_⟩;refine bF (by kernel_rfl) ?_;exact ⟨rfl,Z,U,Cr,Cq,Cs,rfl,rfl,S⟩
  rintro DA DB ⟨Z,U,CX,CG,CH,CY,CZ,S⟩;refine tn De ?_;refine sg fun _ CK=>?_;refine bO (by kernel_rfl) (by kernel_rfl) ?_;refine qM (.bool J.2) CZ (qe (.bool (!J.2)) (be rfl) (qm (.bool (!J.2)) ?_));rcases oif F with ⟨D,F⟩|⟨D,F⟩
  ·refine qi (am D) (qe (.pointer (some ⟨Z,0 + 0,none⟩)) (ae CY) (qi (am D) (qe (i_ J.1.1) (ac rfl ((S.boxAt 2 rfl) 0 _ rfl)) (qi (am D) (qe (.pointer (some ⟨Y,0 + 1,none⟩)) (ae CG) (qi (am D) (qe u2 (ac rfl ((S.boxAt 0 rfl) 1 _ rfl)) (qi (am D) (qM (i_ Cn) CH (qi (am D) ?_))))))))));obtain ⟨CC,C0,F⟩:=ob F;refine ba (wA:=w0) rfl ha2 rfl (dt rfl) rfl C0 (dt rfl) ?_;intro Dj C1 DC C2 C3;obtain ⟨_,_,rfl,C4,CI⟩:=C2;obtain ⟨rfl,Dq⟩:=C4;obtain ⟨Dk,rfl⟩:=ax CI;refine qi (am D) (qe (.pointer (some ⟨Dj,C1 + 1,none⟩)) (ae rfl) (qi (am D) (qe Dk (ac rfl ((ak S.below C3) 1 _ rfl)) (qi (am D) (qe (i_ (CC.2.length:Int)) (au rfl CI) (qi (am D) (qe (.bool (J.1.1 != (CC.2.length:Int))) (dp rfl rfl) (qe (.bool (J.1.1 != (CC.2.length:Int))) (aC rfl (am D) rfl) (bm ?_)))))))));intro DD C5;replace S:=S.ext C5;refine tn CK ?_;rcases oif F with ⟨Cw,F⟩|⟨Cw,F⟩
   ·refine ct Cw ?_;refine sg fun _ Dl=>?_;replace S:=S.r3.r2.r1.r0;refine ag (pa (.bool false) (en Dl (aj (br CA (tr Cz (tr Cu (br Cy (tr Cx ?_))))))));replace F:=exL F Ct;refine aK rfl rfl ?_;exact rB F S
   refine cf Cw (aU (bn CA (tn Cz ?_)));replace S:=S.r3.r2;refine ag (pM (i_ Cn) CH ?_);obtain ⟨CD,C6,F⟩:=ob F;refine pe (i_ CD) (aE rfl rfl C6) (pa (i_ CD) (en Cu ?_));replace S:=S.keep 2;exact ⟨CD,CX,CG,rfl,S,F⟩
  refine qo (ap D) (qo (ap D) (qo (ap D) (qo (ap D) (qo (ap D) (qo (ap D) (qo (ap D) (qo (ap D) (qo (ap D) (qo (ap D) (qe (.bool true) (az rfl (ap D) rfl) (bm ?_)))))))))));intro DE C7;replace S:=S.ext C7;refine tn CK (ct rfl ?_);refine sg fun _ Dm=>?_;replace S:=S.r3.r2.r1.r0;refine ag (pa (.bool false) (en Dm (aj (br CA (tr Cz (tr Cu (br Cy (tr Cx ?_))))))));replace F:=exL F Ct;refine aK rfl rfl ?_;exact rB F S
 refine cf Cv (aH (tx CJ (tx Cu ?_)));replace F:=exA F Ct;refine bS Cy (tn Cx ?_);refine sR fun _ CL=>?_;refine pe (.agg #[i_ a1,u2,u3]) (av (cs:=[i_ a1,u2,u3]) Cq rfl (aw (S.boxAt 0 rfl))) ?_;obtain ⟨Dn,C8,F⟩:=ob F;refine ec0 oI (fS (S.up ha2) (S.up ha3) C8) (ca (ai rfl rfl)) S fun DF Dr S=>?_;refine pm (.bool Dn) ?_;rcases oif F with ⟨Co,F⟩|⟨Co,F⟩
 ·refine ei Co (pe (.agg #[u0]) (av (cs:=[u0]) Cr rfl (aw (S.boxAt 1 rfl))) (ei Co ?_));obtain ⟨CM,C9,F⟩:=ob F;refine ec0 wX (ks (S.up ha0) C9) (ca (ai rfl rfl)) S fun DG Ds S=>?_;refine pe (.bool CM) (az rfl Co rfl) (pa (.bool CM) (en CL (aj (aK rfl rfl ?_))));exact rB F S
 refine eo Co (eo Co (pe (.bool false) (aC rfl Co rfl) (pa (.bool false) (en CL (aj (aK rfl rfl ?_))))));exact rB F S
theorem k8 {w0:World} {u0:Value} {a0:List Int} (ha0:R0_.rd w0 [u0] a0) {N:Nat} {r:Bool} (F:fm N a0=some r): Calls Tryz.prog 83 #[u0] w0 fun e w'=>e=.returned (.bool r)∧Ext w0 w' := by
 unfold fm at F;refine aJ Tryz.func83 rfl rfl (dt rfl) ?_;have S:=Sat.start w0;refine sR fun _ CN=>?_;refine pa (.bool false) (en CN ?_);refine sg fun _ Cq=>?_;refine sR fun _ CO=>?_;refine pa (i_ 0) (en CO ?_);refine bg fun _ Cr=>?_;obtain ⟨CP,hL,Z⟩:=ob F;refine aI (fun k e w=>∃ (J:Int),e 0=u0∧e 3=i_ J∧Sat w0 w []∧dh N k a0 J=some CP) N ?_ ?_ ?_
 ·exact ⟨0,rfl,rfl,S,hL⟩
 ·rintro e w ⟨_,_,_,_,hz⟩; exact nomatch (show none=some _ from hz)
 rintro k C0 C1 ⟨J,U,Y,S,F⟩;refine gn fun _ Cn=>?_;refine sg fun _ Cx=>?_;refine sR fun _ CQ=>?_;refine pM (i_ J) Y (pM u0 U (pe (i_ (a0.length:Int)) (au rfl ha0) (pe (.bool (decide (J < (a0.length:Int)))) (aM rfl rfl) (en CQ ?_))));rcases oif F with ⟨Co,F⟩|⟨Co,F⟩
 ·refine ct Co (sn Cx ?_);refine sg fun _ Cs=>?_;refine bg fun _ Ct=>?_;refine sg fun _ Cy=>?_;refine bO (by kernel_rfl) (by kernel_rfl) ?_;refine qM u0 U (qM (i_ J) Y ?_);obtain ⟨CR,Cz,F⟩:=ob F;refine ba (wA:=w0) rfl ha0 rfl (dt rfl) rfl Cz (dt rfl) ?_;intro C2 CY C3 CA CB;obtain rfl:=CA;refine qe (i_ CR) (ac rfl ((ak S.below CB) 0 _ rfl)) (qM u0 U (qe (i_ (a0.length:Int)) (au rfl ha0) ?_));obtain ⟨CS,CC,F⟩:=ob F;refine qe (i_ CS) (cD rfl rfl CC) ?_;obtain ⟨Cu,CD,F⟩:=ob F;refine c6 (.bool Cu) jU (fun w' hw'=>eb CD) (ca (ai rfl (ai rfl (ai rfl rfl)))) (dt rfl) ?_;refine qe (.bool (!Cu)) (be rfl) (qm (.bool (!Cu)) ?_);rcases oif F with ⟨D,F⟩|⟨D,F⟩
  ·refine qi (am D) (qM u0 U (qi (am D) (qM (i_ J) Y (qi (am D) ?_))));obtain ⟨C4,CE,F⟩:=ob F;refine vg (wA:=w0) rfl rfl ha0 (.inr ⟨rfl,rfl⟩) (.inl (congrArg some rfl)) CE (dt rfl) ?_;intro C5 CF;refine qi (am D) (qM u0 U (qi (am D) (qM (i_ J) Y (qi (am D) ?_))));obtain ⟨CT,CG,F⟩:=ob F;refine ba (wA:=w0) rfl ha0 rfl (dt rfl) rfl CG (dt rfl) ?_;intro C6 CZ C7 CH CI;obtain rfl:=CH;refine qi (am D) (qe (i_ CT) (ac rfl ((ak S.below CI) 0 _ rfl)) (qi (am D) ?_));obtain ⟨Cv,CJ,F⟩:=ob F;refine c6 (i_ Cv) nm (fun w' hw'=>gw (bJ (S.up CF) hw') CJ) (ca (ai rfl (ai rfl rfl))) (dt rfl) ?_;refine qi (am D) (qe (.bool (decide (0 ≤ Cv))) (dR rfl rfl) (qe (.bool (decide (0 ≤ Cv))) (aC rfl (am D) rfl) (bm ?_)));intro C8 CK;replace S:=S.ext CK;refine tn Cy ?_;rcases oif F with ⟨Cp,F⟩|⟨Cp,F⟩
   ·refine ct Cp ?_;refine sR fun _ CU=>?_;refine pa (.bool false) (en CU (aj (br Ct (tr Cs (tr Cn (br Cr (tr Cq ?_)))))));replace F:=exL F Z;refine aK rfl rfl ?_;exact rB F S
   refine cf Cp (aU (bn Ct (tn Cs (ag (pM (i_ J) Y ?_)))));obtain ⟨Cw,CL,F⟩:=ob F;refine pe (i_ Cw) (aE rfl rfl CL) (pa (i_ Cw) (en Cn ?_));replace S:=S.keep 0;exact ⟨Cw,U,rfl,S,F⟩
  refine qo (ap D) (qo (ap D) (qo (ap D) (qo (ap D) (qo (ap D) (qo (ap D) (qo (ap D) (qo (ap D) (qo (ap D) (qe (.bool true) (az rfl (ap D) rfl) (bm ?_))))))))));intro C9 CM;replace S:=S.ext CM;refine tn Cy (ct rfl ?_);refine sR fun _ CV=>?_;refine pa (.bool false) (en CV (aj (br Ct (tr Cs (tr Cn (br Cr (tr Cq ?_)))))));replace F:=exL F Z;refine aK rfl rfl ?_;exact rB F S
 refine cf Co (aH (tx Cx (tx Cn ?_)));replace F:=exA F Z;refine bS Cr (tn Cq ?_);refine sR fun _ CX=>?_;refine pM u0 U (pe (i_ (a0.length:Int)) (au rfl ha0) (pe (.bool (decide ((a0.length:Int) ≤ 5))) (iP rfl rfl) (pa (.bool (decide ((a0.length:Int) ≤ 5))) (en CX (aj (aK rfl rfl ?_))))));exact rB F S
theorem pz {w0:World} {a0:Int} {u1:Value} {a1:List T3_} {u2:Value} {a2:List Int} {u3:Value} {a3:List Int} (ha1:R7_.rd w0 [u1] a1) (ha2:R0_.rd w0 [u2] a2) (ha3:R0_.rd w0 [u3] a3) {N:Nat} {r:Bool} (F:gZ N a0 a1 a2 a3=some r): Calls Tryz.prog 99 #[.agg #[i_ a0,u1,u2],u3] w0 fun e w'=>e=.returned (.bool r)∧Ext w0 w' := by
 unfold gZ at F;refine aJ Tryz.func99 rfl rfl (dt rfl) ?_;have S:=Sat.start w0;refine sR fun _ Co=>?_;refine bl [i_ a0,u1,u2] rfl S (dt rfl) ?_;intro Cu Cp S Cr;refine pa (.bool false) (en Co ?_);refine sR fun _ U=>?_;refine pe (.agg #[i_ a0,u1,u2]) (av (cs:=[i_ a0,u1,u2]) rfl rfl (aw (S.boxAt 0 rfl))) ?_;obtain ⟨Cq,Z,F⟩:=ob F;refine ec0 oI (fS (S.up ha1) (S.up ha2) Z) (ca (ai rfl rfl)) S fun Cv Cs S=>?_;refine pm (.bool Cq) ?_;rcases oif F with ⟨D,F⟩|⟨D,F⟩
 ·refine ei D (pm u3 (ei D (pe (i_ (a3.length:Int)) (au rfl ha3) (ei D (pe (.pointer (some ⟨Cp,0 + 0,none⟩)) (ae rfl) (ei D (pe (i_ a0) (ac rfl ((S.boxAt 0 rfl) 0 _ rfl)) (ei D (pe (.bool ((a3.length:Int) == a0)) (bA rfl rfl) (pe (.bool ((a3.length:Int) == a0)) (az rfl D rfl) (pm (.bool ((a3.length:Int) == a0)) ?_)))))))))));rcases oif F with ⟨J,F⟩|⟨J,F⟩
  ·refine ei J (pm u3 (ei J ?_));obtain ⟨Y,Cn,F⟩:=ob F;refine ec0 yH (k8 (S.up ha3) Cn) (ca (ai rfl rfl)) S fun Cw Ct S=>?_;refine pe (.bool Y) (az rfl J rfl) (pa (.bool Y) (en U (aj (aK rfl rfl ?_))));exact rB F S
  refine eo J (eo J (pe (.bool false) (aC rfl J rfl) (pa (.bool false) (en U (aj (aK rfl rfl ?_))))));exact rB F S
 refine eo D (eo D (eo D (eo D (eo D (pe (.bool false) (aC rfl D rfl) (pm (.bool false) (eo rfl (eo rfl (pe (.bool false) (aC rfl rfl rfl) (pa (.bool false) (en U (aj (aK rfl rfl ?_)))))))))))));exact rB F S
theorem ss (N:Nat):∀ {w0:World} {u0:Value} {a0:List T0_} (_:R3_.rd w0 [u0] a0) {r:T1_} (_:fI N a0=some r), Calls Tryz.prog 108 #[u0] w0 fun e w'=>∃ (q0:Value),e=.returned (q0)∧Ext w0 w'∧R3_.rd w' [q0] r := by
 induction N with
 | zero=>intros; exact nomatch (show none=some _ by assumption)
 | succ N ih=>
  intro w0 u0 a0 ha0 r F;refine aJ Tryz.func108 rfl rfl (dt rfl) ?_;have S:=Sat.start w0;refine sR fun _ HL=>?_;refine pa n_ (en HL ?_);refine sg fun _ EK=>?_;refine sR fun _ HM=>?_;refine pm u0 (pe (i_ (a0.length:Int)) (au rfl ha0) (pe (.bool (decide ((a0.length:Int) < 2))) (aM rfl rfl) (en HM ?_)));rcases oif F with ⟨Do,F⟩|⟨Do,F⟩
  ·refine ct Do ?_;refine sR fun _ HN=>?_;refine pm u0 (pa u0 (en HN (aj (tr EK (aK rfl rfl ?_)))));have hr:=Option.some.inj F;exact ⟨u0,congrArg (fun (r:T1_)=>Ending.returned (u0)) hr,S.below,Eq.mp (congrArg (fun (r:T1_)=>R3_.rd w0 [u0] r) hr :) (S.up ha0)⟩
  refine cf Do (sn EK ?_);refine sR fun _ HO=>?_;refine pm u0 (pe (i_ (a0.length:Int)) (au rfl ha0) ?_);obtain ⟨Dp,FG,F⟩:=ob F;refine pe (i_ Dp) (s4 rfl rfl FG) (pa (i_ Dp) (en HO ?_));refine sR fun _ HP=>?_;refine pm u0 (pm (i_ Dp) ?_);obtain ⟨JW,FH,F⟩:=ob F;refine dH (wA:=w0) rfl rfl ha0 (.inr ⟨rfl,rfl⟩) (.inl (congrArg some rfl)) FH (dt rfl) ?_;intro JX Ej;obtain ⟨HQ,FI,F⟩:=ob F;refine bb tB (ih (S.up Ej) FI) (ca (ai rfl rfl)) (dt rfl) ?_;rintro _ D5 ⟨EM,rfl,FJ,FK⟩;refine ⟨_,rfl,?_⟩;replace S:=S.ext FJ;have FL:Ext w0 D5:=S.below;have Dq:=S.up ha0;have Jd:=S.up ha0;have Je:=S.up Ej;replace S:=Sat.start D5;refine pa EM (en HP ?_);refine sR fun _ HR=>?_;refine pm u0 (pm (i_ Dp) ?_);obtain ⟨JY,FM,F⟩:=ob F;refine dH (wA:=D5) rfl rfl Dq (.inl (congrArg some rfl)) (.inr ⟨rfl,rfl⟩) FM (dt rfl) ?_;intro JZ Ek;obtain ⟨HS,FN,F⟩:=ob F;refine bb tB (ih (S.up Ek) FN) (ca (ai rfl rfl)) (dt rfl) ?_;rintro _ D ⟨EN,rfl,FO,FP⟩;refine ⟨_,rfl,?_⟩;replace S:=S.ext FO;have FQ:Ext w0 D:=(S.rebase FL).below;have Jf:=S.up Dq;have FR:=S.up FK;have Jg:=S.up Dq;have Jh:=S.up Ek;replace S:=Sat.start D;refine pa EN (en HR ?_);refine sR fun _ HT=>?_;refine aT (roR D R0_) S (dt rfl) ?_;intro J0 EO S Ji;refine pa EO (en HT ?_);refine sg fun _ HU=>?_;refine bg fun _ HV=>?_;obtain ⟨HW,hL,FS⟩:=ob F;refine aI (fun k e w=>∃ (Cq:Value),∃ (Ct:List T0_),∃ (Cr:Value),∃ (Cu:List T0_),∃ (U:Value),∃ (Y:List T0_),e 4=Cq∧e 5=Cr∧e 6=U∧Sat D w [Own (aA (roR D R0_) 28) [U] Y]∧R3_.rd D [Cq] Ct∧R3_.rd D [Cr] Cu∧aR (fI N) N k Ct Cu Y=some HW) N ?_ ?_ ?_
  ·exact ⟨EM,HQ,EN,HS,EO,[],rfl,rfl,rfl,S,FR,FP,hL⟩
  ·rintro e w ⟨_,_,_,_,_,_,_,_,_,_,_,_,hz⟩; exact nomatch (show none=some _ from hz)
  rintro k J1 HX ⟨Cq,Ct,Cr,Cu,U,Y,Z,Cn,J,S,Co,Cp,F⟩;refine gn fun _ Cs=>?_;refine sg fun _ D6=>?_;refine sR fun _ EP=>?_;refine pM Cq Z (pe (i_ (Ct.length:Int)) (au rfl Co) (pe (.bool (decide (0 < (Ct.length:Int)))) (bB rfl rfl) (pm (.bool (decide (0 < (Ct.length:Int)))) ?_)));rcases oif F with ⟨CH,F⟩|⟨CH,F⟩
  ·refine eo CH (eo CH (eo CH (pe (.bool true) (az rfl CH rfl) (en EP (ct rfl (sn D6 ?_))))));refine bg fun _ CF=>?_;refine sR fun _ HY=>?_;refine pa (i_ 0) (en HY ?_);refine sg fun _ D7=>?_;refine bg fun _ D8=>?_;refine sR fun _ HZ=>?_;refine pM Cq Z (pe (i_ (Ct.length:Int)) (au rfl Co) (pe (.bool ((Ct.length:Int) == 0)) (bA rfl rfl) (pa (.bool ((Ct.length:Int) == 0)) (en HZ ?_))));rcases oif F with ⟨Dr,F⟩|⟨Dr,F⟩
   ·refine ct Dr (ag (pa (i_ 1) (ah (bn D8 (tn D7 ?_)))));refine sR fun _ H0=>?_;refine aT bY S (dt rfl) ?_;intro EQ H1 S Jj;refine pa H1 (en H0 ?_);refine sg fun _ ER=>?_;refine sg fun _ H2=>?_;replace S:=S.r0;refine ag (pm (i_ 1) (pe (.bool (decide (0 < (1:Int)))) (bB rfl rfl) (en H2 ?_)));rcases oif F with ⟨Ds,F⟩|⟨Ds,F⟩
    ·refine ct Ds ?_;refine sR fun _ H3=>?_;refine pM Cr Cn ?_;obtain ⟨J2,FT,F⟩:=ob F;refine aF (wA:=D) rfl Cp rfl (dt rfl) rfl FT (dt rfl) ?_;intro J3 Jk J4 CI FU;obtain ⟨CS,rfl⟩:=ax CI;refine pe CS (ac rfl ((ak S.below FU) 0 _ rfl)) (pa CS (en H3 (ag (pM Cr Cn ?_))));obtain ⟨D9,FV,F⟩:=ob F;refine dH (wA:=D) rfl rfl Cp (.inl (congrArg some rfl)) (.inr ⟨rfl,rfl⟩) FV (dt rfl) ?_;intro Dt Du;refine pa Dt (en ER ?_);refine sR fun _ ES=>?_;refine pM U J (pe (i_ (Y.length:Int)) (au rfl (S.rdAt (R:=(aA (roR D R0_) 28)) 0 rfl)) (pe (.bool ((Y.length:Int) == 0)) (bA rfl rfl) (pm (.bool ((Y.length:Int) == 0)) ?_)));rcases oif F with ⟨Cv,F⟩|⟨Cv,F⟩
     ·refine eo Cv (eo Cv (eo Cv (eo Cv (eo Cv (eo Cv (eo Cv (eo Cv (eo Cv (pe (.bool true) (az rfl Cv rfl) (en ES (ct rfl (ag (pM U J (pm CS ?_))))))))))))));refine aq [CS] (aQ rfl (oc CI)) (by rfl) (dt rfl) rfl (dt rfl) S (dt rfl) ?_;intro J5 J6 S Jl;obtain ⟨H4,FW,F⟩:=ob F;have Ep:=S.boxRow 0 rfl;replace S:=S.t1;replace S:=S.roOne (R:=R0_) (W:=D) CI;replace S:=S.one;refine ay rfl (dt rfl) rfl (dt rfl) S rfl rfl rfl (by simp) Ep FW (dt rfl) ?_;intro J7 ET S;refine pa ET (ah (bn CF (tn Cs ?_)));replace S:=S.keep 1;exact ⟨Cq,Ct,Dt,D9,ET,H4,Z,rfl,rfl,S,Co,Du,F⟩
     refine ei Cv (pM U J (ei Cv (pM U J (ei Cv (pe (i_ (Y.length:Int)) (au rfl (S.rdAt (R:=(aA (roR D R0_) 28)) 0 rfl)) (ei Cv ?_))))));obtain ⟨H5,FX,F⟩:=ob F;refine pe (i_ H5) (cD rfl rfl FX) (ei Cv ?_);obtain ⟨J8,FY,F⟩:=ob F;refine aF (wA:=EQ) rfl (S.rdAt (R:=(aA (roR D R0_) 28)) 0 rfl) rfl (dt rfl) rfl FY (dt rfl) ?_;intro J9 Jm Ka Dd C3;replace Dd:R0_.rd D _ _:=Dd;obtain ⟨H6,rfl⟩:=ax Dd;refine ei Cv (pe H6 (ac rfl (C3 0 _ rfl)) (ei Cv (pm CS (ei Cv ?_))));obtain ⟨EU,FZ,F⟩:=ob F;refine ec0 fX (bz (S.up Dd) (S.up CI) FZ) (ca (ai rfl (ai rfl rfl))) S fun Kb F0 S=>?_;have C3:=ak F0 C3;refine ei Cv (pe (.bool (EU != 0)) (dp rfl rfl) (pe (.bool (EU != 0)) (aC rfl Cv rfl) (en ES ?_)));rcases oif F with ⟨Dv,F⟩|⟨Dv,F⟩
     ·refine ct Dv (ag (pM U J (pm CS ?_)));refine aq [CS] (aQ rfl (oc CI)) (by rfl) (dt rfl) rfl (dt rfl) S (dt rfl) ?_;intro Kc Kd S F3;have C3:=ak F3 C3;obtain ⟨H7,F4,F⟩:=ob F;have Er:=S.boxRow 0 rfl;replace S:=S.t1;replace S:=S.roOne (R:=R0_) (W:=D) CI;replace S:=S.one;refine ay rfl (dt rfl) rfl (dt rfl) S rfl rfl rfl (by simp) Er F4 (dt rfl) ?_;intro Ke EV S;refine pa EV (ah (bn CF (tn Cs ?_)));replace S:=S.keep 1;exact ⟨Cq,Ct,Dt,D9,EV,H7,Z,rfl,rfl,S,Co,Du,F⟩
     refine cf Dv (aU (bn CF (tn Cs ?_)));replace S:=S.keep 1;exact ⟨Cq,Ct,Dt,D9,U,Y,Z,rfl,J,S,Co,Du,F⟩
    refine cf Ds ?_;refine sR fun _ H8=>?_;refine pM Cq Z ?_;obtain ⟨Kf,F5,F⟩:=ob F;refine aF (wA:=D) rfl Co rfl (dt rfl) rfl F5 (dt rfl) ?_;intro Kg Jn Kh CJ F6;obtain ⟨CT,rfl⟩:=ax CJ;refine pe CT (ac rfl ((ak S.below F6) 0 _ rfl)) (pa CT (en H8 (ag (pM Cq Z ?_))));obtain ⟨Ea,F7,F⟩:=ob F;refine dH (wA:=D) rfl rfl Co (.inl (congrArg some rfl)) (.inr ⟨rfl,rfl⟩) F7 (dt rfl) ?_;intro Dw Dx;refine pa Dw (en ER ?_);refine sR fun _ EW=>?_;refine pM U J (pe (i_ (Y.length:Int)) (au rfl (S.rdAt (R:=(aA (roR D R0_) 28)) 0 rfl)) (pe (.bool ((Y.length:Int) == 0)) (bA rfl rfl) (pm (.bool ((Y.length:Int) == 0)) ?_)));rcases oif F with ⟨Cw,F⟩|⟨Cw,F⟩
    ·refine eo Cw (eo Cw (eo Cw (eo Cw (eo Cw (eo Cw (eo Cw (eo Cw (eo Cw (pe (.bool true) (az rfl Cw rfl) (en EW (ct rfl (ag (pM U J (pm CT ?_))))))))))))));refine aq [CT] (aQ rfl (oc CJ)) (by rfl) (dt rfl) rfl (dt rfl) S (dt rfl) ?_;intro Ki Kj S Jo;obtain ⟨H9,F8,F⟩:=ob F;have Es:=S.boxRow 0 rfl;replace S:=S.t1;replace S:=S.roOne (R:=R0_) (W:=D) CJ;replace S:=S.one;refine ay rfl (dt rfl) rfl (dt rfl) S rfl rfl rfl (by simp) Es F8 (dt rfl) ?_;intro Kk EX S;refine pa EX (ah (bn CF (tn Cs ?_)));replace S:=S.keep 1;exact ⟨Dw,Ea,Cr,Cu,EX,H9,rfl,Cn,rfl,S,Dx,Cp,F⟩
    refine ei Cw (pM U J (ei Cw (pM U J (ei Cw (pe (i_ (Y.length:Int)) (au rfl (S.rdAt (R:=(aA (roR D R0_) 28)) 0 rfl)) (ei Cw ?_))))));obtain ⟨Ia,F9,F⟩:=ob F;refine pe (i_ Ia) (cD rfl rfl F9) (ei Cw ?_);obtain ⟨Kl,Ga,F⟩:=ob F;refine aF (wA:=EQ) rfl (S.rdAt (R:=(aA (roR D R0_) 28)) 0 rfl) rfl (dt rfl) rfl Ga (dt rfl) ?_;intro Km Jp Kn De C4;replace De:R0_.rd D _ _:=De;obtain ⟨Ib,rfl⟩:=ax De;refine ei Cw (pe Ib (ac rfl (C4 0 _ rfl)) (ei Cw (pm CT (ei Cw ?_))));obtain ⟨EY,Gb,F⟩:=ob F;refine ec0 fX (bz (S.up De) (S.up CJ) Gb) (ca (ai rfl (ai rfl rfl))) S fun Ko Gc S=>?_;have C4:=ak Gc C4;refine ei Cw (pe (.bool (EY != 0)) (dp rfl rfl) (pe (.bool (EY != 0)) (aC rfl Cw rfl) (en EW ?_)));rcases oif F with ⟨Dy,F⟩|⟨Dy,F⟩
    ·refine ct Dy (ag (pM U J (pm CT ?_)));refine aq [CT] (aQ rfl (oc CJ)) (by rfl) (dt rfl) rfl (dt rfl) S (dt rfl) ?_;intro Kp Kq S Gd;have C4:=ak Gd C4;obtain ⟨Ic,Ge,F⟩:=ob F;have Et:=S.boxRow 0 rfl;replace S:=S.t1;replace S:=S.roOne (R:=R0_) (W:=D) CJ;replace S:=S.one;refine ay rfl (dt rfl) rfl (dt rfl) S rfl rfl rfl (by simp) Et Ge (dt rfl) ?_;intro Kr EZ S;refine pa EZ (ah (bn CF (tn Cs ?_)));replace S:=S.keep 1;exact ⟨Dw,Ea,Cr,Cu,EZ,Ic,rfl,Cn,rfl,S,Dx,Cp,F⟩
    refine cf Dy (aU (bn CF (tn Cs ?_)));replace S:=S.keep 1;exact ⟨Dw,Ea,Cr,Cu,U,Y,rfl,Cn,J,S,Dx,Cp,F⟩
   refine cf Dr ?_;refine sR fun _ Id=>?_;refine pM Cr Cn (pe (i_ (Cu.length:Int)) (au rfl Cp) (pe (.bool (decide (0 < (Cu.length:Int)))) (bB rfl rfl) (pa (.bool (decide (0 < (Cu.length:Int)))) (en Id ?_))));rcases oif F with ⟨Dz,F⟩|⟨Dz,F⟩
   ·refine ct Dz ?_;refine bO (by kernel_rfl) (by kernel_rfl) ?_;refine qM Cq Z ?_;obtain ⟨Ks,Gf,F⟩:=ob F;refine ba (wA:=D) rfl Co rfl (dt rfl) rfl Gf (dt rfl) ?_;intro Kt Jq Ku El Gg;obtain ⟨Ie,rfl⟩:=ax El;refine qe Ie (ac rfl ((ak S.below Gg) 0 _ rfl)) (qM Cr Cn ?_);obtain ⟨Kv,Gh,F⟩:=ob F;refine ba (wA:=D) rfl Cp rfl (dt rfl) rfl Gh (dt rfl) ?_;intro Kw Jr Kx Em Gi;obtain ⟨If,rfl⟩:=ax Em;refine qe If (ac rfl ((ak S.below Gi) 0 _ rfl)) ?_;obtain ⟨DA,Gj,F⟩:=ob F;refine c6 (i_ DA) fX (fun w' hw'=>bz (bJ (S.up El) hw') (bJ (S.up Em) hw') Gj) (ca (ai rfl (ai rfl rfl))) (dt rfl) ?_;refine qe (i_ DA) (df rfl) (bm ?_);intro Ky Gk;replace S:=S.ext Gk;refine bn D8 (tn D7 ?_);refine sR fun _ Ig=>?_;refine aT bY S (dt rfl) ?_;intro E0 Ih S Js;refine pa Ih (en Ig ?_);refine sg fun _ E1=>?_;refine sg fun _ Ii=>?_;replace S:=S.r0;refine ag (pm (i_ DA) (pe (.bool (decide (0 < DA))) (bB rfl rfl) (en Ii ?_)));rcases oif F with ⟨DB,F⟩|⟨DB,F⟩
    ·refine ct DB ?_;refine sR fun _ Ij=>?_;refine pM Cr Cn ?_;obtain ⟨Kz,Gl,F⟩:=ob F;refine aF (wA:=D) rfl Cp rfl (dt rfl) rfl Gl (dt rfl) ?_;intro KA Jt KB CK Gm;obtain ⟨CU,rfl⟩:=ax CK;refine pe CU (ac rfl ((ak S.below Gm) 0 _ rfl)) (pa CU (en Ij (ag (pM Cr Cn ?_))));obtain ⟨Eb,Gn,F⟩:=ob F;refine dH (wA:=D) rfl rfl Cp (.inl (congrArg some rfl)) (.inr ⟨rfl,rfl⟩) Gn (dt rfl) ?_;intro DC DD;refine pa DC (en E1 ?_);refine sR fun _ E2=>?_;refine pM U J (pe (i_ (Y.length:Int)) (au rfl (S.rdAt (R:=(aA (roR D R0_) 28)) 0 rfl)) (pe (.bool ((Y.length:Int) == 0)) (bA rfl rfl) (pm (.bool ((Y.length:Int) == 0)) ?_)));rcases oif F with ⟨Cx,F⟩|⟨Cx,F⟩
     ·refine eo Cx (eo Cx (eo Cx (eo Cx (eo Cx (eo Cx (eo Cx (eo Cx (eo Cx (pe (.bool true) (az rfl Cx rfl) (en E2 (ct rfl (ag (pM U J (pm CU ?_))))))))))))));refine aq [CU] (aQ rfl (oc CK)) (by rfl) (dt rfl) rfl (dt rfl) S (dt rfl) ?_;intro KC KD S Ju;obtain ⟨Ik,Gp,F⟩:=ob F;have Eu:=S.boxRow 0 rfl;replace S:=S.t1;replace S:=S.roOne (R:=R0_) (W:=D) CK;replace S:=S.one;refine ay rfl (dt rfl) rfl (dt rfl) S rfl rfl rfl (by simp) Eu Gp (dt rfl) ?_;intro KE E3 S;refine pa E3 (ah (bn CF (tn Cs ?_)));replace S:=S.keep 1;exact ⟨Cq,Ct,DC,Eb,E3,Ik,Z,rfl,rfl,S,Co,DD,F⟩
     refine ei Cx (pM U J (ei Cx (pM U J (ei Cx (pe (i_ (Y.length:Int)) (au rfl (S.rdAt (R:=(aA (roR D R0_) 28)) 0 rfl)) (ei Cx ?_))))));obtain ⟨Il,Gq,F⟩:=ob F;refine pe (i_ Il) (cD rfl rfl Gq) (ei Cx ?_);obtain ⟨KF,Gr,F⟩:=ob F;refine aF (wA:=E0) rfl (S.rdAt (R:=(aA (roR D R0_) 28)) 0 rfl) rfl (dt rfl) rfl Gr (dt rfl) ?_;intro KG Jv KH Df C5;replace Df:R0_.rd D _ _:=Df;obtain ⟨Im,rfl⟩:=ax Df;refine ei Cx (pe Im (ac rfl (C5 0 _ rfl)) (ei Cx (pm CU (ei Cx ?_))));obtain ⟨E4,Gs,F⟩:=ob F;refine ec0 fX (bz (S.up Df) (S.up CK) Gs) (ca (ai rfl (ai rfl rfl))) S fun KI Gt S=>?_;have C5:=ak Gt C5;refine ei Cx (pe (.bool (E4 != 0)) (dp rfl rfl) (pe (.bool (E4 != 0)) (aC rfl Cx rfl) (en E2 ?_)));rcases oif F with ⟨DE,F⟩|⟨DE,F⟩
     ·refine ct DE (ag (pM U J (pm CU ?_)));refine aq [CU] (aQ rfl (oc CK)) (by rfl) (dt rfl) rfl (dt rfl) S (dt rfl) ?_;intro KJ KK S Gu;have C5:=ak Gu C5;obtain ⟨In,Gv,F⟩:=ob F;have Ev:=S.boxRow 0 rfl;replace S:=S.t1;replace S:=S.roOne (R:=R0_) (W:=D) CK;replace S:=S.one;refine ay rfl (dt rfl) rfl (dt rfl) S rfl rfl rfl (by simp) Ev Gv (dt rfl) ?_;intro KL E5 S;refine pa E5 (ah (bn CF (tn Cs ?_)));replace S:=S.keep 1;exact ⟨Cq,Ct,DC,Eb,E5,In,Z,rfl,rfl,S,Co,DD,F⟩
     refine cf DE (aU (bn CF (tn Cs ?_)));replace S:=S.keep 1;exact ⟨Cq,Ct,DC,Eb,U,Y,Z,rfl,J,S,Co,DD,F⟩
    refine cf DB ?_;refine sR fun _ Io=>?_;refine pM Cq Z ?_;obtain ⟨KM,Gw,F⟩:=ob F;refine aF (wA:=D) rfl Co rfl (dt rfl) rfl Gw (dt rfl) ?_;intro KN Jw KO CL Gx;obtain ⟨CV,rfl⟩:=ax CL;refine pe CV (ac rfl ((ak S.below Gx) 0 _ rfl)) (pa CV (en Io (ag (pM Cq Z ?_))));obtain ⟨Ec,Gy,F⟩:=ob F;refine dH (wA:=D) rfl rfl Co (.inl (congrArg some rfl)) (.inr ⟨rfl,rfl⟩) Gy (dt rfl) ?_;intro DF DG;refine pa DF (en E1 ?_);refine sR fun _ E6=>?_;refine pM U J (pe (i_ (Y.length:Int)) (au rfl (S.rdAt (R:=(aA (roR D R0_) 28)) 0 rfl)) (pe (.bool ((Y.length:Int) == 0)) (bA rfl rfl) (pm (.bool ((Y.length:Int) == 0)) ?_)));rcases oif F with ⟨Cy,F⟩|⟨Cy,F⟩
    ·refine eo Cy (eo Cy (eo Cy (eo Cy (eo Cy (eo Cy (eo Cy (eo Cy (eo Cy (pe (.bool true) (az rfl Cy rfl) (en E6 (ct rfl (ag (pM U J (pm CV ?_))))))))))))));refine aq [CV] (aQ rfl (oc CL)) (by rfl) (dt rfl) rfl (dt rfl) S (dt rfl) ?_;intro KP KR S Jx;obtain ⟨Ip,Gz,F⟩:=ob F;have Ew:=S.boxRow 0 rfl;replace S:=S.t1;replace S:=S.roOne (R:=R0_) (W:=D) CL;replace S:=S.one;refine ay rfl (dt rfl) rfl (dt rfl) S rfl rfl rfl (by simp) Ew Gz (dt rfl) ?_;intro KS E7 S;refine pa E7 (ah (bn CF (tn Cs ?_)));replace S:=S.keep 1;exact ⟨DF,Ec,Cr,Cu,E7,Ip,rfl,Cn,rfl,S,DG,Cp,F⟩
    refine ei Cy (pM U J (ei Cy (pM U J (ei Cy (pe (i_ (Y.length:Int)) (au rfl (S.rdAt (R:=(aA (roR D R0_) 28)) 0 rfl)) (ei Cy ?_))))));obtain ⟨Iq,GA,F⟩:=ob F;refine pe (i_ Iq) (cD rfl rfl GA) (ei Cy ?_);obtain ⟨KT,GB,F⟩:=ob F;refine aF (wA:=E0) rfl (S.rdAt (R:=(aA (roR D R0_) 28)) 0 rfl) rfl (dt rfl) rfl GB (dt rfl) ?_;intro KU Jy KV Dg C6;replace Dg:R0_.rd D _ _:=Dg;obtain ⟨Ir,rfl⟩:=ax Dg;refine ei Cy (pe Ir (ac rfl (C6 0 _ rfl)) (ei Cy (pm CV (ei Cy ?_))));obtain ⟨E8,GC,F⟩:=ob F;refine ec0 fX (bz (S.up Dg) (S.up CL) GC) (ca (ai rfl (ai rfl rfl))) S fun KW GD S=>?_;have C6:=ak GD C6;refine ei Cy (pe (.bool (E8 != 0)) (dp rfl rfl) (pe (.bool (E8 != 0)) (aC rfl Cy rfl) (en E6 ?_)));rcases oif F with ⟨DH,F⟩|⟨DH,F⟩
    ·refine ct DH (ag (pM U J (pm CV ?_)));refine aq [CV] (aQ rfl (oc CL)) (by rfl) (dt rfl) rfl (dt rfl) S (dt rfl) ?_;intro KX KY S GE;have C6:=ak GE C6;obtain ⟨Is,GF,F⟩:=ob F;have Ex:=S.boxRow 0 rfl;replace S:=S.t1;replace S:=S.roOne (R:=R0_) (W:=D) CL;replace S:=S.one;refine ay rfl (dt rfl) rfl (dt rfl) S rfl rfl rfl (by simp) Ex GF (dt rfl) ?_;intro KZ E9 S;refine pa E9 (ah (bn CF (tn Cs ?_)));replace S:=S.keep 1;exact ⟨DF,Ec,Cr,Cu,E9,Is,rfl,Cn,rfl,S,DG,Cp,F⟩
    refine cf DH (aU (bn CF (tn Cs ?_)));replace S:=S.keep 1;exact ⟨DF,Ec,Cr,Cu,U,Y,rfl,Cn,J,S,DG,Cp,F⟩
   refine cf Dz (ag (pa (i_ (-1)) (ah (bn D8 (tn D7 ?_)))));refine sR fun _ It=>?_;refine aT bY S (dt rfl) ?_;intro Fa Iu S Jz;refine pa Iu (en It ?_);refine sg fun _ Fb=>?_;refine sg fun _ Iv=>?_;replace S:=S.r0;refine ag (pm (i_ (-1)) (pe (.bool (decide (0 < ((-1):Int)))) (bB rfl rfl) (en Iv ?_)));rcases oif F with ⟨DI,F⟩|⟨DI,F⟩
   ·refine ct DI ?_;refine sR fun _ Iw=>?_;refine pM Cr Cn ?_;obtain ⟨K0,GG,F⟩:=ob F;refine aF (wA:=D) rfl Cp rfl (dt rfl) rfl GG (dt rfl) ?_;intro K3 JA K4 CM GH;obtain ⟨CX,rfl⟩:=ax CM;refine pe CX (ac rfl ((ak S.below GH) 0 _ rfl)) (pa CX (en Iw (ag (pM Cr Cn ?_))));obtain ⟨Ed,GI,F⟩:=ob F;refine dH (wA:=D) rfl rfl Cp (.inl (congrArg some rfl)) (.inr ⟨rfl,rfl⟩) GI (dt rfl) ?_;intro DJ DK;refine pa DJ (en Fb ?_);refine sR fun _ Fc=>?_;refine pM U J (pe (i_ (Y.length:Int)) (au rfl (S.rdAt (R:=(aA (roR D R0_) 28)) 0 rfl)) (pe (.bool ((Y.length:Int) == 0)) (bA rfl rfl) (pm (.bool ((Y.length:Int) == 0)) ?_)));rcases oif F with ⟨Cz,F⟩|⟨Cz,F⟩
    ·refine eo Cz (eo Cz (eo Cz (eo Cz (eo Cz (eo Cz (eo Cz (eo Cz (eo Cz (pe (.bool true) (az rfl Cz rfl) (en Fc (ct rfl (ag (pM U J (pm CX ?_))))))))))))));refine aq [CX] (aQ rfl (oc CM)) (by rfl) (dt rfl) rfl (dt rfl) S (dt rfl) ?_;intro K5 K6 S JB;obtain ⟨Ix,GJ,F⟩:=ob F;have Ey:=S.boxRow 0 rfl;replace S:=S.t1;replace S:=S.roOne (R:=R0_) (W:=D) CM;replace S:=S.one;refine ay rfl (dt rfl) rfl (dt rfl) S rfl rfl rfl (by simp) Ey GJ (dt rfl) ?_;intro K7 Fd S;refine pa Fd (ah (bn CF (tn Cs ?_)));replace S:=S.keep 1;exact ⟨Cq,Ct,DJ,Ed,Fd,Ix,Z,rfl,rfl,S,Co,DK,F⟩
    refine ei Cz (pM U J (ei Cz (pM U J (ei Cz (pe (i_ (Y.length:Int)) (au rfl (S.rdAt (R:=(aA (roR D R0_) 28)) 0 rfl)) (ei Cz ?_))))));obtain ⟨Iy,GK,F⟩:=ob F;refine pe (i_ Iy) (cD rfl rfl GK) (ei Cz ?_);obtain ⟨K8,GL,F⟩:=ob F;refine aF (wA:=Fa) rfl (S.rdAt (R:=(aA (roR D R0_) 28)) 0 rfl) rfl (dt rfl) rfl GL (dt rfl) ?_;intro K9 JC La Dh C7;replace Dh:R0_.rd D _ _:=Dh;obtain ⟨Iz,rfl⟩:=ax Dh;refine ei Cz (pe Iz (ac rfl (C7 0 _ rfl)) (ei Cz (pm CX (ei Cz ?_))));obtain ⟨Fe,GM,F⟩:=ob F;refine ec0 fX (bz (S.up Dh) (S.up CM) GM) (ca (ai rfl (ai rfl rfl))) S fun Lb GN S=>?_;have C7:=ak GN C7;refine ei Cz (pe (.bool (Fe != 0)) (dp rfl rfl) (pe (.bool (Fe != 0)) (aC rfl Cz rfl) (en Fc ?_)));rcases oif F with ⟨DL,F⟩|⟨DL,F⟩
    ·refine ct DL (ag (pM U J (pm CX ?_)));refine aq [CX] (aQ rfl (oc CM)) (by rfl) (dt rfl) rfl (dt rfl) S (dt rfl) ?_;intro Lc Ld S GO;have C7:=ak GO C7;obtain ⟨IA,GP,F⟩:=ob F;have Ez:=S.boxRow 0 rfl;replace S:=S.t1;replace S:=S.roOne (R:=R0_) (W:=D) CM;replace S:=S.one;refine ay rfl (dt rfl) rfl (dt rfl) S rfl rfl rfl (by simp) Ez GP (dt rfl) ?_;intro Le Ff S;refine pa Ff (ah (bn CF (tn Cs ?_)));replace S:=S.keep 1;exact ⟨Cq,Ct,DJ,Ed,Ff,IA,Z,rfl,rfl,S,Co,DK,F⟩
    refine cf DL (aU (bn CF (tn Cs ?_)));replace S:=S.keep 1;exact ⟨Cq,Ct,DJ,Ed,U,Y,Z,rfl,J,S,Co,DK,F⟩
   refine cf DI ?_;refine sR fun _ IB=>?_;refine pM Cq Z ?_;obtain ⟨Lg,GQ,F⟩:=ob F;refine aF (wA:=D) rfl Co rfl (dt rfl) rfl GQ (dt rfl) ?_;intro Lh JD Li CN GR;obtain ⟨CY,rfl⟩:=ax CN;refine pe CY (ac rfl ((ak S.below GR) 0 _ rfl)) (pa CY (en IB (ag (pM Cq Z ?_))));obtain ⟨Ee,GS,F⟩:=ob F;refine dH (wA:=D) rfl rfl Co (.inl (congrArg some rfl)) (.inr ⟨rfl,rfl⟩) GS (dt rfl) ?_;intro DM DN;refine pa DM (en Fb ?_);refine sR fun _ Fg=>?_;refine pM U J (pe (i_ (Y.length:Int)) (au rfl (S.rdAt (R:=(aA (roR D R0_) 28)) 0 rfl)) (pe (.bool ((Y.length:Int) == 0)) (bA rfl rfl) (pm (.bool ((Y.length:Int) == 0)) ?_)));rcases oif F with ⟨CA,F⟩|⟨CA,F⟩
   ·refine eo CA (eo CA (eo CA (eo CA (eo CA (eo CA (eo CA (eo CA (eo CA (pe (.bool true) (az rfl CA rfl) (en Fg (ct rfl (ag (pM U J (pm CY ?_))))))))))))));refine aq [CY] (aQ rfl (oc CN)) (by rfl) (dt rfl) rfl (dt rfl) S (dt rfl) ?_;intro Lj Lk S JE;obtain ⟨IC,GT,F⟩:=ob F;have EA:=S.boxRow 0 rfl;replace S:=S.t1;replace S:=S.roOne (R:=R0_) (W:=D) CN;replace S:=S.one;refine ay rfl (dt rfl) rfl (dt rfl) S rfl rfl rfl (by simp) EA GT (dt rfl) ?_;intro Ll Fh S;refine pa Fh (ah (bn CF (tn Cs ?_)));replace S:=S.keep 1;exact ⟨DM,Ee,Cr,Cu,Fh,IC,rfl,Cn,rfl,S,DN,Cp,F⟩
   refine ei CA (pM U J (ei CA (pM U J (ei CA (pe (i_ (Y.length:Int)) (au rfl (S.rdAt (R:=(aA (roR D R0_) 28)) 0 rfl)) (ei CA ?_))))));obtain ⟨ID,GU,F⟩:=ob F;refine pe (i_ ID) (cD rfl rfl GU) (ei CA ?_);obtain ⟨Lm,GV,F⟩:=ob F;refine aF (wA:=Fa) rfl (S.rdAt (R:=(aA (roR D R0_) 28)) 0 rfl) rfl (dt rfl) rfl GV (dt rfl) ?_;intro Ln JF Lo Di C8;replace Di:R0_.rd D _ _:=Di;obtain ⟨IE,rfl⟩:=ax Di;refine ei CA (pe IE (ac rfl (C8 0 _ rfl)) (ei CA (pm CY (ei CA ?_))));obtain ⟨Fi,GW,F⟩:=ob F;refine ec0 fX (bz (S.up Di) (S.up CN) GW) (ca (ai rfl (ai rfl rfl))) S fun Lp GX S=>?_;have C8:=ak GX C8;refine ei CA (pe (.bool (Fi != 0)) (dp rfl rfl) (pe (.bool (Fi != 0)) (aC rfl CA rfl) (en Fg ?_)));rcases oif F with ⟨DO,F⟩|⟨DO,F⟩
   ·refine ct DO (ag (pM U J (pm CY ?_)));refine aq [CY] (aQ rfl (oc CN)) (by rfl) (dt rfl) rfl (dt rfl) S (dt rfl) ?_;intro Lq Lr S GY;have C8:=ak GY C8;obtain ⟨IF,GZ,F⟩:=ob F;have EB:=S.boxRow 0 rfl;replace S:=S.t1;replace S:=S.roOne (R:=R0_) (W:=D) CN;replace S:=S.one;refine ay rfl (dt rfl) rfl (dt rfl) S rfl rfl rfl (by simp) EB GZ (dt rfl) ?_;intro Lt Fj S;refine pa Fj (ah (bn CF (tn Cs ?_)));replace S:=S.keep 1;exact ⟨DM,Ee,Cr,Cu,Fj,IF,rfl,Cn,rfl,S,DN,Cp,F⟩
   refine cf DO (aU (bn CF (tn Cs ?_)));replace S:=S.keep 1;exact ⟨DM,Ee,Cr,Cu,U,Y,rfl,Cn,J,S,DN,Cp,F⟩
  refine ei CH (pM Cr Cn (ei CH (pe (i_ (Cu.length:Int)) (au rfl Cp) (ei CH (pe (.bool (decide (0 < (Cu.length:Int)))) (bB rfl rfl) (pe (.bool (decide (0 < (Cu.length:Int)))) (aC rfl CH rfl) (en EP ?_)))))));rcases oif F with ⟨Dj,F⟩|⟨Dj,F⟩
  ·refine ct Dj (sn D6 ?_);refine bg fun _ CG=>?_;refine sR fun _ IG=>?_;refine pa (i_ 0) (en IG ?_);refine sg fun _ Fk=>?_;refine bg fun _ Fl=>?_;refine sR fun _ IH=>?_;refine pM Cq Z (pe (i_ (Ct.length:Int)) (au rfl Co) (pe (.bool ((Ct.length:Int) == 0)) (bA rfl rfl) (pa (.bool ((Ct.length:Int) == 0)) (en IH ?_))));rcases oif F with ⟨DP,F⟩|⟨DP,F⟩
   ·refine ct DP (ag (pa (i_ 1) (ah (bn Fl (tn Fk ?_)))));refine sR fun _ II=>?_;refine aT bY S (dt rfl) ?_;intro Fm IJ S JG;refine pa IJ (en II ?_);refine sg fun _ Fn=>?_;refine sg fun _ IK=>?_;replace S:=S.r0;refine ag (pm (i_ 1) (pe (.bool (decide (0 < (1:Int)))) (bB rfl rfl) (en IK ?_)));rcases oif F with ⟨DQ,F⟩|⟨DQ,F⟩
    ·refine ct DQ ?_;refine sR fun _ IL=>?_;refine pM Cr Cn ?_;obtain ⟨Lu,G1,F⟩:=ob F;refine aF (wA:=D) rfl Cp rfl (dt rfl) rfl G1 (dt rfl) ?_;intro Lv JH Lw CO G2;obtain ⟨CZ,rfl⟩:=ax CO;refine pe CZ (ac rfl ((ak S.below G2) 0 _ rfl)) (pa CZ (en IL (ag (pM Cr Cn ?_))));obtain ⟨Ef,G3,F⟩:=ob F;refine dH (wA:=D) rfl rfl Cp (.inl (congrArg some rfl)) (.inr ⟨rfl,rfl⟩) G3 (dt rfl) ?_;intro DR DS;refine pa DR (en Fn ?_);refine sR fun _ Fo=>?_;refine pM U J (pe (i_ (Y.length:Int)) (au rfl (S.rdAt (R:=(aA (roR D R0_) 28)) 0 rfl)) (pe (.bool ((Y.length:Int) == 0)) (bA rfl rfl) (pm (.bool ((Y.length:Int) == 0)) ?_)));rcases oif F with ⟨CB,F⟩|⟨CB,F⟩
     ·refine eo CB (eo CB (eo CB (eo CB (eo CB (eo CB (eo CB (eo CB (eo CB (pe (.bool true) (az rfl CB rfl) (en Fo (ct rfl (ag (pM U J (pm CZ ?_))))))))))))));refine aq [CZ] (aQ rfl (oc CO)) (by rfl) (dt rfl) rfl (dt rfl) S (dt rfl) ?_;intro Lx Ly S JI;obtain ⟨IM,G4,F⟩:=ob F;have EC:=S.boxRow 0 rfl;replace S:=S.t1;replace S:=S.roOne (R:=R0_) (W:=D) CO;replace S:=S.one;refine ay rfl (dt rfl) rfl (dt rfl) S rfl rfl rfl (by simp) EC G4 (dt rfl) ?_;intro Lz Fp S;refine pa Fp (ah (bn CG (tn Cs ?_)));replace S:=S.keep 1;exact ⟨Cq,Ct,DR,Ef,Fp,IM,Z,rfl,rfl,S,Co,DS,F⟩
     refine ei CB (pM U J (ei CB (pM U J (ei CB (pe (i_ (Y.length:Int)) (au rfl (S.rdAt (R:=(aA (roR D R0_) 28)) 0 rfl)) (ei CB ?_))))));obtain ⟨IN,G5,F⟩:=ob F;refine pe (i_ IN) (cD rfl rfl G5) (ei CB ?_);obtain ⟨LA,G6,F⟩:=ob F;refine aF (wA:=Fm) rfl (S.rdAt (R:=(aA (roR D R0_) 28)) 0 rfl) rfl (dt rfl) rfl G6 (dt rfl) ?_;intro LB JJ LC Dk C9;replace Dk:R0_.rd D _ _:=Dk;obtain ⟨IP,rfl⟩:=ax Dk;refine ei CB (pe IP (ac rfl (C9 0 _ rfl)) (ei CB (pm CZ (ei CB ?_))));obtain ⟨Fq,G7,F⟩:=ob F;refine ec0 fX (bz (S.up Dk) (S.up CO) G7) (ca (ai rfl (ai rfl rfl))) S fun LD G8 S=>?_;have C9:=ak G8 C9;refine ei CB (pe (.bool (Fq != 0)) (dp rfl rfl) (pe (.bool (Fq != 0)) (aC rfl CB rfl) (en Fo ?_)));rcases oif F with ⟨DT,F⟩|⟨DT,F⟩
     ·refine ct DT (ag (pM U J (pm CZ ?_)));refine aq [CZ] (aQ rfl (oc CO)) (by rfl) (dt rfl) rfl (dt rfl) S (dt rfl) ?_;intro LE LF S G9;have C9:=ak G9 C9;obtain ⟨IQ,Ha,F⟩:=ob F;have ED:=S.boxRow 0 rfl;replace S:=S.t1;replace S:=S.roOne (R:=R0_) (W:=D) CO;replace S:=S.one;refine ay rfl (dt rfl) rfl (dt rfl) S rfl rfl rfl (by simp) ED Ha (dt rfl) ?_;intro LG Fr S;refine pa Fr (ah (bn CG (tn Cs ?_)));replace S:=S.keep 1;exact ⟨Cq,Ct,DR,Ef,Fr,IQ,Z,rfl,rfl,S,Co,DS,F⟩
     refine cf DT (aU (bn CG (tn Cs ?_)));replace S:=S.keep 1;exact ⟨Cq,Ct,DR,Ef,U,Y,Z,rfl,J,S,Co,DS,F⟩
    refine cf DQ ?_;refine sR fun _ IR=>?_;refine pM Cq Z ?_;obtain ⟨LH,Hb,F⟩:=ob F;refine aF (wA:=D) rfl Co rfl (dt rfl) rfl Hb (dt rfl) ?_;intro LI JK LJ CP Hc;obtain ⟨C0,rfl⟩:=ax CP;refine pe C0 (ac rfl ((ak S.below Hc) 0 _ rfl)) (pa C0 (en IR (ag (pM Cq Z ?_))));obtain ⟨Eg,Hd,F⟩:=ob F;refine dH (wA:=D) rfl rfl Co (.inl (congrArg some rfl)) (.inr ⟨rfl,rfl⟩) Hd (dt rfl) ?_;intro DU DV;refine pa DU (en Fn ?_);refine sR fun _ Fs=>?_;refine pM U J (pe (i_ (Y.length:Int)) (au rfl (S.rdAt (R:=(aA (roR D R0_) 28)) 0 rfl)) (pe (.bool ((Y.length:Int) == 0)) (bA rfl rfl) (pm (.bool ((Y.length:Int) == 0)) ?_)));rcases oif F with ⟨CC,F⟩|⟨CC,F⟩
    ·refine eo CC (eo CC (eo CC (eo CC (eo CC (eo CC (eo CC (eo CC (eo CC (pe (.bool true) (az rfl CC rfl) (en Fs (ct rfl (ag (pM U J (pm C0 ?_))))))))))))));refine aq [C0] (aQ rfl (oc CP)) (by rfl) (dt rfl) rfl (dt rfl) S (dt rfl) ?_;intro LK LL S JL;obtain ⟨IS,He,F⟩:=ob F;have EE:=S.boxRow 0 rfl;replace S:=S.t1;replace S:=S.roOne (R:=R0_) (W:=D) CP;replace S:=S.one;refine ay rfl (dt rfl) rfl (dt rfl) S rfl rfl rfl (by simp) EE He (dt rfl) ?_;intro LM Ft S;refine pa Ft (ah (bn CG (tn Cs ?_)));replace S:=S.keep 1;exact ⟨DU,Eg,Cr,Cu,Ft,IS,rfl,Cn,rfl,S,DV,Cp,F⟩
    refine ei CC (pM U J (ei CC (pM U J (ei CC (pe (i_ (Y.length:Int)) (au rfl (S.rdAt (R:=(aA (roR D R0_) 28)) 0 rfl)) (ei CC ?_))))));obtain ⟨IT,Hf,F⟩:=ob F;refine pe (i_ IT) (cD rfl rfl Hf) (ei CC ?_);obtain ⟨LN,Hg,F⟩:=ob F;refine aF (wA:=Fm) rfl (S.rdAt (R:=(aA (roR D R0_) 28)) 0 rfl) rfl (dt rfl) rfl Hg (dt rfl) ?_;intro LO JM LP Dl Da;replace Dl:R0_.rd D _ _:=Dl;obtain ⟨IU,rfl⟩:=ax Dl;refine ei CC (pe IU (ac rfl (Da 0 _ rfl)) (ei CC (pm C0 (ei CC ?_))));obtain ⟨Fu,Hh,F⟩:=ob F;refine ec0 fX (bz (S.up Dl) (S.up CP) Hh) (ca (ai rfl (ai rfl rfl))) S fun LQ Hi S=>?_;have Da:=ak Hi Da;refine ei CC (pe (.bool (Fu != 0)) (dp rfl rfl) (pe (.bool (Fu != 0)) (aC rfl CC rfl) (en Fs ?_)));rcases oif F with ⟨DW,F⟩|⟨DW,F⟩
    ·refine ct DW (ag (pM U J (pm C0 ?_)));refine aq [C0] (aQ rfl (oc CP)) (by rfl) (dt rfl) rfl (dt rfl) S (dt rfl) ?_;intro LR LS S Hj;have Da:=ak Hj Da;obtain ⟨IV,Hk,F⟩:=ob F;have EF:=S.boxRow 0 rfl;replace S:=S.t1;replace S:=S.roOne (R:=R0_) (W:=D) CP;replace S:=S.one;refine ay rfl (dt rfl) rfl (dt rfl) S rfl rfl rfl (by simp) EF Hk (dt rfl) ?_;intro LT Fv S;refine pa Fv (ah (bn CG (tn Cs ?_)));replace S:=S.keep 1;exact ⟨DU,Eg,Cr,Cu,Fv,IV,rfl,Cn,rfl,S,DV,Cp,F⟩
    refine cf DW (aU (bn CG (tn Cs ?_)));replace S:=S.keep 1;exact ⟨DU,Eg,Cr,Cu,U,Y,rfl,Cn,J,S,DV,Cp,F⟩
   refine cf DP ?_;refine sR fun _ IW=>?_;refine pM Cr Cn (pe (i_ (Cu.length:Int)) (au rfl Cp) (pe (.bool (decide (0 < (Cu.length:Int)))) (bB rfl rfl) (pa (.bool (decide (0 < (Cu.length:Int)))) (en IW (ct Dj ?_)))));refine bO (by kernel_rfl) (by kernel_rfl) ?_;refine qM Cq Z ?_;obtain ⟨LU,Hl,F⟩:=ob F;refine ba (wA:=D) rfl Co rfl (dt rfl) rfl Hl (dt rfl) ?_;intro LV JN LW En Hm;obtain ⟨IX,rfl⟩:=ax En;refine qe IX (ac rfl ((ak S.below Hm) 0 _ rfl)) (qM Cr Cn ?_);obtain ⟨LX,Hn,F⟩:=ob F;refine ba (wA:=D) rfl Cp rfl (dt rfl) rfl Hn (dt rfl) ?_;intro LY JO LZ Eo Ho;obtain ⟨IY,rfl⟩:=ax Eo;refine qe IY (ac rfl ((ak S.below Ho) 0 _ rfl)) ?_;obtain ⟨DX,Hp,F⟩:=ob F;refine c6 (i_ DX) fX (fun w' hw'=>bz (bJ (S.up En) hw') (bJ (S.up Eo) hw') Hp) (ca (ai rfl (ai rfl rfl))) (dt rfl) ?_;refine qe (i_ DX) (df rfl) (bm ?_);intro L0 Hq;replace S:=S.ext Hq;refine bn Fl (tn Fk ?_);refine sR fun _ IZ=>?_;refine aT bY S (dt rfl) ?_;intro Fw I0 S JP;refine pa I0 (en IZ ?_);refine sg fun _ Fx=>?_;refine sg fun _ I1=>?_;replace S:=S.r0;refine ag (pm (i_ DX) (pe (.bool (decide (0 < DX))) (bB rfl rfl) (en I1 ?_)));rcases oif F with ⟨DY,F⟩|⟨DY,F⟩
   ·refine ct DY ?_;refine sR fun _ I2=>?_;refine pM Cr Cn ?_;obtain ⟨L3,Hr,F⟩:=ob F;refine aF (wA:=D) rfl Cp rfl (dt rfl) rfl Hr (dt rfl) ?_;intro L4 JQ L5 CQ Hs;obtain ⟨C1,rfl⟩:=ax CQ;refine pe C1 (ac rfl ((ak S.below Hs) 0 _ rfl)) (pa C1 (en I2 (ag (pM Cr Cn ?_))));obtain ⟨Eh,Ht,F⟩:=ob F;refine dH (wA:=D) rfl rfl Cp (.inl (congrArg some rfl)) (.inr ⟨rfl,rfl⟩) Ht (dt rfl) ?_;intro DZ D0;refine pa DZ (en Fx ?_);refine sR fun _ Fy=>?_;refine pM U J (pe (i_ (Y.length:Int)) (au rfl (S.rdAt (R:=(aA (roR D R0_) 28)) 0 rfl)) (pe (.bool ((Y.length:Int) == 0)) (bA rfl rfl) (pm (.bool ((Y.length:Int) == 0)) ?_)));rcases oif F with ⟨CD,F⟩|⟨CD,F⟩
    ·refine eo CD (eo CD (eo CD (eo CD (eo CD (eo CD (eo CD (eo CD (eo CD (pe (.bool true) (az rfl CD rfl) (en Fy (ct rfl (ag (pM U J (pm C1 ?_))))))))))))));refine aq [C1] (aQ rfl (oc CQ)) (by rfl) (dt rfl) rfl (dt rfl) S (dt rfl) ?_;intro L6 L7 S JR;obtain ⟨I3,Hu,F⟩:=ob F;have EG:=S.boxRow 0 rfl;replace S:=S.t1;replace S:=S.roOne (R:=R0_) (W:=D) CQ;replace S:=S.one;refine ay rfl (dt rfl) rfl (dt rfl) S rfl rfl rfl (by simp) EG Hu (dt rfl) ?_;intro L8 Fz S;refine pa Fz (ah (bn CG (tn Cs ?_)));replace S:=S.keep 1;exact ⟨Cq,Ct,DZ,Eh,Fz,I3,Z,rfl,rfl,S,Co,D0,F⟩
    refine ei CD (pM U J (ei CD (pM U J (ei CD (pe (i_ (Y.length:Int)) (au rfl (S.rdAt (R:=(aA (roR D R0_) 28)) 0 rfl)) (ei CD ?_))))));obtain ⟨I4,Hv,F⟩:=ob F;refine pe (i_ I4) (cD rfl rfl Hv) (ei CD ?_);obtain ⟨L9,Hw,F⟩:=ob F;refine aF (wA:=Fw) rfl (S.rdAt (R:=(aA (roR D R0_) 28)) 0 rfl) rfl (dt rfl) rfl Hw (dt rfl) ?_;intro Ma JS Mb Dm Db;replace Dm:R0_.rd D _ _:=Dm;obtain ⟨I5,rfl⟩:=ax Dm;refine ei CD (pe I5 (ac rfl (Db 0 _ rfl)) (ei CD (pm C1 (ei CD ?_))));obtain ⟨FA,Hx,F⟩:=ob F;refine ec0 fX (bz (S.up Dm) (S.up CQ) Hx) (ca (ai rfl (ai rfl rfl))) S fun Mc Hy S=>?_;have Db:=ak Hy Db;refine ei CD (pe (.bool (FA != 0)) (dp rfl rfl) (pe (.bool (FA != 0)) (aC rfl CD rfl) (en Fy ?_)));rcases oif F with ⟨D1,F⟩|⟨D1,F⟩
    ·refine ct D1 (ag (pM U J (pm C1 ?_)));refine aq [C1] (aQ rfl (oc CQ)) (by rfl) (dt rfl) rfl (dt rfl) S (dt rfl) ?_;intro Md Me S Hz;have Db:=ak Hz Db;obtain ⟨I6,HA,F⟩:=ob F;have EH:=S.boxRow 0 rfl;replace S:=S.t1;replace S:=S.roOne (R:=R0_) (W:=D) CQ;replace S:=S.one;refine ay rfl (dt rfl) rfl (dt rfl) S rfl rfl rfl (by simp) EH HA (dt rfl) ?_;intro Mf FB S;refine pa FB (ah (bn CG (tn Cs ?_)));replace S:=S.keep 1;exact ⟨Cq,Ct,DZ,Eh,FB,I6,Z,rfl,rfl,S,Co,D0,F⟩
    refine cf D1 (aU (bn CG (tn Cs ?_)));replace S:=S.keep 1;exact ⟨Cq,Ct,DZ,Eh,U,Y,Z,rfl,J,S,Co,D0,F⟩
   refine cf DY ?_;refine sR fun _ I7=>?_;refine pM Cq Z ?_;obtain ⟨Mg,HB,F⟩:=ob F;refine aF (wA:=D) rfl Co rfl (dt rfl) rfl HB (dt rfl) ?_;intro Mh JT Mi CR HC;obtain ⟨C2,rfl⟩:=ax CR;refine pe C2 (ac rfl ((ak S.below HC) 0 _ rfl)) (pa C2 (en I7 (ag (pM Cq Z ?_))));obtain ⟨Ei,HD,F⟩:=ob F;refine dH (wA:=D) rfl rfl Co (.inl (congrArg some rfl)) (.inr ⟨rfl,rfl⟩) HD (dt rfl) ?_;intro D2 D3;refine pa D2 (en Fx ?_);refine sR fun _ FC=>?_;refine pM U J (pe (i_ (Y.length:Int)) (au rfl (S.rdAt (R:=(aA (roR D R0_) 28)) 0 rfl)) (pe (.bool ((Y.length:Int) == 0)) (bA rfl rfl) (pm (.bool ((Y.length:Int) == 0)) ?_)));rcases oif F with ⟨CE,F⟩|⟨CE,F⟩
   ·refine eo CE (eo CE (eo CE (eo CE (eo CE (eo CE (eo CE (eo CE (eo CE (pe (.bool true) (az rfl CE rfl) (en FC (ct rfl (ag (pM U J (pm C2 ?_))))))))))))));refine aq [C2] (aQ rfl (oc CR)) (by rfl) (dt rfl) rfl (dt rfl) S (dt rfl) ?_;intro Mj Mk S JU;obtain ⟨I8,HE,F⟩:=ob F;have EI:=S.boxRow 0 rfl;replace S:=S.t1;replace S:=S.roOne (R:=R0_) (W:=D) CR;replace S:=S.one;refine ay rfl (dt rfl) rfl (dt rfl) S rfl rfl rfl (by simp) EI HE (dt rfl) ?_;intro Ml FD S;refine pa FD (ah (bn CG (tn Cs ?_)));replace S:=S.keep 1;exact ⟨D2,Ei,Cr,Cu,FD,I8,rfl,Cn,rfl,S,D3,Cp,F⟩
   refine ei CE (pM U J (ei CE (pM U J (ei CE (pe (i_ (Y.length:Int)) (au rfl (S.rdAt (R:=(aA (roR D R0_) 28)) 0 rfl)) (ei CE ?_))))));obtain ⟨I9,HF,F⟩:=ob F;refine pe (i_ I9) (cD rfl rfl HF) (ei CE ?_);obtain ⟨Mm,HG,F⟩:=ob F;refine aF (wA:=Fw) rfl (S.rdAt (R:=(aA (roR D R0_) 28)) 0 rfl) rfl (dt rfl) rfl HG (dt rfl) ?_;intro Mn JV Mo Dn Dc;replace Dn:R0_.rd D _ _:=Dn;obtain ⟨Ja,rfl⟩:=ax Dn;refine ei CE (pe Ja (ac rfl (Dc 0 _ rfl)) (ei CE (pm C2 (ei CE ?_))));obtain ⟨FE,HH,F⟩:=ob F;refine ec0 fX (bz (S.up Dn) (S.up CR) HH) (ca (ai rfl (ai rfl rfl))) S fun Mp HI S=>?_;have Dc:=ak HI Dc;refine ei CE (pe (.bool (FE != 0)) (dp rfl rfl) (pe (.bool (FE != 0)) (aC rfl CE rfl) (en FC ?_)));rcases oif F with ⟨D4,F⟩|⟨D4,F⟩
   ·refine ct D4 (ag (pM U J (pm C2 ?_)));refine aq [C2] (aQ rfl (oc CR)) (by rfl) (dt rfl) rfl (dt rfl) S (dt rfl) ?_;intro Mq Mr S HJ;have Dc:=ak HJ Dc;obtain ⟨Jb,HK,F⟩:=ob F;have EJ:=S.boxRow 0 rfl;replace S:=S.t1;replace S:=S.roOne (R:=R0_) (W:=D) CR;replace S:=S.one;refine ay rfl (dt rfl) rfl (dt rfl) S rfl rfl rfl (by simp) EJ HK (dt rfl) ?_;intro Ms FF S;refine pa FF (ah (bn CG (tn Cs ?_)));replace S:=S.keep 1;exact ⟨D2,Ei,Cr,Cu,FF,Jb,rfl,Cn,rfl,S,D3,Cp,F⟩
   refine cf D4 (aU (bn CG (tn Cs ?_)));replace S:=S.keep 1;exact ⟨D2,Ei,Cr,Cu,U,Y,rfl,Cn,J,S,D3,Cp,F⟩
  refine cf Dj (aH (tx D6 (tx Cs ?_)));replace F:=exB F FS;refine bS HV (tn HU ?_);refine sR fun _ Jc=>?_;refine pM U J (pa U (en Jc (aj (aK rfl rfl ?_))));have hr:=Option.some.inj F;exact ⟨U,congrArg (fun (r:T1_)=>Ending.returned (U)) hr,(S.rebase FQ).below,Eq.mp (congrArg (fun (r:T1_)=>R3_.rd HX [U] r) hr :) (Cd S.below (S.rdAt (R:=(aA (roR D R0_) 28)) 0 rfl))⟩
theorem tt {w0 : World} {u0 : Value} {a0 : List T0_} (ha0 : R3_.rd w0 [u0] a0) {N : Nat} {r : T1_} (hF : fI N a0 = some r) :
    Calls Tryz.prog 108 #[u0] w0 fun e w' => ∃ (q0 : Value), e = .returned (q0) ∧ Ext w0 w' ∧ R3_.rd w' [q0] r := ss N ha0 hF
theorem dY {w0:World} {a0:Int} {u1:Value} {a1:List T0_} (ha1:R3_.rd w0 [u1] a1) {N:Nat} {r:T4_ × Bool} (F:da N a0 a1=some r): Calls Tryz.prog 58 #[i_ a0,u1] w0 fun e w'=>∃ (q0:Value),e=.returned (.tuple #[.agg #[i_ r.1.1,q0],.bool r.2])∧Sat w0 w' [Own R3_ [q0] r.1.2] := by
 unfold da at F;refine aJ Tryz.func58 rfl rfl (dt rfl) ?_;have S:=Sat.start w0;refine sR fun _ C2=>?_;refine aL S (dt rfl) ?_;intro Dl Co S Dg;refine pa (.bool false) (en C2 ?_);refine sg fun _ Cx=>?_;refine sR fun _ C3=>?_;refine pa (i_ 0) (en C3 ?_);refine bg fun _ Cy=>?_;obtain ⟨C4,hL,Cr⟩:=ob F;refine aI (fun k e w=>∃ (Z:Int),e 0=i_ a0∧e 1=u1∧e 4=.pointer (some ⟨Co,0,none⟩)∧e 6=i_ Z∧Sat w0 w [Box Co 39 [i_ 0,n_]]∧dc N k a0 a1 0 [] Z=some C4) N ?_ ?_ ?_
 ·exact ⟨0,rfl,rfl,rfl,rfl,S,hL⟩
 ·rintro e w ⟨_,_,_,_,_,_,hz⟩; exact nomatch (show none=some _ from hz)
 rintro k Dm Dn ⟨Z,Cs,Cp,Y,Cq,S,F⟩;refine gn fun _ Ct=>?_;refine sg fun _ CG=>?_;refine sR fun _ C5=>?_;refine pM (i_ Z) Cq (pM u1 Cp (pe (i_ (a1.length:Int)) (au rfl ha1) (pe (.bool (decide (Z < (a1.length:Int)))) (aM rfl rfl) (en C5 ?_))));rcases oif F with ⟨Cu,F⟩|⟨Cu,F⟩
 ·refine ct Cu (sn CG ?_);refine sg fun _ Cz=>?_;refine bg fun _ CA=>?_;refine sR fun _ CH=>?_;refine pM u1 Cp (pM (i_ Z) Cq ?_);obtain ⟨CB,CP,F⟩:=ob F;refine aF (wA:=w0) rfl ha1 rfl (dt rfl) rfl CP (dt rfl) ?_;intro Do Dh Dp CE CQ;obtain ⟨C6,rfl⟩:=ax CE;refine pe C6 (ac rfl ((ak S.below CQ) 0 _ rfl)) (pe (i_ (CB.length:Int)) (au rfl CE) (pM (i_ a0) Cs (pe (.bool ((CB.length:Int) != a0)) (dp rfl rfl) (pm (.bool ((CB.length:Int) != a0)) ?_))));rcases oif F with ⟨D,F⟩|⟨D,F⟩
  ·refine eo D (eo D (eo D (eo D (eo D (eo D (pe (.bool true) (az rfl D rfl) (en CH (ct rfl ?_))))))));refine sR fun _ C7=>?_;refine pe (.agg #[i_ 0,n_]) (bf [] [i_ 0,n_] rfl rfl) ?_;refine an (S.top 0 rfl) Y [i_ 0,n_] rfl rfl (dt rfl) (all_cons rfl (all_cons rfl rfl)) ?_;intro CI S;replace S:Sat w0 CI [Box Co 39 [i_ 0,n_]]:=S;refine pa (.bool false) (en C7 (aj (br CA (tr Cz (tr Ct (br Cy (tr Cx ?_)))))));replace F:=exL F Cr;replace S:=S.nil R0_ 28;refine c8 (cs:=[i_ 0,n_]) rfl Y rfl (aw (S.boxAt 1 rfl)) rfl ?_;have hr:=Option.some.inj F;exact ⟨n_,congrArg (fun (r:T4_ × Bool)=>Ending.returned (.tuple #[.agg #[i_ r.1.1,n_],.bool r.2])) hr,Eq.mp (congrArg (fun (r:T4_ × Bool)=>Sat w0 CI [Own R3_ [n_] r.1.2]) hr) (S.keep 1)⟩
  refine ei D (pM u1 Cp (ei D (pM (i_ Z) Cq (ei D ?_))));obtain ⟨Dq,CR,F⟩:=ob F;refine aF (wA:=w0) rfl ha1 rfl (dt rfl) rfl CR (dt rfl) ?_;intro Dr Di Ds CF CS;obtain ⟨C8,rfl⟩:=ax CF;refine ei D (pe C8 (ac rfl ((ak S.below CS) 0 _ rfl)) (ei D ?_));obtain ⟨CJ,CT,F⟩:=ob F;refine ec0 yr (ky (S.up CF) CT) (ca (ai rfl rfl)) S fun Dt Dj S=>?_;refine ei D (pe (.bool (!CJ)) (be rfl) (pe (.bool (!CJ)) (aC rfl D rfl) (en CH ?_)));rcases oif F with ⟨Cv,F⟩|⟨Cv,F⟩
  ·refine cf (am Cv) (aU (bn CA (tn Cz (ag (pM (i_ Z) Cq ?_)))));obtain ⟨CC,CU,F⟩:=ob F;refine pe (i_ CC) (aE rfl rfl CU) (pa (i_ CC) (en Ct ?_));replace S:=S.keep 1;exact ⟨CC,Cs,Cp,Y,rfl,S,F⟩
  refine ct (ap Cv) ?_;refine sR fun _ C9=>?_;refine pe (.agg #[i_ 0,n_]) (bf [] [i_ 0,n_] rfl rfl) ?_;refine an (S.top 0 rfl) Y [i_ 0,n_] rfl rfl (dt rfl) (all_cons rfl (all_cons rfl rfl)) ?_;intro CK S;replace S:Sat w0 CK [Box Co 39 [i_ 0,n_]]:=S;refine pa (.bool false) (en C9 (aj (br CA (tr Cz (tr Ct (br Cy (tr Cx ?_)))))));replace F:=exL F Cr;replace S:=S.nil R0_ 28;refine c8 (cs:=[i_ 0,n_]) rfl Y rfl (aw (S.boxAt 1 rfl)) rfl ?_;have hr:=Option.some.inj F;exact ⟨n_,congrArg (fun (r:T4_ × Bool)=>Ending.returned (.tuple #[.agg #[i_ r.1.1,n_],.bool r.2])) hr,Eq.mp (congrArg (fun (r:T4_ × Bool)=>Sat w0 CK [Own R3_ [n_] r.1.2]) hr) (S.keep 1)⟩
 refine cf Cu (aH (tx CG (tx Ct ?_)));replace F:=exA F Cr;refine bS Cy (tn Cx ?_);refine sR fun _ Da=>?_;refine pM (i_ a0) Cs (pM u1 Cp ?_);obtain ⟨Du,CV,F⟩:=ob F;refine bb tB (tt (S.up ha1) CV) (ca (ai rfl rfl)) (dt rfl) ?_;rintro _ Dv ⟨CD,rfl,CX,Cn⟩;refine ⟨_,rfl,?_⟩;replace S:=S.ext CX;refine pe (.agg #[i_ a0,CD]) (bf [(0,[i_ a0]),(1,[CD])] [i_ a0,CD] (cM rfl (cM (aQ rfl (oc Cn)) rfl)) rfl) ?_;obtain ⟨U,CY,F⟩:=ob F;refine ec1 wv (ox Cn CY) (ca (ai rfl rfl)) S fun Dw J CZ S=>?_;have Cn:=bJ Cn CZ;refine aL S (dt rfl) ?_;intro Dx CL S C0;have Cn:=bJ Cn C0;refine an (S.top 0 rfl) rfl [i_ U.1,J] rfl rfl (dt rfl) (all_cons rfl (all_cons (oc (S.rdAt (R:=R3_) 1 rfl)) rfl)) ?_;intro Db S;replace S:Sat w0 Db [Box CL 39 [i_ U.1,J],Own R3_ [J] U.2,Box Co 39 [i_ 0,n_]]:=S;refine en Da ?_;refine sg fun _ CM=>?_;refine sR fun _ Dc=>?_;refine pe (.agg #[i_ U.1,J]) (av (cs:=[i_ U.1,J]) rfl rfl (aw (S.boxAt 0 rfl))) ?_;obtain ⟨Dd,C1,F⟩:=ob F;refine ec0 oD (dM (S.rdAt (R:=R3_) 1 rfl) C1) (ca (ai rfl rfl)) S fun Dy Dk S=>?_;refine pe (.bool (!Dd)) (be rfl) (en Dc ?_);rcases oif F with ⟨Cw,F⟩|⟨Cw,F⟩
 ·refine cf (am Cw) (sn CM ?_);refine sR fun _ De=>?_;refine pe (.agg #[i_ U.1,J]) (av (cs:=[i_ U.1,J]) rfl rfl (aw (S.boxAt 0 rfl))) ?_;refine an (S.top 2 rfl) Y [i_ U.1,J] rfl rfl (dt rfl) (all_cons rfl (all_cons (oc (S.rdAt (R:=R3_) 1 rfl)) rfl)) ?_;intro CN S;replace S:Sat w0 CN [Box Co 39 [i_ U.1,J],Box CL 39 [i_ U.1,J],Own R3_ [J] U.2]:=S;refine pa (.bool true) (en De (aj ?_));refine c8 (cs:=[i_ U.1,J]) rfl Y rfl (aw (S.boxAt 0 rfl)) rfl ?_;replace S:=S.t2;have hr:=Option.some.inj F;exact ⟨J,congrArg (fun (r:T4_ × Bool)=>Ending.returned (.tuple #[.agg #[i_ r.1.1,J],.bool r.2])) hr,Eq.mp (congrArg (fun (r:T4_ × Bool)=>Sat w0 CN [Own R3_ [J] r.1.2]) hr) (S.keep 1)⟩
 refine ct (ap Cw) ?_;refine sg fun _ Df=>?_;replace S:=S.r1.r0;refine ag (pe (.agg #[i_ 0,n_]) (bf [] [i_ 0,n_] rfl rfl) ?_);refine an (S.top 0 rfl) Y [i_ 0,n_] rfl rfl (dt rfl) (all_cons rfl (all_cons rfl rfl)) ?_;intro CO S;replace S:Sat w0 CO [Box Co 39 [i_ 0,n_]]:=S;refine pa (.bool false) (en Df (aj (tr CM ?_)));replace S:=S.nil R0_ 28;refine c8 (cs:=[i_ 0,n_]) rfl Y rfl (aw (S.boxAt 1 rfl)) rfl ?_;have hr:=Option.some.inj F;exact ⟨n_,congrArg (fun (r:T4_ × Bool)=>Ending.returned (.tuple #[.agg #[i_ r.1.1,n_],.bool r.2])) hr,Eq.mp (congrArg (fun (r:T4_ × Bool)=>Sat w0 CO [Own R3_ [n_] r.1.2]) hr) (S.keep 1)⟩
theorem s9 {w0:World} {u0:Value} {a0:List Int} {u1:Value} {a1:List Int} (ha0:R0_.rd w0 [u0] a0) (ha1:R0_.rd w0 [u1] a1) {N:Nat} {r:T0_} (F:kM N a0 a1=some r): Calls Tryz.prog 119 #[u0,u1] w0 fun e w'=>∃ (q0:Value),e=.returned (q0)∧Sat w0 w' [Own R0_ [q0] r] := by
 unfold kM at F;refine aJ Tryz.func119 rfl rfl (dt rfl) ?_;have S:=Sat.start w0;refine sR fun _ CG=>?_;refine pa n_ (en CG ?_);refine sR fun _ CH=>?_;refine aT bY S (dt rfl) ?_;intro CY Ct S CT;refine pa Ct (en CH ?_);refine sg fun _ CI=>?_;refine sR fun _ CJ=>?_;refine pa (i_ 0) (en CJ ?_);refine bg fun _ CK=>?_;obtain ⟨CL,hL,Cx⟩:=ob F;refine aI (fun k e w=>∃ (D:Value),∃ (Cn:List Int),∃ (J:Int),e 0=u0∧e 1=u1∧e 5=D∧e 6=i_ J∧Sat w0 w [Own R0_ [D] Cn]∧eE N k a0 a1 Cn J=some CL) N ?_ ?_ ?_
 ·exact ⟨Ct,[],0,rfl,rfl,rfl,rfl,S,hL⟩
 ·rintro e w ⟨_,_,_,_,_,_,_,_,hz⟩; exact nomatch (show none=some _ from hz)
 rintro k CZ CM ⟨D,Cn,J,Cq,U,Cr,Y,S,F⟩;refine gn fun _ Cu=>?_;refine sg fun _ Cv=>?_;refine sR fun _ CN=>?_;refine pM (i_ J) Y (pM u1 U (pe (i_ (a1.length:Int)) (au rfl ha1) (pe (.bool (decide (J < (a1.length:Int)))) (aM rfl rfl) (en CN ?_))));rcases oif F with ⟨Z,F⟩|⟨Z,F⟩
 ·refine ct Z (sn Cv ?_);refine sg fun _ CO=>?_;refine bg fun _ CP=>?_;refine ag (pM D Cr (pM u0 Cq (pM u1 U (pM (i_ J) Y ?_))));obtain ⟨CQ,Cy,F⟩:=ob F;refine aF (wA:=w0) rfl ha1 rfl (dt rfl) rfl Cy (dt rfl) ?_;intro C0 CU C1 Cz CA;obtain rfl:=Cz;refine pe (i_ CQ) (ac rfl ((ak S.below CA) 0 _ rfl)) ?_;obtain ⟨Co,CB,F⟩:=ob F;refine aF (wA:=w0) rfl ha0 rfl (dt rfl) rfl CB (dt rfl) ?_;intro C2 CV C3 CC CD;obtain rfl:=CC;refine pe (i_ Co) (ac rfl ((ak S.below CD) 0 _ rfl)) ?_;refine aq [i_ Co] rfl (by rfl) (dt rfl) rfl (dt rfl) S (dt rfl) ?_;intro C4 C5 S CX;obtain ⟨CR,CE,F⟩:=ob F;have Cs:=S.boxRow 0 rfl;replace S:=S.t1;replace S:=S.int Co;replace S:=S.one;refine ay rfl (dt rfl) rfl (dt rfl) S rfl rfl rfl (by simp) Cs CE (dt rfl) ?_;intro C6 Cw S;refine pa Cw (ah (bn CP (tn CO ?_)));replace S:=S.r1;refine ag (pM (i_ J) Y ?_);obtain ⟨Cp,CF,F⟩:=ob F;refine pe (i_ Cp) (aE rfl rfl CF) (pa (i_ Cp) (en Cu ?_));replace S:=S.keep 1;exact ⟨Cw,CR,Cp,Cq,U,rfl,rfl,S,F⟩
 refine cf Z (aH (tx Cv (tx Cu ?_)));replace F:=exB F Cx;refine bS CK (tn CI ?_);refine sR fun _ CS=>?_;refine pM D Cr (pa D (en CS (aj (aK rfl rfl ?_))));have hr:=Option.some.inj F;exact ⟨D,congrArg (fun (r:T0_)=>Ending.returned (D)) hr,Eq.mp (congrArg (fun (r:T0_)=>Sat w0 CM [Own R0_ [D] r]) hr) (S.keep 1)⟩
theorem nC {w0:World} {a0:Int} {u1:Value} {a1:List T0_} {u2:Value} {a2:List Int} (ha1:R3_.rd w0 [u1] a1) (ha2:R0_.rd w0 [u2] a2) {N:Nat} {r:T4_ × Bool} (F:jg N a0 a1 a2=some r): Calls Tryz.prog 71 #[.agg #[i_ a0,u1],u2] w0 fun e w'=>∃ (q0:Value),e=.returned (.tuple #[.agg #[i_ r.1.1,q0],.bool r.2])∧Sat w0 w' [Own R3_ [q0] r.1.2] := by
 unfold jg at F;refine aJ Tryz.func71 rfl rfl (dt rfl) ?_;have S:=Sat.start w0;refine sR fun _ Di=>?_;refine bl [i_ a0,u1] rfl S (dt rfl) ?_;intro DQ Cn S DG;refine aL S (dt rfl) ?_;intro DR Z S DH;refine pa (.bool false) (en Di ?_);refine sg fun _ CL=>?_;refine sR fun _ Dj=>?_;refine pa (i_ 0) (en Dj ?_);refine bg fun _ CM=>?_;obtain ⟨Dk,hL,CH⟩:=ob F;refine aI (fun k e w=>∃ (Co:Int),e 1=u2∧e 2=.pointer (some ⟨Cn,0,none⟩)∧e 4=.pointer (some ⟨Z,0,none⟩)∧e 6=i_ Co∧Sat w0 w [Box Z 39 [i_ 0,n_],Box Cn 39 [i_ a0,u1]]∧d6 N k a2 a0 a1 0 [] Co=some Dk) N ?_ ?_ ?_
 ·exact ⟨0,rfl,rfl,rfl,rfl,S,hL⟩
 ·rintro e w ⟨_,_,_,_,_,_,hz⟩; exact nomatch (show none=some _ from hz)
 rintro k DS DT ⟨Co,Cq,Cs,Y,Ct,S,F⟩;refine gn fun _ CD=>?_;refine sg fun _ CN=>?_;refine sR fun _ Dl=>?_;refine pM (i_ Co) Ct (pM u2 Cq (pe (i_ (a2.length:Int)) (au rfl ha2) (pe (.bool (decide (Co < (a2.length:Int)))) (aM rfl rfl) (en Dl ?_))));rcases oif F with ⟨Cu,F⟩|⟨Cu,F⟩
 ·refine ct Cu (sn CN ?_);refine sg fun _ CO=>?_;refine bg fun _ CP=>?_;refine sg fun _ Dm=>?_;refine bO (by kernel_rfl) (by kernel_rfl) ?_;refine qM u2 Cq (qM (i_ Co) Ct ?_);obtain ⟨Dn,C3,F⟩:=ob F;refine ba (wA:=w0) rfl ha2 rfl (dt rfl) rfl C3 (dt rfl) ?_;intro DU DI DV C4 C5;obtain rfl:=C4;refine qe (i_ Dn) (ac rfl ((ak S.below C5) 0 _ rfl)) (qe (.pointer (some ⟨Cn,0 + 0,none⟩)) (ae Cs) (qe (i_ a0) (ac rfl ((S.boxAt 1 rfl) 0 _ rfl)) ?_));obtain ⟨Do,C6,F⟩:=ob F;refine qe (i_ Do) (cD rfl rfl C6) ?_;obtain ⟨CQ,C7,F⟩:=ob F;refine c6 (.bool CQ) jU (fun w' hw'=>eb C7) (ca (ai rfl (ai rfl (ai rfl rfl)))) (dt rfl) ?_;refine qe (.bool (!CQ)) (be rfl) (bm ?_);intro DW C8;replace S:=S.ext C8;refine tn Dm ?_;rcases oif F with ⟨Cv,F⟩|⟨Cv,F⟩
  ·refine cf (am Cv) (aU (bn CP (tn CO (ag (pM (i_ Co) Ct ?_)))));obtain ⟨CE,C9,F⟩:=ob F;refine pe (i_ CE) (aE rfl rfl C9) (pa (i_ CE) (en CD ?_));replace S:=S.keep 2;exact ⟨CE,Cq,Cs,Y,rfl,S,F⟩
  refine ct (ap Cv) ?_;refine sg fun _ Dp=>?_;replace S:=S.r1;refine ag (pe (.agg #[i_ 0,n_]) (bf [] [i_ 0,n_] rfl rfl) ?_);refine an (S.top 0 rfl) Y [i_ 0,n_] rfl rfl (dt rfl) (all_cons rfl (all_cons rfl rfl)) ?_;intro CR S;replace S:Sat w0 CR [Box Z 39 [i_ 0,n_]]:=S;refine pa (.bool false) (en Dp (aj (br CP (tr CO (tr CD (br CM (tr CL ?_)))))));replace F:=exL F CH;replace S:=S.nil R0_ 28;refine c8 (cs:=[i_ 0,n_]) rfl Y rfl (aw (S.boxAt 1 rfl)) rfl ?_;have hr:=Option.some.inj F;exact ⟨n_,congrArg (fun (r:T4_ × Bool)=>Ending.returned (.tuple #[.agg #[i_ r.1.1,n_],.bool r.2])) hr,Eq.mp (congrArg (fun (r:T4_ × Bool)=>Sat w0 CR [Own R3_ [n_] r.1.2]) hr) (S.keep 1)⟩
 refine cf Cu (aH (tx CN (tx CD ?_)));replace F:=exA F CH;refine bS CM (tn CL ?_);refine sg fun _ CF=>?_;refine sR fun _ CS=>?_;refine pe (.agg #[i_ a0,u1]) (av (cs:=[i_ a0,u1]) Cs rfl (aw (S.boxAt 1 rfl))) ?_;obtain ⟨CT,Da,F⟩:=ob F;refine ec0 oD (dM (S.up ha1) Da) (ca (ai rfl rfl)) S fun DX DJ S=>?_;refine pe (.bool (!CT)) (be rfl) (pm (.bool (!CT)) ?_);rcases oif F with ⟨U,F⟩|⟨U,F⟩
 ·refine ei (am U) (pM u2 Cq (ei (am U) (pe (i_ (a2.length:Int)) (au rfl ha2) (ei (am U) (pe (.bool (decide (5 < (a2.length:Int)))) (bB rfl rfl) (pe (.bool (decide (5 < (a2.length:Int)))) (aC rfl (am U) rfl) (en CS ?_)))))));rcases oif F with ⟨Cw,F⟩|⟨Cw,F⟩
  ·refine ct Cw ?_;refine sg fun _ Dq=>?_;replace S:=S.r1;refine ag (pe (.agg #[i_ 0,n_]) (bf [] [i_ 0,n_] rfl rfl) ?_);refine an (S.top 0 rfl) Y [i_ 0,n_] rfl rfl (dt rfl) (all_cons rfl (all_cons rfl rfl)) ?_;intro CU S;replace S:Sat w0 CU [Box Z 39 [i_ 0,n_]]:=S;refine pa (.bool false) (en Dq (aj (tr CF ?_)));replace S:=S.nil R0_ 28;refine c8 (cs:=[i_ 0,n_]) rfl Y rfl (aw (S.boxAt 1 rfl)) rfl ?_;have hr:=Option.some.inj F;exact ⟨n_,congrArg (fun (r:T4_ × Bool)=>Ending.returned (.tuple #[.agg #[i_ r.1.1,n_],.bool r.2])) hr,Eq.mp (congrArg (fun (r:T4_ × Bool)=>Sat w0 CU [Own R3_ [n_] r.1.2]) hr) (S.keep 1)⟩
  refine cf Cw (sn CF ?_);refine sR fun _ Dr=>?_;refine aT R0_ S (dt rfl) ?_;intro DY CV S DK;refine pa CV (en Dr ?_);refine sg fun _ Ds=>?_;refine sR fun _ Dt=>?_;refine pa (i_ 0) (en Dt ?_);refine bg fun _ Du=>?_;obtain ⟨Dv,hL,Db⟩:=ob F;refine aI (fun k e w=>∃ (Cr:Value),∃ (Cx:List T0_),∃ (Cp:Int),e 1=u2∧e 2=.pointer (some ⟨Cn,0,none⟩)∧e 4=.pointer (some ⟨Z,0,none⟩)∧e 7=Cr∧e 8=i_ Cp∧Sat w0 w [Own R3_ [Cr] Cx,Box Z 39 [i_ 0,n_],Box Cn 39 [i_ a0,u1]]∧d8 N k a2 a0 a1 0 [] Cx Cp=some Dv) N ?_ ?_ ?_
  ·exact ⟨CV,[],0,Cq,Cs,Y,rfl,rfl,S,hL⟩
  ·rintro e w ⟨_,_,_,_,_,_,_,_,_,hz⟩; exact nomatch (show none=some _ from hz)
  rintro k DZ D0 ⟨Cr,Cx,Cp,Cy,Cz,CA,CI,CB,S,F⟩;refine gn fun _ CX=>?_;refine sg fun _ CY=>?_;refine sR fun _ Dw=>?_;refine pM (i_ Cp) CB (pe (.pointer (some ⟨Cn,0 + 1,none⟩)) (ae Cz) (pe u1 (ac rfl ((S.boxAt 2 rfl) 1 _ rfl)) (pe (i_ (a1.length:Int)) (au rfl ha1) (pe (.bool (decide (Cp < (a1.length:Int)))) (aM rfl rfl) (en Dw ?_)))));rcases oif F with ⟨CC,F⟩|⟨CC,F⟩
  ·refine ct CC (sn CY ?_);refine sg fun _ Dx=>?_;refine bg fun _ Dy=>?_;refine ag (pM Cr CI (pe (.pointer (some ⟨Cn,0 + 1,none⟩)) (ae Cz) (pe u1 (ac rfl ((S.boxAt 2 rfl) 1 _ rfl)) (pM (i_ Cp) CB ?_))));obtain ⟨D1,Dc,F⟩:=ob F;refine aF (wA:=w0) rfl ha1 rfl (dt rfl) rfl Dc (dt rfl) ?_;intro D2 DL D3 CJ Dd;obtain ⟨Dz,rfl⟩:=ax CJ;refine pe Dz (ac rfl ((ak S.below Dd) 0 _ rfl)) (pM u2 Cy ?_);obtain ⟨D4,De,F⟩:=ob F;refine ec1 AW (s9 (S.up CJ) (S.up ha2) De) (ca (ai rfl (ai rfl rfl))) S fun D5 DA DM S=>?_;refine aq [DA] (aQ rfl (oc (S.rdAt (R:=R0_) 0 rfl))) (by rfl) (dt rfl) rfl (dt rfl) S (dt rfl) ?_;intro D6 D7 S DN;obtain ⟨DB,Df,F⟩:=ob F;have CK:=S.boxRow 0 rfl;replace S:=S.t2;replace S:=S.t2;replace S:=S.one;refine ay rfl (dt rfl) rfl (dt rfl) S rfl rfl rfl (by simp) CK Df (dt rfl) ?_;intro D8 CZ S;refine pa CZ (ah (bn Dy (tn Dx ?_)));replace S:=S.r1;refine ag (pM (i_ Cp) CB ?_);obtain ⟨CG,Dg,F⟩:=ob F;refine pe (i_ CG) (aE rfl rfl Dg) (pa (i_ CG) (en CX ?_));replace S:=S.keep 3;exact ⟨CZ,DB,CG,Cy,Cz,CA,rfl,rfl,S,F⟩
  refine cf CC (aH (tx CY (tx CX ?_)));replace F:=exB F Db;refine bS Du (tn Ds ?_);refine sg fun _ DC=>?_;replace S:=S.r2;refine ag (pM u2 Cy (pe (i_ (a2.length:Int)) (au rfl ha2) (pM Cr CI ?_)));obtain ⟨D,Dh,F⟩:=ob F;refine ec1 nj (dY (S.rdAt (R:=R3_) 0 rfl) Dh) (ca (ai rfl (ai rfl rfl))) S fun D9 J DO S=>?_;refine pm (.tuple #[.agg #[i_ D.1.1,J],.bool D.2]) (pe (.agg #[i_ D.1.1,J]) (aD rfl rfl) (pe (.bool D.2) (aD rfl rfl) ?_));refine aL S (dt rfl) ?_;intro Ea C0 S DP;refine an (S.top 0 rfl) rfl [i_ D.1.1,J] rfl rfl (dt rfl) (all_cons rfl (all_cons (oc (S.rdAt (R:=R3_) 1 rfl)) rfl)) ?_;intro DD S;replace S:Sat w0 DD [Box C0 39 [i_ D.1.1,J],Own R3_ [J] D.1.2,Own R3_ [Cr] Cx,Box Z 39 [i_ 0,n_]]:=S;refine pa (.bool D.2) (en DC ?_);refine sg fun _ DE=>?_;replace S:=S.r2;refine ag (pe (.agg #[i_ D.1.1,J]) (av (cs:=[i_ D.1.1,J]) rfl rfl (aw (S.boxAt 0 rfl))) (pm (.bool D.2) ?_));refine an (S.top 2 rfl) CA [i_ D.1.1,J] rfl rfl (dt rfl) (all_cons rfl (all_cons (oc (S.rdAt (R:=R3_) 1 rfl)) rfl)) ?_;intro C1 S;replace S:Sat w0 C1 [Box Z 39 [i_ D.1.1,J],Box C0 39 [i_ D.1.1,J],Own R3_ [J] D.1.2]:=S;refine pa (.bool D.2) (en DE (aj ?_));refine c8 (cs:=[i_ D.1.1,J]) rfl CA rfl (aw (S.boxAt 0 rfl)) rfl ?_;replace S:=S.t2;have hr:=Option.some.inj F;exact ⟨J,congrArg (fun (r:T4_ × Bool)=>Ending.returned (.tuple #[.agg #[i_ r.1.1,J],.bool r.2])) hr,Eq.mp (congrArg (fun (r:T4_ × Bool)=>Sat w0 C1 [Own R3_ [J] r.1.2]) hr) (S.keep 1)⟩
 refine eo (ap U) (eo (ap U) (eo (ap U) (pe (.bool true) (az rfl (ap U) rfl) (en CS (ct rfl ?_)))));refine sg fun _ DF=>?_;replace S:=S.r1;refine ag (pe (.agg #[i_ 0,n_]) (bf [] [i_ 0,n_] rfl rfl) ?_);refine an (S.top 0 rfl) Y [i_ 0,n_] rfl rfl (dt rfl) (all_cons rfl (all_cons rfl rfl)) ?_;intro C2 S;replace S:Sat w0 C2 [Box Z 39 [i_ 0,n_]]:=S;refine pa (.bool false) (en DF (aj (tr CF ?_)));replace S:=S.nil R0_ 28;refine c8 (cs:=[i_ 0,n_]) rfl Y rfl (aw (S.boxAt 1 rfl)) rfl ?_;have hr:=Option.some.inj F;exact ⟨n_,congrArg (fun (r:T4_ × Bool)=>Ending.returned (.tuple #[.agg #[i_ r.1.1,n_],.bool r.2])) hr,Eq.mp (congrArg (fun (r:T4_ × Bool)=>Sat w0 C2 [Own R3_ [n_] r.1.2]) hr) (S.keep 1)⟩
theorem i4 {w0:World} {a0:Int} {u1:Value} {a1:List T0_} {u2:Value} {a2:List Int} (ha1:R3_.rd w0 [u1] a1) (ha2:R0_.rd w0 [u2] a2) {N:Nat} {r:T4_ × Bool} (F:jf N a0 a1 a2=some r): Calls Tryz.prog 100 #[.agg #[i_ a0,u1],u2] w0 fun e w'=>∃ (q0:Value),e=.returned (.tuple #[.agg #[i_ r.1.1,q0],.bool r.2])∧Sat w0 w' [Own R3_ [q0] r.1.2] := by
 unfold jf at F;refine aJ Tryz.func100 rfl rfl (dt rfl) ?_;have S:=Sat.start w0;refine sR fun _ CA=>?_;refine bl [i_ a0,u1] rfl S (dt rfl) ?_;intro CN Cq S CI;refine aL S (dt rfl) ?_;intro CO Y S CJ;refine pa (.bool false) (en CA ?_);refine sg fun _ Cp=>?_;refine sR fun _ Cr=>?_;refine pm u2 ?_;obtain ⟨Cs,Cy,F⟩:=ob F;refine ec0 yH (k8 (S.up ha2) Cy) (ca (ai rfl rfl)) S fun CP CK S=>?_;refine pe (.bool (!Cs)) (be rfl) (pm (.bool (!Cs)) ?_);rcases oif F with ⟨U,F⟩|⟨U,F⟩
 ·refine ei (am U) (pm u2 (ei (am U) (pe (i_ (a2.length:Int)) (au rfl ha2) (ei (am U) (pe (.pointer (some ⟨Cq,0 + 0,none⟩)) (ae rfl) (ei (am U) (pe (i_ a0) (ac rfl ((S.boxAt 1 rfl) 0 _ rfl)) (ei (am U) (pe (.bool ((a2.length:Int) != a0)) (dp rfl rfl) (pe (.bool ((a2.length:Int) != a0)) (aC rfl (am U) rfl) (en Cr ?_)))))))))));rcases oif F with ⟨Z,F⟩|⟨Z,F⟩
  ·refine ct Z ?_;refine sg fun _ CB=>?_;replace S:=S.r1;refine ag (pe (.agg #[i_ 0,n_]) (bf [] [i_ 0,n_] rfl rfl) ?_);refine an (S.top 0 rfl) rfl [i_ 0,n_] rfl rfl (dt rfl) (all_cons rfl (all_cons rfl rfl)) ?_;intro Ct S;replace S:Sat w0 Ct [Box Y 114 [i_ 0,n_]]:=S;refine pa (.bool false) (en CB (aj (tr Cp ?_)));replace S:=S.nil R0_ 28;refine c8 (cs:=[i_ 0,n_]) rfl rfl rfl (aw (S.boxAt 1 rfl)) rfl ?_;have hr:=Option.some.inj F;exact ⟨n_,congrArg (fun (r:T4_ × Bool)=>Ending.returned (.tuple #[.agg #[i_ r.1.1,n_],.bool r.2])) hr,Eq.mp (congrArg (fun (r:T4_ × Bool)=>Sat w0 Ct [Own R3_ [n_] r.1.2]) hr) (S.keep 1)⟩
  refine cf Z (sn Cp ?_);refine sR fun _ CC=>?_;refine pe (.agg #[i_ a0,u1]) (av (cs:=[i_ a0,u1]) rfl rfl (aw (S.boxAt 1 rfl))) (pm u2 ?_);obtain ⟨D,Cz,F⟩:=ob F;refine ec1 xU (nC (S.up ha1) (S.up ha2) Cz) (ca (ai rfl (ai rfl rfl))) S fun CQ J CL S=>?_;refine pm (.tuple #[.agg #[i_ D.1.1,J],.bool D.2]) (pe (.agg #[i_ D.1.1,J]) (aD rfl rfl) (pe (.bool D.2) (aD rfl rfl) ?_));refine aL S (dt rfl) ?_;intro CR Cn S CM;refine an (S.top 0 rfl) rfl [i_ D.1.1,J] rfl rfl (dt rfl) (all_cons rfl (all_cons (oc (S.rdAt (R:=R3_) 1 rfl)) rfl)) ?_;intro CD S;replace S:Sat w0 CD [Box Cn 39 [i_ D.1.1,J],Own R3_ [J] D.1.2,Box Y 114 [i_ 0,n_],Box Cq 39 [i_ a0,u1]]:=S;refine pa (.bool D.2) (en CC ?_);refine sg fun _ Cu=>?_;refine sg fun _ CE=>?_;replace S:=S.r3;refine ag (pm (.bool D.2) (pe (.bool (!D.2)) (be rfl) (en CE ?_)));rcases oif F with ⟨Co,F⟩|⟨Co,F⟩
  ·refine cf (am Co) (sn Cu ?_);refine sR fun _ CF=>?_;refine pe (.pointer (some ⟨Cn,0 + 0,none⟩)) (ae rfl) (pe (i_ D.1.1) (ac rfl ((S.boxAt 0 rfl) 0 _ rfl)) (pe (.pointer (some ⟨Cn,0 + 1,none⟩)) (ae rfl) (pe J (ac rfl ((S.boxAt 0 rfl) 1 _ rfl)) (pe (.agg #[i_ D.1.1,J]) (bf [(0,[i_ D.1.1]),(1,[J])] [i_ D.1.1,J] (cM rfl (cM (aQ rfl (oc (S.rdAt (R:=R3_) 1 rfl))) rfl)) rfl) ?_))));refine an (S.top 2 rfl) rfl [i_ D.1.1,J] rfl rfl (dt rfl) (all_cons rfl (all_cons (oc (S.rdAt (R:=R3_) 1 rfl)) rfl)) ?_;intro Cv S;replace S:Sat w0 Cv [Box Y 114 [i_ D.1.1,J],Box Cn 39 [i_ D.1.1,J],Own R3_ [J] D.1.2]:=S;refine pa (.bool true) (en CF (aj ?_));refine c8 (cs:=[i_ D.1.1,J]) rfl rfl rfl (aw (S.boxAt 0 rfl)) rfl ?_;replace S:=S.t2;have hr:=Option.some.inj F;exact ⟨J,congrArg (fun (r:T4_ × Bool)=>Ending.returned (.tuple #[.agg #[i_ r.1.1,J],.bool r.2])) hr,Eq.mp (congrArg (fun (r:T4_ × Bool)=>Sat w0 Cv [Own R3_ [J] r.1.2]) hr) (S.keep 1)⟩
  refine ct (ap Co) ?_;refine sg fun _ CG=>?_;replace S:=S.r1.r0;refine ag (pe (.agg #[i_ 0,n_]) (bf [] [i_ 0,n_] rfl rfl) ?_);refine an (S.top 0 rfl) rfl [i_ 0,n_] rfl rfl (dt rfl) (all_cons rfl (all_cons rfl rfl)) ?_;intro Cw S;replace S:Sat w0 Cw [Box Y 114 [i_ 0,n_]]:=S;refine pa (.bool false) (en CG (aj (tr Cu ?_)));replace S:=S.nil R0_ 28;refine c8 (cs:=[i_ 0,n_]) rfl rfl rfl (aw (S.boxAt 1 rfl)) rfl ?_;have hr:=Option.some.inj F;exact ⟨n_,congrArg (fun (r:T4_ × Bool)=>Ending.returned (.tuple #[.agg #[i_ r.1.1,n_],.bool r.2])) hr,Eq.mp (congrArg (fun (r:T4_ × Bool)=>Sat w0 Cw [Own R3_ [n_] r.1.2]) hr) (S.keep 1)⟩
 refine eo (ap U) (eo (ap U) (eo (ap U) (eo (ap U) (eo (ap U) (pe (.bool true) (az rfl (ap U) rfl) (en Cr (ct rfl ?_)))))));refine sg fun _ CH=>?_;replace S:=S.r1;refine ag (pe (.agg #[i_ 0,n_]) (bf [] [i_ 0,n_] rfl rfl) ?_);refine an (S.top 0 rfl) rfl [i_ 0,n_] rfl rfl (dt rfl) (all_cons rfl (all_cons rfl rfl)) ?_;intro Cx S;replace S:Sat w0 Cx [Box Y 114 [i_ 0,n_]]:=S;refine pa (.bool false) (en CH (aj (tr Cp ?_)));replace S:=S.nil R0_ 28;refine c8 (cs:=[i_ 0,n_]) rfl rfl rfl (aw (S.boxAt 1 rfl)) rfl ?_;have hr:=Option.some.inj F;exact ⟨n_,congrArg (fun (r:T4_ × Bool)=>Ending.returned (.tuple #[.agg #[i_ r.1.1,n_],.bool r.2])) hr,Eq.mp (congrArg (fun (r:T4_ × Bool)=>Sat w0 Cx [Own R3_ [n_] r.1.2]) hr) (S.keep 1)⟩
theorem kY {w0:World} {a0:ByteArray} {u1:Value} {a1:List Int} (ha0:a0.size ≤ 9223372036854775807) (ha1:R0_.rd w0 [u1] a1) {N:Nat} {r:T0_} (F:fq N a0 a1=some r): Calls Tryz.prog 138 #[.agg #[.string a0,u1]] w0 fun e w'=>∃ (q0:Value),e=.returned (q0)∧Sat w0 w' [Own R0_ [q0] r] := by
 unfold fq at F;refine aJ Tryz.func138 rfl rfl (dt rfl) ?_;have S:=Sat.start w0;refine sR fun _ CF=>?_;refine bl [.string a0,u1] rfl S (dt rfl) ?_;intro CU Cu S CQ;refine pa n_ (en CF ?_);refine sR fun _ CG=>?_;refine aT bY S (dt rfl) ?_;intro CV Cv S CR;refine pa Cv (en CG ?_);refine sg fun _ CH=>?_;refine sR fun _ CI=>?_;refine pa (i_ 0) (en CI ?_);refine bg fun _ CJ=>?_;obtain ⟨CK,hL,CA⟩:=ob F;refine aI (fun k e w=>∃ (J:Value),∃ (Y:List Int),∃ (D:Int),e 1=.pointer (some ⟨Cu,0,none⟩)∧e 3=J∧e 4=i_ D∧Sat w0 w [Own R0_ [J] Y,Box Cu 113 [.string a0,u1]]∧cv N k a0 a1 Y D=some CK) N ?_ ?_ ?_
 ·exact ⟨Cv,[],0,rfl,rfl,rfl,S,hL⟩
 ·rintro e w ⟨_,_,_,_,_,_,_,hz⟩; exact nomatch (show none=some _ from hz)
 rintro k CX CL ⟨J,Y,D,Z,Cn,U,S,F⟩;refine gn fun _ Cq=>?_;refine sg fun _ Cw=>?_;refine sR fun _ CM=>?_;refine pM (i_ D) U (pe (.bool (decide (D < 5))) (aM rfl rfl) (en CM ?_));rcases oif F with ⟨Co,F⟩|⟨Co,F⟩
 ·refine ct Co (sn Cw ?_);refine sg fun _ Cx=>?_;refine bg fun _ Cy=>?_;refine sR fun _ CN=>?_;refine pe (.agg #[.string a0,u1]) (av (cs:=[.string a0,u1]) Z rfl (aw (S.boxAt 1 rfl))) (pM (i_ D) U ?_);obtain ⟨CY,CB,F⟩:=ob F;refine ec0 qU (fK ha0 (S.up ha1) CB) (ca (ai rfl (ai rfl rfl))) S fun CZ CS S=>?_;refine en CN ?_;rcases oif F with ⟨Cp,F⟩|⟨Cp,F⟩
  ·refine ct Cp (ag (pM J Cn (pM (i_ D) U ?_)));refine aq [i_ D] rfl (by rfl) (dt rfl) rfl (dt rfl) S (dt rfl) ?_;intro C0 C1 S CT;obtain ⟨CO,CC,F⟩:=ob F;have Ct:=S.boxRow 0 rfl;replace S:=S.t1;replace S:=S.int D;replace S:=S.one;refine ay rfl (dt rfl) rfl (dt rfl) S rfl rfl rfl (by simp) Ct CC (dt rfl) ?_;intro C2 Cz S;refine pa Cz (ah (bn Cy (tn Cx ?_)));replace S:=S.r1;refine ag (pM (i_ D) U ?_);obtain ⟨Cr,CD,F⟩:=ob F;refine pe (i_ Cr) (aE rfl rfl CD) (pa (i_ Cr) (en Cq ?_));replace S:=S.keep 2;exact ⟨Cz,CO,Cr,Z,rfl,rfl,S,F⟩
  refine cf Cp (aU (bn Cy (tn Cx (ag (pM (i_ D) U ?_)))));obtain ⟨Cs,CE,F⟩:=ob F;refine pe (i_ Cs) (aE rfl rfl CE) (pa (i_ Cs) (en Cq ?_));replace S:=S.keep 2;exact ⟨J,Y,Cs,Z,Cn,rfl,S,F⟩
 refine cf Co (aH (tx Cw (tx Cq ?_)));replace F:=exB F CA;refine bS CJ (tn CH ?_);refine sg fun _ CP=>?_;replace S:=S.r1;refine ag (pM J Cn (pa J (en CP (aj (aK rfl rfl ?_)))));have hr:=Option.some.inj F;exact ⟨J,congrArg (fun (r:T0_)=>Ending.returned (J)) hr,Eq.mp (congrArg (fun (r:T0_)=>Sat w0 CL [Own R0_ [J] r]) hr) (S.keep 1)⟩
theorem lJ {w0:World} {u0:Value} {a0:List T7_} {a1:ByteArray} {u2:Value} {a2:List Int} (ha0:bC.rd w0 [u0] a0) (ha1:a1.size ≤ 9223372036854775807) (ha2:R0_.rd w0 [u2] a2) {N:Nat} {r:Int × List T0_} (F:g9 N a0 a1 a2=some r): Calls Tryz.prog 101 #[.agg #[u0],.agg #[.string a1,u2]] w0 fun e w'=>∃ (q0:Value),e=.returned (.agg #[i_ r.1,q0])∧Sat w0 w' [Own R3_ [q0] r.2] := by
 unfold g9 at F;refine aJ Tryz.func101 rfl rfl (dt rfl) ?_;have S:=Sat.start w0;refine sR fun _ Ex=>?_;refine bl [u0] rfl S (dt rfl) ?_;intro FB Ey S Fh;refine bl [.string a1,u2] rfl S (dt rfl) ?_;intro FC Cp S Fi;refine aL S (dt rfl) ?_;intro FD Cq S Fj;refine en Ex ?_;refine sR fun _ Ez=>?_;refine pe (.agg #[.string a1,u2]) (av (cs:=[.string a1,u2]) rfl rfl (aw (S.boxAt 1 rfl))) ?_;obtain ⟨D,DY,F⟩:=ob F;refine ec1 wZ (kY ha1 (S.up ha2) DY) (ca (ai rfl rfl)) S fun FE Z Fk S=>?_;refine pa Z (en Ez ?_);refine sR fun _ EA=>?_;refine pe (.agg #[u0]) (av (cs:=[u0]) rfl rfl (aw (S.boxAt 3 rfl))) (pe (.pointer (some ⟨Cp,0 + 0,none⟩)) (ae rfl) (pe (.string a1) (ac rfl ((S.boxAt 2 rfl) 0 _ rfl)) ?_));obtain ⟨U,DZ,F⟩:=ob F;refine ec1 oL (ff (S.up ha0) ha1 DZ) (ca (ai rfl (ai rfl rfl))) S fun FF Cr Fl S=>?_;refine pm (.tuple #[.agg #[i_ U.1.1,Cr],.bool U.2]) (pe (.agg #[i_ U.1.1,Cr]) (aD rfl rfl) (pe (.bool U.2) (aD rfl rfl) ?_));refine aL S (dt rfl) ?_;intro FG Cs S Fm;refine an (S.top 0 rfl) rfl [i_ U.1.1,Cr] rfl rfl (dt rfl) (all_cons rfl (all_cons (oc (S.rdAt (R:=R3_) 1 rfl)) rfl)) ?_;intro CO S;replace S:Sat w0 CO [Box Cs 39 [i_ U.1.1,Cr],Own R3_ [Cr] U.1.2,Own R0_ [Z] D,Box Cq 39 [i_ 0,n_],Box Cp 113 [.string a1,u2],Box Ey 26 [u0]]:=S;refine pa (.bool U.2) (ah ?_);replace S:=S.t1;obtain ⟨CR,C0,S⟩:=S.frz;refine tn EA ?_;refine sg fun _ EB=>?_;replace S:=S.r5;refine ag (pm Z (pe (i_ (D.length:Int)) (au rfl (S.rdAt (R:=R0_) 2 rfl)) (pe (.agg #[i_ (D.length:Int),n_]) (bf [(0,[i_ (D.length:Int)])] [i_ (D.length:Int),n_] (cM rfl rfl) rfl) ?_)));refine aL S (dt rfl) ?_;intro FH Cu S Fn;refine an (S.top 0 rfl) rfl [i_ (D.length:Int),n_] rfl rfl (dt rfl) (all_cons rfl (all_cons rfl rfl)) ?_;intro EC S;replace S:Sat w0 EC [Box Cu 39 [i_ (D.length:Int),n_],Frz CO CR,Box Cs 39 [i_ U.1.1,Cr],Own R0_ [Z] D,Box Cq 39 [i_ 0,n_],Box Cp 113 [.string a1,u2]]:=S;refine en EB ?_;refine sg fun _ Dg=>?_;refine sR fun _ DH=>?_;refine pm (.bool U.2) (pe (.bool (!U.2)) (be rfl) (pm (.bool (!U.2)) ?_));rcases oif F with ⟨Y,F⟩|⟨Y,F⟩
 ·refine ei (am Y) (pe (.pointer (some ⟨Cs,0 + 0,none⟩)) (ae rfl) (ei (am Y) (pe (i_ U.1.1) (ac rfl ((S.boxAt 2 rfl) 0 _ rfl)) (ei (am Y) (pe (.pointer (some ⟨Cp,0 + 1,none⟩)) (ae rfl) (ei (am Y) (pe u2 (ac rfl ((S.boxAt 5 rfl) 1 _ rfl)) (ei (am Y) (pe (i_ (a2.length:Int)) (au rfl ha2) (ei (am Y) (pe (.bool (U.1.1 != (a2.length:Int))) (dp rfl rfl) (pe (.bool (U.1.1 != (a2.length:Int))) (aC rfl (am Y) rfl) (en DH ?_)))))))))))));rcases oif F with ⟨C1,F⟩|⟨C1,F⟩
  ·refine ct C1 ?_;refine sg fun _ ED=>?_;replace S:=S.r5.r3.r2.r1;refine ag (pe (.agg #[i_ (D.length:Int),n_]) (av (cs:=[i_ (D.length:Int),n_]) rfl rfl (aw (S.boxAt 0 rfl))) ?_);refine an (S.top 1 rfl) rfl [i_ (D.length:Int),n_] rfl rfl (dt rfl) (all_cons rfl (all_cons rfl rfl)) ?_;intro DI S;replace S:Sat w0 DI [Box Cq 39 [i_ (D.length:Int),n_],Box Cu 39 [i_ (D.length:Int),n_]]:=S;refine en ED (aj (tr Dg ?_));replace S:=S.nil R0_ 28;refine dQ (cs:=[i_ (D.length:Int),n_]) rfl rfl rfl (aw (S.boxAt 1 rfl))  ?_;have hr:=Option.some.inj F;exact ⟨n_,congrArg (fun (r:Int × List T0_)=>Ending.returned (.agg #[i_ r.1,n_])) hr,Eq.mp (congrArg (fun (r:Int × List T0_)=>Sat w0 DI [Own R3_ [n_] r.2]) hr) (S.keep 1)⟩
  refine cf C1 (sn Dg ?_);refine sR fun _ EE=>?_;refine aT R0_ S (dt rfl) ?_;intro FI DJ S Fo;refine pa DJ (en EE ?_);refine sg fun _ EF=>?_;refine sR fun _ EG=>?_;refine pa (i_ 0) (en EG ?_);refine bg fun _ EH=>?_;obtain ⟨EI,hL,D0⟩:=ob F;refine aI (fun k e w=>∃ (Cv:Value),∃ (Cy:List T0_),∃ (Ct:Int),e 3=.pointer (some ⟨Cp,0,none⟩)∧e 4=.pointer (some ⟨Cq,0,none⟩)∧e 5=Z∧e 6=.pointer (some ⟨Cs,0,none⟩)∧e 8=.pointer (some ⟨Cu,0,none⟩)∧e 9=Cv∧e 10=i_ Ct∧Sat w0 w [Own R3_ [Cv] Cy,Box Cu 39 [i_ (D.length:Int),n_],Frz CO CR,Box Cs 39 [i_ U.1.1,Cr],Own R0_ [Z] D,Box Cq 39 [i_ 0,n_],Box Cp 113 [.string a1,u2]]∧cK N k a1 a2 0 [] D U.1.1 U.1.2 (D.length:Int) [] Cy Ct=some EI) N ?_ ?_ ?_
  ·exact ⟨DJ,[],0,rfl,rfl,rfl,rfl,rfl,rfl,rfl,S,hL⟩
  ·rintro e w ⟨_,_,_,_,_,_,_,_,_,_,_,hz⟩; exact nomatch (show none=some _ from hz)
  rintro k FJ FK ⟨Cv,Cy,Ct,D1,CH,Dr,Ds,Dt,Du,Dv,S,F⟩;refine gn fun _ Dh=>?_;refine sg fun _ DK=>?_;refine sR fun _ EJ=>?_;refine pM (i_ Ct) Dv (pe (.pointer (some ⟨Cs,0 + 1,none⟩)) (ae Ds) (pe Cr (ac rfl ((S.boxAt 3 rfl) 1 _ rfl)) (pe (i_ (U.1.2.length:Int)) (au rfl (S.frzRd 2 rfl C0 (fun _ hq=>hq))) (pe (.bool (decide (Ct < (U.1.2.length:Int)))) (aM rfl rfl) (en EJ ?_)))));rcases oif F with ⟨C2,F⟩|⟨C2,F⟩
  ·refine ct C2 (sn DK ?_);refine sg fun _ DL=>?_;refine bg fun _ DM=>?_;refine sR fun _ EK=>?_;refine aT bY S (dt rfl) ?_;intro FL DN S Fp;refine pa DN (en EK ?_);refine sg fun _ EM=>?_;refine sR fun _ EN=>?_;refine pa (i_ 0) (en EN ?_);refine bg fun _ EO=>?_;obtain ⟨EP,hL,D2⟩:=ob F;refine aI (fun k e w=>∃ (Cw:Value),∃ (CS:List Int),∃ (CB:Int),e 3=.pointer (some ⟨Cp,0,none⟩)∧e 4=.pointer (some ⟨Cq,0,none⟩)∧e 5=Z∧e 6=.pointer (some ⟨Cs,0,none⟩)∧e 8=.pointer (some ⟨Cu,0,none⟩)∧e 9=Cv∧e 10=i_ Ct∧e 11=Cw∧e 12=i_ CB∧Sat w0 w [Own R0_ [Cw] CS,Own R3_ [Cv] Cy,Box Cu 39 [i_ (D.length:Int),n_],Frz CO CR,Box Cs 39 [i_ U.1.1,Cr],Own R0_ [Z] D,Box Cq 39 [i_ 0,n_],Box Cp 113 [.string a1,u2]]∧cR N k a1 a2 0 [] D U.1.1 U.1.2 (D.length:Int) [] Cy Ct CS CB=some EP) N ?_ ?_ ?_
   ·exact ⟨DN,[],0,D1,CH,Dr,Ds,Dt,Du,Dv,rfl,rfl,S,hL⟩
   ·rintro e w ⟨_,_,_,_,_,_,_,_,_,_,_,_,_,hz⟩; exact nomatch (show none=some _ from hz)
   rintro k FM FN ⟨Cw,CS,CB,C3,Dw,CQ,C4,Dx,Dy,C5,Dz,C6,S,F⟩;refine gn fun _ DO=>?_;refine sg fun _ DP=>?_;refine sR fun _ EQ=>?_;refine pM (i_ CB) C6 (pM Z CQ (pe (i_ (D.length:Int)) (au rfl (S.rdAt (R:=R0_) 5 rfl)) (pe (.bool (decide (CB < (D.length:Int)))) (aM rfl rfl) (en EQ ?_))));rcases oif F with ⟨C7,F⟩|⟨C7,F⟩
   ·refine ct C7 (sn DP ?_);refine sg fun _ ER=>?_;refine bg fun _ ES=>?_;obtain ⟨C,hCd⟩:∃ C:World → Prop,∀ w,C w ↔ ∃ G,Sat w0 w ([Box Cs 39 [i_ U.1.1,Cr],Box Cp 113 [.string a1,u2],Frz CO CR,Own R0_ [Z] D] ++ G):=⟨_,fun _=>Iff.rfl⟩;refine b9 [0,1,2,3,4,5,6,7,8,9,10,11,12,13,14,15,16,17] C (by kernel_rfl) ?_;intro FO D3;replace S:=S.ext D3;replace S:=S.t5.t4.t7.t6;have hC:=(hCd _).2 ⟨_,S⟩;refine aP Cw 0 rfl rfl hC (aB rfl (fun w' hw'=>by obtain ⟨_,S⟩:=(hCd _).1 hw'; exact (aW Dz))) ?_;refine aP (.pointer (some ⟨Cs,0 + 1,none⟩)) 1 rfl rfl hC (aB rfl (fun w' hw'=>by obtain ⟨_,S⟩:=(hCd _).1 hw'; exact (ae C4))) ?_;refine aP Cr 2 rfl rfl hC (aB rfl (fun w' hw'=>by obtain ⟨_,S⟩:=(hCd _).1 hw'; exact (ac rfl ((S.boxAt 0 rfl) 1 _ rfl)))) ?_;refine aP (i_ Ct) 3 rfl rfl hC (aB rfl (fun w' hw'=>by obtain ⟨_,S⟩:=(hCd _).1 hw'; exact (aW C5))) ?_;obtain ⟨FP,D4,F⟩:=ob F;refine ya (by kernel_rfl) 4 rfl hC (by kernel_rfl) (by kernel_rfl) rfl C0 rfl rfl D4 (dt rfl) ?_;intro FQ Fq FR FS DA CI CT D5;replace CI:=fun q hq=>(fun _ hq=>hq) q (CI q hq);replace CT:=(fun _ hq=>hq) _ CT;obtain ⟨ET,rfl⟩:=ax (Rep.own_rd _ DA);refine aP ET 5 rfl rfl hC (aB rfl (fun w' hw'=>by obtain ⟨_,S⟩:=(hCd _).1 hw'; exact (ac rfl ((S.frzCells 2 rfl CT D5) 0 _ rfl)))) ?_;refine aP (.pointer (some ⟨Cp,0 + 1,none⟩)) 6 rfl rfl hC (aB rfl (fun w' hw'=>by obtain ⟨_,S⟩:=(hCd _).1 hw'; exact (ae C3))) ?_;refine aP u2 7 rfl rfl hC (aB rfl (fun w' hw'=>by obtain ⟨_,S⟩:=(hCd _).1 hw'; exact (ac rfl ((S.boxAt 1 rfl) 1 _ rfl)))) ?_;refine aP Z 8 rfl rfl hC (aB rfl (fun w' hw'=>by obtain ⟨_,S⟩:=(hCd _).1 hw'; exact (aW CQ))) ?_;refine aO 9 rfl ?_;refine pM (i_ CB) C6 (ah ?_);refine ⟨fun _=>hC,?_⟩;refine aO 10 rfl ?_;obtain ⟨EU,C8,F⟩:=ob F;obtain ⟨EV,Ff,DB⟩:=bE 3 S rfl C8;refine pe (.pointer (some ⟨EV,CB.toNat * 1,none⟩)) (bq (v:=Z) rfl DB rfl C8) (ah ?_);refine ⟨fun _=>hC,?_⟩;refine aO 11 rfl ?_;refine pe (i_ EU) (ac rfl (S.ownCell 3 rfl DB C8)) (ah ?_);refine ⟨fun _=>hC,?_⟩;refine aO 12 rfl ?_;obtain ⟨FT,D6,F⟩:=ob F;refine ec0 nm (gw (S.up ha2) D6) (ca (ai rfl (ai rfl rfl))) S fun FU Fr S=>?_;refine ah ?_;have hC:=(hCd _).2 ⟨_,S⟩;refine ⟨fun _=>hC,?_⟩;refine aO 13 rfl ?_;obtain ⟨Di,D7,F⟩:=ob F;refine mD rfl DA rfl rfl D7 (dt rfl) ?_;intro FV Fs FW FX D8 De CU D9;replace De:=fun q hq=>CI q (De q hq);replace CU:=CI _ CU;obtain ⟨rfl,_⟩:=D8;refine ah ?_;refine ⟨fun _=>hC,?_⟩;refine aO 14 rfl ?_;refine pe (i_ Di) (ac rfl ((S.frzCells 2 rfl CU D9) 0 _ rfl)) (ah ?_);refine ⟨fun _=>hC,?_⟩;refine aO 15 rfl ?_;refine aq [i_ Di] rfl (by rfl) (dt rfl) rfl (dt rfl) S (dt rfl) ?_;intro FY FZ S Ft;refine ah ?_;replace S:=S.t4.t4.t4.t4;have hC:=(hCd _).2 ⟨_,S⟩;refine ⟨fun _=>hC,?_⟩;refine aO 16 rfl ?_;obtain ⟨EW,Ea,F⟩:=ob F;have DF:=S.boxRow 4 rfl;replace S:=S.t5;replace S:=S.int Di;replace S:=S.one;refine ay rfl (dt rfl) rfl (dt rfl) S rfl rfl rfl (by simp) DF Ea (dt rfl) ?_;intro F0 DQ S;refine ah ?_;replace S:=S.t4.t4.t4.t4;have hC:=(hCd _).2 ⟨_,S⟩;refine ⟨fun _=>hC,?_⟩;refine aO 17 rfl ?_;refine pa DQ (ah ?_);refine ⟨fun _=>hC,?_⟩;refine bF (by kernel_rfl) ?_;refine bn ES (tn ER ?_);replace S:=S.r5;refine ag (pM (i_ CB) C6 ?_);obtain ⟨Dj,Eb,F⟩:=ob F;refine pe (i_ Dj) (aE rfl rfl Eb) (pa (i_ Dj) (en DO ?_));replace S:=S.t1.t7.t4.t3.t4.t7.t7.t7;replace S:=S.keep 8;exact ⟨DQ,EW,Dj,C3,Dw,CQ,C4,Dx,Dy,C5,rfl,rfl,S,F⟩
   refine cf C7 (aH (tx DP (tx DO ?_)));replace F:=exB F D2;refine bS EO (tn EM ?_);refine sR fun _ EX=>?_;refine pa (.bool true) (en EX ?_);refine sg fun _ EY=>?_;refine sR fun _ EZ=>?_;refine pa (i_ 0) (en EZ ?_);refine bg fun _ E0=>?_;obtain ⟨E1,hL,Ec⟩:=ob F;refine aI (fun k e w=>∃ (CP:Bool),∃ (Cx:Int),e 3=.pointer (some ⟨Cp,0,none⟩)∧e 4=.pointer (some ⟨Cq,0,none⟩)∧e 5=Z∧e 6=.pointer (some ⟨Cs,0,none⟩)∧e 8=.pointer (some ⟨Cu,0,none⟩)∧e 9=Cv∧e 10=i_ Ct∧e 11=Cw∧e 13=.bool CP∧e 14=i_ Cx∧Sat w0 w [Own R0_ [Cw] CS,Own R3_ [Cv] Cy,Box Cu 39 [i_ (D.length:Int),n_],Frz CO CR,Box Cs 39 [i_ U.1.1,Cr],Own R0_ [Z] D,Box Cq 39 [i_ 0,n_],Box Cp 113 [.string a1,u2]]∧b7 N k a1 a2 0 [] D U.1.1 U.1.2 (D.length:Int) [] Cy Ct CS CP Cx=some E1) N ?_ ?_ ?_
   ·exact ⟨true,0,C3,Dw,CQ,C4,Dx,Dy,C5,Dz,rfl,rfl,S,hL⟩
   ·rintro e w ⟨_,_,_,_,_,_,_,_,_,_,_,_,_,hz⟩; exact nomatch (show none=some _ from hz)
   rintro k F3 F4 ⟨CP,Cx,Cz,CJ,CC,CD,CK,CL,CE,CM,DC,CF,S,F⟩;refine gn fun _ C9=>?_;refine sg fun _ DR=>?_;refine sR fun _ E2=>?_;refine pM (i_ Cx) CF (pe (.pointer (some ⟨Cp,0 + 1,none⟩)) (ae Cz) (pe u2 (ac rfl ((S.boxAt 7 rfl) 1 _ rfl)) (pe (i_ (a2.length:Int)) (au rfl ha2) (pe (.bool (decide (Cx < (a2.length:Int)))) (aM rfl rfl) (en E2 ?_)))));rcases oif F with ⟨Da,F⟩|⟨Da,F⟩
   ·refine ct Da (sn DR ?_);refine sg fun _ Dk=>?_;refine bg fun _ Dl=>?_;refine sR fun _ E3=>?_;refine pM Z CC (pe (.pointer (some ⟨Cp,0 + 1,none⟩)) (ae Cz) (pe u2 (ac rfl ((S.boxAt 7 rfl) 1 _ rfl)) (pM (i_ Cx) CF ?_)));obtain ⟨E4,Ed,F⟩:=ob F;refine aF (wA:=w0) rfl ha2 rfl (dt rfl) rfl Ed (dt rfl) ?_;intro F5 Fu F6 Ee Ef;obtain rfl:=Ee;refine pe (i_ E4) (ac rfl ((ak S.below Ef) 0 _ rfl)) ?_;obtain ⟨CG,Eg,F⟩:=ob F;refine ec0 nm (gw (S.rdAt (R:=R0_) 5 rfl) Eg) (ca (ai rfl (ai rfl rfl))) S fun F7 Fv S=>?_;refine pa (i_ CG) (en E3 ?_);refine bO (by kernel_rfl) (by kernel_rfl) ?_;refine qM (.bool CP) DC (qm (.bool CP) ?_);rcases oif F with ⟨CA,F⟩|⟨CA,F⟩
    ·refine qi CA (qm (i_ CG) (qi CA (qe (.bool (decide (0 ≤ CG))) (dR rfl rfl) (qe (.bool (decide (0 ≤ CG))) (az rfl CA rfl) (qm (.bool (decide (0 ≤ CG))) ?_)))));rcases oif F with ⟨J,F⟩|⟨J,F⟩
     ·refine qi J (qM Cw CM (qi J (qm (i_ CG) (qi J ?_))));obtain ⟨CV,Db,F⟩:=ob F;obtain ⟨E5,Fg,DD⟩:=bE 0 S rfl Db;refine qe (.pointer (some ⟨E5,CG.toNat * 1,none⟩)) (bq (v:=Cw) rfl DD rfl Db) (qi J (qe (i_ CV) (ac rfl (S.ownCell 0 rfl DD Db)) (qi J (qe (.pointer (some ⟨Cs,0 + 1,none⟩)) (ae CD) (qi J (qe Cr (ac rfl ((S.boxAt 4 rfl) 1 _ rfl)) (qi J (qM (i_ Ct) CE (qi J ?_)))))))));obtain ⟨F8,Eh,F⟩:=ob F;refine nB rfl C0 rfl rfl Eh (dt rfl) ?_;intro F9 Fw Ga Gb DE CN CX Ei;replace CN:=fun q hq=>(fun _ hq=>hq) q (CN q hq);replace CX:=(fun _ hq=>hq) _ CX;obtain ⟨E6,rfl⟩:=ax (Rep.own_rd _ DE);refine qi J (qe E6 (ac rfl ((S.frzCells 3 rfl CX Ei) 0 _ rfl)) (qi J (qM (i_ Cx) CF (qi J ?_))));obtain ⟨CY,Ej,F⟩:=ob F;refine nB rfl DE rfl rfl Ej (dt rfl) ?_;intro Gc Fx Gd Ge Ek Df CZ El;replace Df:=fun q hq=>CN q (Df q hq);replace CZ:=CN _ CZ;obtain ⟨rfl,_⟩:=Ek;refine qi J (qe (i_ CY) (ac rfl ((S.frzCells 3 rfl CZ El) 0 _ rfl)) (qi J (qe (.bool (CV == CY)) (bA rfl rfl) (qe (.bool (CV == CY)) (az rfl J rfl) (qe (.bool (CV == CY)) (df rfl) (bm ?_))))));intro Gf Em;replace S:=S.ext Em;refine bn Dl (tn Dk (ag (pM (i_ Cx) CF ?_)));obtain ⟨Dm,En,F⟩:=ob F;refine pe (i_ Dm) (aE rfl rfl En) (pa (i_ Dm) (en C9 ?_));replace S:=S.keep 8;exact ⟨(CV == CY),Dm,Cz,CJ,CC,CD,CK,CL,CE,CM,rfl,rfl,S,F⟩
     refine qo J (qo J (qo J (qo J (qo J (qo J (qo J (qo J (qo J (qo J (qo J (qo J (qo J (qe (.bool false) (aC rfl J rfl) (qe (.bool false) (df rfl) (bm ?_)))))))))))))));intro Gg Eo;replace S:=S.ext Eo;refine bn Dl (tn Dk (ag (pM (i_ Cx) CF ?_)));obtain ⟨Dn,Ep,F⟩:=ob F;refine pe (i_ Dn) (aE rfl rfl Ep) (pa (i_ Dn) (en C9 ?_));replace S:=S.keep 8;exact ⟨false,Dn,Cz,CJ,CC,CD,CK,CL,CE,CM,rfl,rfl,S,F⟩
    refine qo CA (qo CA (qe (.bool false) (aC rfl CA rfl) (qm (.bool false) (qo rfl (qo rfl (qo rfl (qo rfl (qo rfl (qo rfl (qo rfl (qo rfl (qo rfl (qo rfl (qo rfl (qo rfl (qo rfl (qe (.bool false) (aC rfl rfl rfl) (qe (.bool false) (df rfl) (bm ?_)))))))))))))))))));intro Gh Er;replace S:=S.ext Er;refine bn Dl (tn Dk (ag (pM (i_ Cx) CF ?_)));obtain ⟨Do,Es,F⟩:=ob F;refine pe (i_ Do) (aE rfl rfl Es) (pa (i_ Do) (en C9 ?_));replace S:=S.keep 8;exact ⟨false,Do,Cz,CJ,CC,CD,CK,CL,CE,CM,rfl,rfl,S,F⟩
   refine cf Da (aH (tx DR (tx C9 ?_)));replace F:=exB F Ec;refine bS E0 (tn EY ?_);refine sR fun _ E7=>?_;refine pM (.bool CP) DC (en E7 ?_);rcases oif F with ⟨Dc,F⟩|⟨Dc,F⟩
   ·refine ct Dc (ag (pM Cv CL (pM Cw CM ?_)));refine aq [Cw] (aQ rfl (oc (S.rdAt (R:=R0_) 0 rfl))) (by rfl) (dt rfl) rfl (dt rfl) S (dt rfl) ?_;intro Gi Gj S Fy;obtain ⟨E8,Et,F⟩:=ob F;have DG:=S.boxRow 0 rfl;replace S:=S.t2;replace S:=S.t2;replace S:=S.one;refine ay rfl (dt rfl) rfl (dt rfl) S rfl rfl rfl (by simp) DG Et (dt rfl) ?_;intro Gk DS S;refine pa DS (ah (bn DM (tn DL ?_)));replace S:=S.r1;refine ag (pM (i_ Ct) CE ?_);obtain ⟨Dp,Eu,F⟩:=ob F;refine pe (i_ Dp) (aE rfl rfl Eu) (pa (i_ Dp) (en Dh ?_));replace S:=S.keep 7;exact ⟨DS,E8,Dp,Cz,CJ,CC,CD,CK,rfl,rfl,S,F⟩
   refine cf Dc (aU (bn DM (tn DL ?_)));replace S:=S.r0;refine ag (pM (i_ Ct) CE ?_);obtain ⟨Dq,Ev,F⟩:=ob F;refine pe (i_ Dq) (aE rfl rfl Ev) (pa (i_ Dq) (en Dh ?_));replace S:=S.keep 7;exact ⟨Cv,Cy,Dq,Cz,CJ,CC,CD,CK,CL,rfl,S,F⟩
  refine cf C2 (aH (tx DK (tx Dh ?_)));replace F:=exB F D0;refine bS EH (tn EF ?_);refine sg fun _ E9=>?_;replace S:=S.r6.r3.r2;refine ag (pM Z Dr (pe (i_ (D.length:Int)) (au rfl (S.rdAt (R:=R0_) 2 rfl)) (pM Cv Du ?_)));obtain ⟨Cn,Ew,F⟩:=ob F;refine ec1 nj (dY (S.rdAt (R:=R3_) 0 rfl) Ew) (ca (ai rfl (ai rfl rfl))) S fun Gl Co Fz S=>?_;refine pm (.tuple #[.agg #[i_ Cn.1.1,Co],.bool Cn.2]) (pe (.agg #[i_ Cn.1.1,Co]) (aD rfl rfl) (pe (.bool Cn.2) (aD rfl rfl) ?_));refine aL S (dt rfl) ?_;intro Gm DT S FA;refine an (S.top 0 rfl) rfl [i_ Cn.1.1,Co] rfl rfl (dt rfl) (all_cons rfl (all_cons (oc (S.rdAt (R:=R3_) 1 rfl)) rfl)) ?_;intro Fa S;replace S:Sat w0 Fa [Box DT 39 [i_ Cn.1.1,Co],Own R3_ [Co] Cn.1.2,Own R3_ [Cv] Cy,Box Cu 39 [i_ (D.length:Int),n_],Own R0_ [Z] D,Box Cq 39 [i_ 0,n_]]:=S;refine pa (.bool Cn.2) (en E9 ?_);refine sg fun _ DU=>?_;refine sg fun _ Fb=>?_;replace S:=S.r4.r2;refine ag (pm (.bool Cn.2) (pe (.bool (!Cn.2)) (be rfl) (en Fb ?_)));rcases oif F with ⟨Dd,F⟩|⟨Dd,F⟩
  ·refine cf (am Dd) (sn DU ?_);refine sg fun _ Fc=>?_;replace S:=S.r2;refine ag (pe (.agg #[i_ Cn.1.1,Co]) (av (cs:=[i_ Cn.1.1,Co]) rfl rfl (aw (S.boxAt 0 rfl))) ?_);refine an (S.top 2 rfl) CH [i_ Cn.1.1,Co] rfl rfl (dt rfl) (all_cons rfl (all_cons (oc (S.rdAt (R:=R3_) 1 rfl)) rfl)) ?_;intro DV S;replace S:Sat w0 DV [Box Cq 39 [i_ Cn.1.1,Co],Box DT 39 [i_ Cn.1.1,Co],Own R3_ [Co] Cn.1.2]:=S;refine en Fc (aj ?_);refine dQ (cs:=[i_ Cn.1.1,Co]) rfl CH rfl (aw (S.boxAt 0 rfl))  ?_;replace S:=S.t2;have hr:=Option.some.inj F;exact ⟨Co,congrArg (fun (r:Int × List T0_)=>Ending.returned (.agg #[i_ r.1,Co])) hr,Eq.mp (congrArg (fun (r:Int × List T0_)=>Sat w0 DV [Own R3_ [Co] r.2]) hr) (S.keep 1)⟩
  refine ct (ap Dd) ?_;refine sg fun _ Fd=>?_;replace S:=S.r1.r0;refine ag (pe (.agg #[i_ (D.length:Int),n_]) (av (cs:=[i_ (D.length:Int),n_]) Dt rfl (aw (S.boxAt 0 rfl))) ?_);refine an (S.top 1 rfl) CH [i_ (D.length:Int),n_] rfl rfl (dt rfl) (all_cons rfl (all_cons rfl rfl)) ?_;intro DW S;replace S:Sat w0 DW [Box Cq 39 [i_ (D.length:Int),n_],Box Cu 39 [i_ (D.length:Int),n_]]:=S;refine en Fd (aj (tr DU ?_));replace S:=S.nil R0_ 28;refine dQ (cs:=[i_ (D.length:Int),n_]) rfl CH rfl (aw (S.boxAt 1 rfl))  ?_;have hr:=Option.some.inj F;exact ⟨n_,congrArg (fun (r:Int × List T0_)=>Ending.returned (.agg #[i_ r.1,n_])) hr,Eq.mp (congrArg (fun (r:Int × List T0_)=>Sat w0 DW [Own R3_ [n_] r.2]) hr) (S.keep 1)⟩
 refine eo (ap Y) (eo (ap Y) (eo (ap Y) (eo (ap Y) (eo (ap Y) (eo (ap Y) (pe (.bool true) (az rfl (ap Y) rfl) (en DH (ct rfl ?_))))))));refine sg fun _ Fe=>?_;replace S:=S.r5.r3.r2.r1;refine ag (pe (.agg #[i_ (D.length:Int),n_]) (av (cs:=[i_ (D.length:Int),n_]) rfl rfl (aw (S.boxAt 0 rfl))) ?_);refine an (S.top 1 rfl) rfl [i_ (D.length:Int),n_] rfl rfl (dt rfl) (all_cons rfl (all_cons rfl rfl)) ?_;intro DX S;replace S:Sat w0 DX [Box Cq 39 [i_ (D.length:Int),n_],Box Cu 39 [i_ (D.length:Int),n_]]:=S;refine en Fe (aj (tr Dg ?_));replace S:=S.nil R0_ 28;refine dQ (cs:=[i_ (D.length:Int),n_]) rfl rfl rfl (aw (S.boxAt 1 rfl))  ?_;have hr:=Option.some.inj F;exact ⟨n_,congrArg (fun (r:Int × List T0_)=>Ending.returned (.agg #[i_ r.1,n_])) hr,Eq.mp (congrArg (fun (r:Int × List T0_)=>Sat w0 DX [Own R3_ [n_] r.2]) hr) (S.keep 1)⟩
theorem iC {w0:World} {a0:ByteArray} {u1:Value} {a1:List Int} {u2:Value} {a2:List Int} (ha0:a0.size ≤ 9223372036854775807) (ha1:R0_.rd w0 [u1] a1) (ha2:R0_.rd w0 [u2] a2) {N:Nat} {r:T0_} (F:fJ N a0 a1 a2=some r): Calls Tryz.prog 102 #[.agg #[.string a0,u1],u2] w0 fun e w'=>∃ (q0:Value),e=.returned (q0)∧Sat w0 w' [Own R0_ [q0] r] := by
 unfold fJ at F;refine aJ Tryz.func102 rfl rfl (dt rfl) ?_;have S:=Sat.start w0;refine sR fun _ CS=>?_;refine bl [.string a0,u1] rfl S (dt rfl) ?_;intro Dd De S C6;refine pa n_ (en CS ?_);refine sR fun _ CT=>?_;refine pe (.agg #[.string a0,u1]) (av (cs:=[.string a0,u1]) rfl rfl (aw (S.boxAt 0 rfl))) ?_;obtain ⟨CB,CH,F⟩:=ob F;refine ec1 wZ (kY ha0 (S.up ha1) CH) (ca (ai rfl rfl)) S fun Df Cr C7 S=>?_;refine pa Cr (en CT ?_);refine sg fun _ CU=>?_;replace S:=S.r1;refine ag ?_;refine aT bY S (dt rfl) ?_;intro Dg CC S C8;refine pa CC (en CU ?_);refine sg fun _ CV=>?_;refine sR fun _ CX=>?_;refine pa (i_ 0) (en CX ?_);refine bg fun _ CY=>?_;obtain ⟨CZ,hL,CI⟩:=ob F;refine aI (fun k e w=>∃ (J:Value),∃ (Cq:List Int),∃ (U:Int),e 1=u2∧e 5=Cr∧e 6=J∧e 7=i_ U∧Sat w0 w [Own R0_ [J] Cq,Own R0_ [Cr] CB]∧bV N k a2 CB Cq U=some CZ) N ?_ ?_ ?_
 ·exact ⟨CC,[],0,rfl,rfl,rfl,rfl,S,hL⟩
 ·rintro e w ⟨_,_,_,_,_,_,_,_,hz⟩; exact nomatch (show none=some _ from hz)
 rintro k Dh C0 ⟨J,Cq,U,Z,Cp,Cn,Co,S,F⟩;refine gn fun _ Cs=>?_;refine sg fun _ CD=>?_;refine sR fun _ C1=>?_;refine pM (i_ U) Co (pM u2 Z (pe (i_ (a2.length:Int)) (au rfl ha2) (pe (.bool (decide (U < (a2.length:Int)))) (aM rfl rfl) (en C1 ?_))));rcases oif F with ⟨Ct,F⟩|⟨Ct,F⟩
 ·refine ct Ct (sn CD ?_);refine sg fun _ Cv=>?_;refine bg fun _ Cw=>?_;refine sR fun _ C2=>?_;refine pM Cr Cp (pM u2 Z (pM (i_ U) Co ?_));obtain ⟨C3,CJ,F⟩:=ob F;refine aF (wA:=w0) rfl ha2 rfl (dt rfl) rfl CJ (dt rfl) ?_;intro Di C9 Dj CK CL;obtain rfl:=CK;refine pe (i_ C3) (ac rfl ((ak S.below CL) 0 _ rfl)) ?_;obtain ⟨Y,CM,F⟩:=ob F;refine ec0 nm (gw (S.rdAt (R:=R0_) 1 rfl) CM) (ca (ai rfl (ai rfl rfl))) S fun Dk Da S=>?_;refine pa (i_ Y) (en C2 ?_);refine sR fun _ CE=>?_;refine pm (i_ Y) (pe (.bool (decide (0 ≤ Y))) (dR rfl rfl) (pm (.bool (decide (0 ≤ Y))) ?_));rcases oif F with ⟨D,F⟩|⟨D,F⟩
  ·refine ei D (pM J Cn (ei D (pm (i_ Y) (ei D ?_))));obtain ⟨CF,CN,F⟩:=ob F;refine ec0 nm (gw (S.rdAt (R:=R0_) 0 rfl) CN) (ca (ai rfl (ai rfl rfl))) S fun Dl Db S=>?_;refine ei D (pe (.bool (decide (CF < 0))) (aM rfl rfl) (pe (.bool (decide (CF < 0))) (az rfl D rfl) (en CE ?_)));rcases oif F with ⟨Cu,F⟩|⟨Cu,F⟩
   ·refine ct Cu (ag (pM J Cn (pm (i_ Y) ?_)));refine aq [i_ Y] rfl (by rfl) (dt rfl) rfl (dt rfl) S (dt rfl) ?_;intro Dm Dn S Dc;obtain ⟨C4,CO,F⟩:=ob F;have CA:=S.boxRow 0 rfl;replace S:=S.t1;replace S:=S.int Y;replace S:=S.one;refine ay rfl (dt rfl) rfl (dt rfl) S rfl rfl rfl (by simp) CA CO (dt rfl) ?_;intro Do CG S;refine pa CG (ah (bn Cw (tn Cv ?_)));replace S:=S.r1;refine ag (pM (i_ U) Co ?_);obtain ⟨Cx,CP,F⟩:=ob F;refine pe (i_ Cx) (aE rfl rfl CP) (pa (i_ Cx) (en Cs ?_));replace S:=S.keep 2;exact ⟨CG,C4,Cx,Z,Cp,rfl,rfl,S,F⟩
   refine cf Cu (aU (bn Cw (tn Cv (ag (pM (i_ U) Co ?_)))));obtain ⟨Cy,CQ,F⟩:=ob F;refine pe (i_ Cy) (aE rfl rfl CQ) (pa (i_ Cy) (en Cs ?_));replace S:=S.keep 2;exact ⟨J,Cq,Cy,Z,Cp,Cn,rfl,S,F⟩
  refine eo D (eo D (eo D (eo D (pe (.bool false) (aC rfl D rfl) (en CE (cf rfl (aU (bn Cw (tn Cv (ag (pM (i_ U) Co ?_)))))))))));obtain ⟨Cz,CR,F⟩:=ob F;refine pe (i_ Cz) (aE rfl rfl CR) (pa (i_ Cz) (en Cs ?_));replace S:=S.keep 2;exact ⟨J,Cq,Cz,Z,Cp,Cn,rfl,S,F⟩
 refine cf Ct (aH (tx CD (tx Cs ?_)));replace F:=exB F CI;refine bS CY (tn CV ?_);refine sg fun _ C5=>?_;replace S:=S.r1;refine ag (pM J Cn (pa J (en C5 (aj (aK rfl rfl ?_)))));have hr:=Option.some.inj F;exact ⟨J,congrArg (fun (r:T0_)=>Ending.returned (J)) hr,Eq.mp (congrArg (fun (r:T0_)=>Sat w0 C0 [Own R0_ [J] r]) hr) (S.keep 1)⟩
theorem qR {w0:World} {u0:Value} {a0:List T7_} {a1:Int} {u2:Value} {a2:List T3_} {u3:Value} {a3:List Int} {u4:Value} {a4:List Int} (ha0:bC.rd w0 [u0] a0) (ha2:R7_.rd w0 [u2] a2) (ha3:R0_.rd w0 [u3] a3) (ha4:R0_.rd w0 [u4] a4) {N:Nat} {r:T6_ × Bool} (F:iM N a0 a1 a2 a3 a4=some r): Calls Tryz.prog 54 #[.agg #[u0],.agg #[i_ a1,u2,u3],u4] w0 fun e w'=>∃ (q0:Value),e=.returned (.tuple #[q0,.bool r.2])∧Sat w0 w' [Own eQ [q0] r.1] := by
 unfold iM at F;refine aJ Tryz.func54 rfl rfl (dt rfl) ?_;have S:=Sat.start w0;refine sR fun _ Dy=>?_;refine bl [u0] rfl S (dt rfl) ?_;intro DY Cp S DP;refine bl [i_ a1,u2,u3] rfl S (dt rfl) ?_;intro DZ Cn S DQ;refine pa n_ (pa (.bool false) (en Dy ?_));refine sR fun _ Dz=>?_;refine aT R6_ S (dt rfl) ?_;intro D0 Co S DR;refine pa Co (en Dz ?_);refine sg fun _ CN=>?_;refine sR fun _ CY=>?_;refine pe (.agg #[u0]) (av (cs:=[u0]) rfl rfl (aw (S.boxAt 2 rfl))) (pe (.agg #[i_ a1,u2,u3]) (av (cs:=[i_ a1,u2,u3]) rfl rfl (aw (S.boxAt 1 rfl))) ?_);obtain ⟨CZ,Dd,F⟩:=ob F;refine ec0 vL (j9 (S.up ha0) (S.up ha2) (S.up ha3) Dd) (ca (ai rfl (ai rfl rfl))) S fun DA DS S=>?_;refine pe (.bool (!CZ)) (be rfl) (pm (.bool (!CZ)) ?_);rcases oif F with ⟨Z,F⟩|⟨Z,F⟩
 ·refine ei (am Z) (pe (.agg #[i_ a1,u2,u3]) (av (cs:=[i_ a1,u2,u3]) rfl rfl (aw (S.boxAt 1 rfl))) (ei (am Z) (pm u4 (ei (am Z) ?_))));obtain ⟨C0,De,F⟩:=ob F;refine ec0 Bn (pz (S.up ha2) (S.up ha3) (S.up ha4) De) (ca (ai rfl (ai rfl rfl))) S fun DB DT S=>?_;refine ei (am Z) (pe (.bool (!C0)) (be rfl) (pe (.bool (!C0)) (aC rfl (am Z) rfl) (en CY ?_)));rcases oif F with ⟨CC,F⟩|⟨CC,F⟩
  ·refine cf (am CC) (sn CN ?_);refine sg fun _ C1=>?_;refine sR fun _ DC=>?_;refine pa (i_ 0) (en DC ?_);refine bg fun _ C2=>?_;obtain ⟨DD,hL,CS⟩:=ob F;refine aI (fun k e w=>∃ (U:Value),∃ (Ct:List T4_),∃ (Cq:Int),e 2=u4∧e 3=.pointer (some ⟨Cp,0,none⟩)∧e 4=.pointer (some ⟨Cn,0,none⟩)∧e 8=U∧e 9=i_ Cq∧Sat w0 w [Own eQ [U] Ct,Box Cn 30 [i_ a1,u2,u3],Box Cp 26 [u0]]∧du N k a4 a0 a1 a2 a3 Ct Cq=some DD) N ?_ ?_ ?_
   ·exact ⟨Co,[],0,rfl,rfl,rfl,rfl,rfl,S,hL⟩
   ·rintro e w ⟨_,_,_,_,_,_,_,_,_,hz⟩; exact nomatch (show none=some _ from hz)
   rintro k D1 DE ⟨U,Ct,Cq,Cv,Cw,Cr,Cx,Cs,S,F⟩;refine gn fun _ CO=>?_;refine sg fun _ C3=>?_;refine sR fun _ DF=>?_;refine pM (i_ Cq) Cs (pe (.pointer (some ⟨Cn,0 + 1,none⟩)) (ae Cr) (pe u2 (ac rfl ((S.boxAt 1 rfl) 1 _ rfl)) (pe (i_ (a2.length:Int)) (au rfl ha2) (pe (.bool (decide (Cq < (a2.length:Int)))) (aM rfl rfl) (en DF ?_)))));rcases oif F with ⟨CD,F⟩|⟨CD,F⟩
   ·refine ct CD (sn C3 ?_);refine sg fun _ C4=>?_;refine bg fun _ C5=>?_;refine sg fun _ DG=>?_;obtain ⟨C6,Df,F⟩:=ob F;obtain ⟨C7,Dg,F⟩:=ob F;obtain ⟨CE,CT,F⟩:=ob F;obtain ⟨CF,CG,F⟩:=ob F;obtain ⟨D,Cz,F⟩:=ob F;refine j7 (fun e w=>∃ (Y:Nat),∃ (J:Value),e 2=u4∧e 3=.pointer (some ⟨Cp,0,none⟩)∧e 4=.pointer (some ⟨Cn,0,none⟩)∧e 8=U∧e 9=i_ Cq∧e 10=.pointer (some ⟨Y,0,none⟩)∧e 11=.bool D.2∧Sat w0 w [Box Cn 30 [i_ a1,u2,u3],Box Cp 26 [u0],Own eQ [U] Ct,Box Y 114 [i_ D.1.1,J],Own R3_ [J] D.1.2]) ?_ ?_
    ·obtain ⟨C,hCd⟩:∃ C:World → Prop,∀ w,C w ↔ ∃ G,Sat w0 w ([Box Cn 30 [i_ a1,u2,u3],Box Cp 26 [u0]] ++ G):=⟨_,fun _=>Iff.rfl⟩;refine b9 [0,1,2,3,4,5,6,7,8,9,10,11,12,13,14,15,16,17,18,19,20] C (by kernel_rfl) ?_;intro D2 Dh;replace S:=S.ext Dh;replace S:=S.t2.t2;have hC:=(hCd _).2 ⟨_,S⟩;refine aP (.agg #[u0]) 0 rfl rfl hC (aB rfl (fun w' hw'=>by obtain ⟨_,S⟩:=(hCd _).1 hw'; exact (av (cs:=[u0]) Cw rfl (aw (S.boxAt 1 rfl))))) ?_;refine aP (.pointer (some ⟨Cn,0 + 1,none⟩)) 1 rfl rfl hC (aB rfl (fun w' hw'=>by obtain ⟨_,S⟩:=(hCd _).1 hw'; exact (ae Cr))) ?_;refine aP u2 2 rfl rfl hC (aB rfl (fun w' hw'=>by obtain ⟨_,S⟩:=(hCd _).1 hw'; exact (ac rfl ((S.boxAt 0 rfl) 1 _ rfl)))) ?_;refine aP (i_ Cq) 3 rfl rfl hC (aB rfl (fun w' hw'=>by obtain ⟨_,S⟩:=(hCd _).1 hw'; exact (aW Cs))) ?_;refine jt (wA:=w0) (by kernel_rfl) 4 rfl hC (by kernel_rfl) (by kernel_rfl) rfl ha2 rfl (dt rfl) rfl Df (dt rfl) ?_;intro D3 DU D4 Di Dj;obtain ⟨_,_,rfl,Dk,CH⟩:=Di;obtain ⟨rfl,CU⟩:=Dk;obtain ⟨C8,rfl⟩:=ax CH;refine aP (.agg #[.string C6.1,C8]) 5 rfl rfl hC (aB rfl (fun w' hw'=>by obtain ⟨_,S⟩:=(hCd _).1 hw'; exact (av (cs:=[.string C6.1,C8]) rfl rfl (ak S.below Dj)))) ?_;refine aP (.pointer (some ⟨Cn,0 + 1,none⟩)) 7 rfl rfl hC (aB rfl (fun w' hw'=>by obtain ⟨_,S⟩:=(hCd _).1 hw'; exact (ae Cr))) ?_;refine aP u2 8 rfl rfl hC (aB rfl (fun w' hw'=>by obtain ⟨_,S⟩:=(hCd _).1 hw'; exact (ac rfl ((S.boxAt 0 rfl) 1 _ rfl)))) ?_;refine aP (i_ Cq) 9 rfl rfl hC (aB rfl (fun w' hw'=>by obtain ⟨_,S⟩:=(hCd _).1 hw'; exact (aW Cs))) ?_;refine jt (wA:=w0) (by kernel_rfl) 10 rfl hC (by kernel_rfl) (by kernel_rfl) rfl ha2 rfl (dt rfl) rfl Dg (dt rfl) ?_;intro D5 DV D6 Dl Dm;obtain ⟨_,_,rfl,Dn,CA⟩:=Dl;obtain ⟨rfl,CI⟩:=Dn;obtain ⟨C9,rfl⟩:=ax CA;refine aP (.agg #[.string C7.1,C9]) 11 rfl rfl hC (aB rfl (fun w' hw'=>by obtain ⟨_,S⟩:=(hCd _).1 hw'; exact (av (cs:=[.string C7.1,C9]) rfl rfl (ak S.below Dm)))) ?_;refine aP u4 12 rfl rfl hC (aB rfl (fun w' hw'=>by obtain ⟨_,S⟩:=(hCd _).1 hw'; exact (aW Cv))) ?_;refine eI 6 18 (by kernel_rfl) rfl rfl ?_ ?_
     ·refine ec1 wq (lJ (S.up ha0) CU (S.up CH) CT) (ca (ai rfl (ai rfl rfl))) S fun DH CB Do S=>?_;refine ah ?_;replace S:=S.t2.t2;have hC:=(hCd _).2 ⟨_,S⟩;refine ⟨fun _=>hC,?_⟩;refine eI 13 18 (by kernel_rfl) rfl rfl ?_ ?_
      ·refine ec1 tk (iC CI (S.up CA) (S.up ha4) CG) (ca (ai rfl (ai rfl rfl))) S fun Da Cy CV S=>?_;refine ah ?_;replace S:=S.t2.t2;have hC:=(hCd _).2 ⟨_,S⟩;refine ⟨fun _=>hC,?_⟩;refine eI 14 18 (by kernel_rfl) rfl rfl ?_ ?_
       ·refine ec1 q9 (i4 (S.rdAt (R:=R3_) 3 rfl) (S.rdAt (R:=R0_) 2 rfl) Cz) (ca (ai rfl (ai rfl rfl))) S fun CP J CJ S=>?_;refine ah ?_;replace S:=S.t2.t2;have hC:=(hCd _).2 ⟨_,S⟩;refine ⟨fun _=>hC,?_⟩;refine aP (.tuple #[.agg #[i_ D.1.1,J],.bool D.2]) 15 rfl rfl hC (aB rfl (fun w' hw'=>by obtain ⟨_,S⟩:=(hCd _).1 hw'; exact (aW rfl))) ?_;refine aP (.agg #[i_ D.1.1,J]) 16 rfl rfl hC (aB rfl (fun w' hw'=>by obtain ⟨_,S⟩:=(hCd _).1 hw'; exact (aD rfl rfl))) ?_;refine aP (.bool D.2) 17 rfl rfl hC (aB rfl (fun w' hw'=>by obtain ⟨_,S⟩:=(hCd _).1 hw'; exact (aD rfl rfl))) ?_;refine aO 18 rfl ?_;refine aL S (dt rfl) ?_;intro CQ Y S CK;refine ah ?_;replace S:=S.t2.t2;have hC:=(hCd _).2 ⟨_,S⟩;refine ⟨fun _=>hC,?_⟩;refine aO 19 rfl ?_;refine an (S.top 2 rfl) rfl [i_ D.1.1,J] rfl rfl (dt rfl) (all_cons rfl (all_cons (oc (S.rdAt (R:=R3_) 3 rfl)) rfl)) ?_;intro Cu S;replace S:Sat w0 Cu [Box Y 114 [i_ D.1.1,J],Box Cn 30 [i_ a1,u2,u3],Box Cp 26 [u0],Own R3_ [J] D.1.2,Own R0_ [Cy] CF,Own R3_ [CB] CE.2,Own eQ [U] Ct]:=S;refine ah ?_;replace S:=S.t2.t2;have hC:=(hCd _).2 ⟨_,S⟩;refine ⟨fun _=>hC,?_⟩;refine aO 20 rfl ?_;refine pa (.bool D.2) (ah ?_);refine ⟨fun _=>hC,?_⟩;refine bF (by kernel_rfl) ?_;replace S:=S.t3.t3.t6.t4.t4;replace S:=S.r6.r5;exact ⟨rfl,Y,J,Cv,Cw,Cr,Cx,Cs,rfl,rfl,S⟩
       refine aL S (dt rfl) ?_;intro CQ Y S CK;refine ah ?_;replace S:=S.t2.t2;have hC:=(hCd _).2 ⟨_,S⟩;refine ⟨fun _=>hC,?_⟩;refine aO 14 rfl ?_;refine ec1 q9 (i4 (S.rdAt (R:=R3_) 4 rfl) (S.rdAt (R:=R0_) 3 rfl) Cz) (ca (ai rfl (ai rfl rfl))) S fun CP J CJ S=>?_;refine ah ?_;replace S:=S.t2.t2;have hC:=(hCd _).2 ⟨_,S⟩;refine ⟨fun _=>hC,?_⟩;refine aO 15 rfl ?_;refine pm (.tuple #[.agg #[i_ D.1.1,J],.bool D.2]) (ah ?_);refine ⟨fun _=>hC,?_⟩;refine aP (.agg #[i_ D.1.1,J]) 16 rfl rfl hC (aB rfl (fun w' hw'=>by obtain ⟨_,S⟩:=(hCd _).1 hw'; exact (aD rfl rfl))) ?_;refine aP (.bool D.2) 17 rfl rfl hC (aB rfl (fun w' hw'=>by obtain ⟨_,S⟩:=(hCd _).1 hw'; exact (aD rfl rfl))) ?_;refine aO 19 rfl ?_;refine an (S.top 3 rfl) rfl [i_ D.1.1,J] rfl rfl (dt rfl) (all_cons rfl (all_cons (oc (S.rdAt (R:=R3_) 2 rfl)) rfl)) ?_;intro Cu S;replace S:Sat w0 Cu [Box Y 114 [i_ D.1.1,J],Box Cn 30 [i_ a1,u2,u3],Box Cp 26 [u0],Own R3_ [J] D.1.2,Own R0_ [Cy] CF,Own R3_ [CB] CE.2,Own eQ [U] Ct]:=S;refine ah ?_;replace S:=S.t2.t2;have hC:=(hCd _).2 ⟨_,S⟩;refine ⟨fun _=>hC,?_⟩;refine aO 20 rfl ?_;refine pa (.bool D.2) (ah ?_);refine ⟨fun _=>hC,?_⟩;refine bF (by kernel_rfl) ?_;replace S:=S.t3.t3.t6.t4.t4;replace S:=S.r6.r5;exact ⟨rfl,Y,J,Cv,Cw,Cr,Cx,Cs,rfl,rfl,S⟩
      refine aL S (dt rfl) ?_;intro CQ Y S CK;refine ah ?_;replace S:=S.t2.t2;have hC:=(hCd _).2 ⟨_,S⟩;refine ⟨fun _=>hC,?_⟩;refine aO 13 rfl ?_;refine ec1 tk (iC CI (S.up CA) (S.up ha4) CG) (ca (ai rfl (ai rfl rfl))) S fun Da Cy CV S=>?_;refine ah ?_;replace S:=S.t2.t2;have hC:=(hCd _).2 ⟨_,S⟩;refine ⟨fun _=>hC,?_⟩;refine aO 14 rfl ?_;refine ec1 q9 (i4 (S.rdAt (R:=R3_) 4 rfl) (S.rdAt (R:=R0_) 2 rfl) Cz) (ca (ai rfl (ai rfl rfl))) S fun CP J CJ S=>?_;refine ah ?_;replace S:=S.t2.t2;have hC:=(hCd _).2 ⟨_,S⟩;refine ⟨fun _=>hC,?_⟩;refine aO 15 rfl ?_;refine pm (.tuple #[.agg #[i_ D.1.1,J],.bool D.2]) (ah ?_);refine ⟨fun _=>hC,?_⟩;refine aP (.agg #[i_ D.1.1,J]) 16 rfl rfl hC (aB rfl (fun w' hw'=>by obtain ⟨_,S⟩:=(hCd _).1 hw'; exact (aD rfl rfl))) ?_;refine aP (.bool D.2) 17 rfl rfl hC (aB rfl (fun w' hw'=>by obtain ⟨_,S⟩:=(hCd _).1 hw'; exact (aD rfl rfl))) ?_;refine aO 19 rfl ?_;refine an (S.top 4 rfl) rfl [i_ D.1.1,J] rfl rfl (dt rfl) (all_cons rfl (all_cons (oc (S.rdAt (R:=R3_) 2 rfl)) rfl)) ?_;intro Cu S;replace S:Sat w0 Cu [Box Y 114 [i_ D.1.1,J],Box Cn 30 [i_ a1,u2,u3],Box Cp 26 [u0],Own R3_ [J] D.1.2,Own R0_ [Cy] CF,Own R3_ [CB] CE.2,Own eQ [U] Ct]:=S;refine ah ?_;replace S:=S.t2.t2;have hC:=(hCd _).2 ⟨_,S⟩;refine ⟨fun _=>hC,?_⟩;refine aO 20 rfl ?_;refine pa (.bool D.2) (ah ?_);refine ⟨fun _=>hC,?_⟩;refine bF (by kernel_rfl) ?_;replace S:=S.t3.t3.t6.t4.t4;replace S:=S.r6.r5;exact ⟨rfl,Y,J,Cv,Cw,Cr,Cx,Cs,rfl,rfl,S⟩
     refine aL S (dt rfl) ?_;intro CQ Y S CK;refine ah ?_;replace S:=S.t2.t2;have hC:=(hCd _).2 ⟨_,S⟩;refine ⟨fun _=>hC,?_⟩;refine aO 6 rfl ?_;refine ec1 wq (lJ (S.up ha0) CU (S.up CH) CT) (ca (ai rfl (ai rfl rfl))) S fun DH CB Do S=>?_;refine ah ?_;replace S:=S.t2.t2;have hC:=(hCd _).2 ⟨_,S⟩;refine ⟨fun _=>hC,?_⟩;refine aO 13 rfl ?_;refine ec1 tk (iC CI (S.up CA) (S.up ha4) CG) (ca (ai rfl (ai rfl rfl))) S fun Da Cy CV S=>?_;refine ah ?_;replace S:=S.t2.t2;have hC:=(hCd _).2 ⟨_,S⟩;refine ⟨fun _=>hC,?_⟩;refine aO 14 rfl ?_;refine ec1 q9 (i4 (S.rdAt (R:=R3_) 3 rfl) (S.rdAt (R:=R0_) 2 rfl) Cz) (ca (ai rfl (ai rfl rfl))) S fun CP J CJ S=>?_;refine ah ?_;replace S:=S.t2.t2;have hC:=(hCd _).2 ⟨_,S⟩;refine ⟨fun _=>hC,?_⟩;refine aO 15 rfl ?_;refine pm (.tuple #[.agg #[i_ D.1.1,J],.bool D.2]) (ah ?_);refine ⟨fun _=>hC,?_⟩;refine aP (.agg #[i_ D.1.1,J]) 16 rfl rfl hC (aB rfl (fun w' hw'=>by obtain ⟨_,S⟩:=(hCd _).1 hw'; exact (aD rfl rfl))) ?_;refine aP (.bool D.2) 17 rfl rfl hC (aB rfl (fun w' hw'=>by obtain ⟨_,S⟩:=(hCd _).1 hw'; exact (aD rfl rfl))) ?_;refine aO 19 rfl ?_;refine an (S.top 5 rfl) rfl [i_ D.1.1,J] rfl rfl (dt rfl) (all_cons rfl (all_cons (oc (S.rdAt (R:=R3_) 2 rfl)) rfl)) ?_;intro Cu S;replace S:Sat w0 Cu [Box Y 114 [i_ D.1.1,J],Box Cn 30 [i_ a1,u2,u3],Box Cp 26 [u0],Own R3_ [J] D.1.2,Own R0_ [Cy] CF,Own R3_ [CB] CE.2,Own eQ [U] Ct]:=S;refine ah ?_;replace S:=S.t2.t2;have hC:=(hCd _).2 ⟨_,S⟩;refine ⟨fun _=>hC,?_⟩;refine aO 20 rfl ?_;refine pa (.bool D.2) (ah ?_);refine ⟨fun _=>hC,?_⟩;refine bF (by kernel_rfl) ?_;replace S:=S.t3.t3.t6.t4.t4;replace S:=S.r6.r5;exact ⟨rfl,Y,J,Cv,Cw,Cr,Cx,Cs,rfl,rfl,S⟩
    rintro D7 D8 ⟨Y,J,Dp,Dq,Dr,Ds,Dt,Du,Dv,S⟩;refine tn DG ?_;refine sg fun _ Db=>?_;refine sR fun _ DI=>?_;refine pM (.bool D.2) Dv (pe (.bool (!D.2)) (be rfl) (en DI ?_));rcases oif F with ⟨CL,F⟩|⟨CL,F⟩
    ·refine cf (am CL) (sn Db (ag (pM U Ds (pe (.agg #[i_ D.1.1,J]) (av (cs:=[i_ D.1.1,J]) Du rfl (aw (S.boxAt 3 rfl))) ?_))));refine aq [i_ D.1.1,J] rfl (by rfl) (dt rfl) rfl (dt rfl) S (dt rfl) ?_;intro D9 Ea S DW;obtain ⟨DJ,Dw,F⟩:=ob F;have CX:=S.boxRow 0 rfl;replace S:=S.t3;replace S:=S.t5;replace S:=S.int D.1.1;replace S:=S.pair;replace S:=S.one;refine ay rfl (dt rfl) rfl (dt rfl) S rfl rfl rfl (by simp) CX Dw (dt rfl) ?_;intro Eb Dc S;refine pa Dc (ah (bn C5 (tn C4 ?_)));replace S:=S.r4.r1;refine ag (pM (i_ Cq) Dt ?_);obtain ⟨CR,Dx,F⟩:=ob F;refine pe (i_ CR) (aE rfl rfl Dx) (pa (i_ CR) (en CO ?_));replace S:=S.keep 3;exact ⟨Dc,DJ,CR,Dp,Dq,Dr,rfl,rfl,S,F⟩
    refine ct (ap CL) ?_;refine sg fun _ DK=>?_;replace S:=S.r4.r3.r2.r1.r0;refine ag ?_;refine aT R6_ S (dt rfl) ?_;intro DL CM S DX;refine pa CM (pa (.bool false) (en DK (aj (tr Db (br C5 (tr C4 (tr CO (br C2 (tr C1 ?_)))))))));replace F:=exL F CS;refine fb rfl rfl rfl ?_;have hr:=Option.some.inj F;exact ⟨CM,congrArg (fun (r:T6_ × Bool)=>Ending.returned (.tuple #[CM,.bool r.2])) hr,Eq.mp (congrArg (fun (r:T6_ × Bool)=>Sat w0 DL [Own eQ [CM] r.1]) hr) (S.keep 1)⟩
   refine cf CD (aH (tx C3 (tx CO ?_)));replace F:=exA F CS;refine bS C2 (tn C1 ?_);refine sg fun _ DM=>?_;replace S:=S.r2.r1;refine ag (pM U Cx (pa U (pa (.bool true) (en DM (aj (fb rfl rfl rfl ?_))))));have hr:=Option.some.inj F;exact ⟨U,congrArg (fun (r:T6_ × Bool)=>Ending.returned (.tuple #[U,.bool r.2])) hr,Eq.mp (congrArg (fun (r:T6_ × Bool)=>Sat w0 DE [Own eQ [U] r.1]) hr) (S.keep 1)⟩
  refine ct (ap CC) ?_;refine sg fun _ DN=>?_;replace S:=S.r2.r1;refine ag (pm Co (pa Co (pa (.bool false) (en DN (aj (tr CN (fb rfl rfl rfl ?_)))))));have hr:=Option.some.inj F;exact ⟨Co,congrArg (fun (r:T6_ × Bool)=>Ending.returned (.tuple #[Co,.bool r.2])) hr,Eq.mp (congrArg (fun (r:T6_ × Bool)=>Sat w0 DB [Own eQ [Co] r.1]) hr) (S.keep 1)⟩
 refine eo (ap Z) (eo (ap Z) (eo (ap Z) (eo (ap Z) (pe (.bool true) (az rfl (ap Z) rfl) (en CY (ct rfl ?_))))));refine sg fun _ DO=>?_;replace S:=S.r2.r1;refine ag (pm Co (pa Co (pa (.bool false) (en DO (aj (tr CN (fb rfl rfl rfl ?_)))))));have hr:=Option.some.inj F;exact ⟨Co,congrArg (fun (r:T6_ × Bool)=>Ending.returned (.tuple #[Co,.bool r.2])) hr,Eq.mp (congrArg (fun (r:T6_ × Bool)=>Sat w0 DA [Own eQ [Co] r.1]) hr) (S.keep 1)⟩

end Go.Proofs.YtoijldeajagjjaaGreat
