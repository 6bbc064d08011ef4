/- Plain laws: the lists of the atoms that hold the next variable. -/
import Derived.Test.YtdapplkijobjoaaGreatV1
namespace Go.Proofs.YtdapplkijobjoaaGreat
open Go.RowKit
theorem AW {A:List Nat} {k:Nat} (h:k<A.length):A.getD k 0=A[k]:=by simp [h]
def fD (atoms:List bc) (i:Nat):bc:=atoms.getD i (ByteArray.empty,[])
theorem fU {atoms:List bc} {i:Nat} (h:i<atoms.length):fD atoms i=atoms[i]:=by unfold fD;simp [h]
def lk (atoms:List bc) (v:Int) (n:Nat):List Nat:=(List.range' 0 n).filter fun i=>decide (v∈(fD atoms i).2)
def iP (atoms:List bc) (v:Int):List Nat:=lk atoms v atoms.length
def fW (vs order p:List Int) (n:Nat):List Int:=((List.range' 0 n).filter fun k=>decide (order.getD k 0∈vs)).map fun k=>p.getD k 0
def kF (vs order p:List Int):List Int:=fW vs order p p.length
def atV (ts:List be) (order:List Int) (atoms:List bc) (p:List Int) (i:Nat):List Int :=
 kP (gI ts order (fD atoms i)).1 (gI ts order (fD atoms i)).2 (kF (fD atoms i).2 order p)
def eT (ts:List be) (order:List Int) (atoms:List bc) (p:List Int):aT:=(iP atoms (order.getD p.length 0)).map (atV ts order atoms p)
theorem yA (atoms:List bc) (v:Int) (n:Nat):lk atoms v (n+1)=bif decide (v∈(fD atoms n).2) then lk atoms v n++[n] else lk atoms v n:=by
 unfold lk
 rw [List.range'_concat,List.filter_append]
 simp only [Nat.zero_add,Nat.one_mul,List.filter_cons,List.filter_nil]
 cases decide (v∈(fD atoms n).2) <;> simp
theorem rb (atoms:List bc) (v:Int) (n:Nat):(lk atoms v n).length≤n:=by
 unfold lk
 refine Nat.le_trans (List.length_filter_le _ _) ?_
 simp
theorem ki {atoms:List bc} {v:Int} {i:Nat}:i∈iP atoms v↔i<atoms.length∧v∈(fD atoms i).2:=by
 unfold iP lk
 rw [List.mem_filter,decide_eq_true_eq]
 simp
theorem jD (vs order p:List Int) (n:Nat):fW vs order p (n+1)=bif decide (order.getD n 0∈vs) then fW vs order p n++[p.getD n 0] else fW vs order p n:=by
 unfold fW
 rw [List.range'_concat,List.filter_append,List.map_append]
 simp only [Nat.zero_add,Nat.one_mul,List.filter_cons,List.filter_nil]
 cases decide (order.getD n 0∈vs) <;> simp
theorem Ak (vs order p:List Int) (n:Nat):(fW vs order p n).length≤n:=by
 unfold fW
 rw [List.length_map]
 refine Nat.le_trans (List.length_filter_le _ _) ?_
 simp
theorem y4 {ts:List be} {order:List Int} {atoms:List bc} {i:Nat} (h:i<atoms.length):ix (cC ts order atoms) (i:Int)=some (gI ts order (fD atoms i)):=by
 rw [aM (by rw [ox];exact h)]
 unfold cC
 rw [List.getElem_map,fU h]
theorem u6 {atoms:List bc} {i:Nat} (h:i<atoms.length):fD atoms i∈atoms:=by rw [fU h];exact List.getElem_mem h
theorem Ah {atoms:List bc} {i:Nat} (h:i<atoms.length):ix atoms (i:Int)=some (fD atoms i):=by rw [aM h,fU h]
theorem n8 (ts:List be) (order:List Int) (atoms:List bc) (p:List Int):(eT ts order atoms p).length≤atoms.length:=by
 unfold eT;rw [List.length_map];exact rb _ _ _
theorem gO {ts:List be} {n:Nat} {atoms:List bc} {order p:List Int} (q:QFor ts n atoms order):∀ l∈eT ts order atoms p,l.length≤16∧fO l∧∀ v∈l,0≤v∧v≤99:=by
 intro l hl
 obtain ⟨i,hi,rfl⟩:=List.mem_map.1 hl
 have hm:=u6 (ki.1 hi).1
 obtain ⟨_,_,g3,g4,_⟩:=oJ q hm
 unfold atV
 exact ⟨Nat.le_trans (tj _ _ _) g4,yz g3,wY g3⟩
theorem rQ {ts:List be} {n:Nat} {atoms:List bc} {order p:List Int} (q:QFor ts n atoms order) (hp:p.length<n):gG (eT ts order atoms p)=true:=by
 unfold gG
 rw [Bool.and_eq_true,List.all_eq_true,decide_eq_true_eq]
 refine ⟨fun l hl=>vD (gO q l hl).2.1,?_⟩
 have ho:=(gS q.os).2 (order.getD p.length 0) (by rw [aX (by rw [q.ol];exact hp)];exact List.getElem_mem _)
 obtain ⟨a,ha,hv⟩:=q.cov (order.getD p.length 0) (by omega) (by omega)
 obtain ⟨i,hi,rfl⟩:=List.getElem_of_mem ha
 unfold eT
 rw [List.length_map]
 exact List.length_pos_of_mem (ki.2 ⟨hi,by rw [fU hi];exact hv⟩)
section
variable {N:Nat}
theorem ou (hN:1073741824≤N) {n:Int} {atoms:List bc} {out:List Int} {v:Int} (ha:fj atoms) (ho:okI out) (hq:fH n atoms out=true) :
  fo N n atoms out v=some (cz (iP atoms v)):=by
 have h4:=(pf hq).2.2.2
 have h:=gK (fun k (o:List Int) i=>bM N k v n atoms out o i) atoms.length (fun i=>cz (lk atoms v i)) (cz (iP atoms v),(atoms.length:Int))
  (fun k i h=>by
   have hl:=rb atoms v i
   have hcl:=y9 (lk atoms v i)
   show bM N (k+1) v n atoms out (cz (lk atoms v i)) (i:Int)=bM N k v n atoms out (cz (lk atoms v (i+1))) ((i+1:Nat):Int)
   rw [bM,dlt h,cond_true,fQ hN ha ho,bs,hq,cond_true,aM h,bs,fN hN (oO ha h),bs,ad1 (by omega),yA,fU h]
   cases decide (v∈atoms[i].2) with
   | true =>
    rw [cond_true,cond_true,bk (by decide) (by simp;omega),bs,bs]
    unfold cz
    rw [List.map_append];rfl
   | false=>rw [cond_false,cond_false,bs])
  (fun k=>by
   show bM N (k+1) v n atoms out (cz (lk atoms v atoms.length)) (atoms.length:Int)=_
   rw [bM,dge (by omega),cond_false];rfl) N 0 (by omega) (by omega)
 have h':bM N N v n atoms out [] 0=_:=h
 unfold fo
 rw [h',bs,lpB]
theorem uS (hN:1073741824≤N) {order p vs:List Int} {s:ByteArray} (hv:okI vs) (hp:p.length≤1000) (ho:p.length≤order.length):gW N s vs order p=some (kF vs order p):=by
 have h:=gK (fun k (o:List Int) i=>cK N k order p s vs o i) p.length (fW vs order p) (kF vs order p,(p.length:Int))
  (fun k i h=>by
   have hl:=Ak vs order p i
   show cK N (k+1) order p s vs (fW vs order p i) (i:Int)=cK N k order p s vs (fW vs order p (i+1)) ((i+1:Nat):Int)
   rw [cK,dlt h,cond_true,ixD (show i<order.length by omega),bs,fN hN hv,bs,ad1 (by omega),ixD h,jD]
   cases decide (order.getD i 0∈vs) with
   | true=>rw [cond_true,cond_true,bs,bk (by decide) (by simp;omega),bs,bs]
   | false=>rw [cond_false,cond_false,bs])
  (fun k=>by
   show cK N (k+1) order p s vs (fW vs order p p.length) (p.length:Int)=_
   rw [cK,dge (by omega),cond_false];rfl) N 0 (by omega) (by omega)
 have h':cK N N order p s vs [] 0=_:=h
 unfold gW
 rw [h',bs,lpB]
theorem B5 (hN:1073741824≤N) {ts:List be} {n:Nat} {atoms:List bc} {order p:List Int} (q:QFor ts n atoms order) (ha:fj atoms) (hp:p.length<n) {i:Nat} (h:i<atoms.length) :
  gW N (fD atoms i).1 (fD atoms i).2 order p=some (kF (fD atoms i).2 order p)∧fT N (gI ts order (fD atoms i)).1 (gI ts order (fD atoms i)).2 (kF (fD atoms i).2 order p)=some (atV ts order atoms p i):=by
 have hn5:=q.n5
 have hol:=q.ol
 obtain ⟨_,_,g3,_,_⟩:=oJ q (u6 h)
 refine ⟨uS hN ?_ (by omega) (by omega),oH hN g3⟩
 rw [fU h];exact oO ha h
theorem rM {α β:Type} {xs:List α} {f:α→β} {i:Nat} (h:i<xs.length):(xs.take (i+1)).map f=(xs.take i).map f++[f xs[i]]:=by
 rw [List.take_succ_eq_append_getElem h,List.map_append];rfl
theorem xq (hN:1073741824≤N) {ts:List be} {n:Nat} {atoms:List bc} {out order p:List Int} (q:QFor ts n atoms order) (ha:fj atoms) (ho:okI out) (hq:fH (n:Int) atoms out=true) (hp:p.length<n) :
  jG N (cC ts order atoms) (n:Int) atoms out order p=some (kd (eT ts order atoms p)):=by
 have hol:=q.ol
 have h4:=q.a4
 have hil:=rb atoms (order.getD p.length 0) atoms.length
 have hcl:=y9 (iP atoms (order.getD p.length 0))
 have hil':(iP atoms (order.getD p.length 0)).length≤atoms.length:=hil
 have h:=gK (fun k (o:aT) i=>dH N k (cC ts order atoms) order p (n:Int) atoms out (cz (iP atoms (order.getD p.length 0))) o i) (iP atoms (order.getD p.length 0)).length (fun i=>((iP atoms (order.getD p.length 0)).take i).map (atV ts order atoms p)) (eT ts order atoms p,((iP atoms (order.getD p.length 0)).length:Int))
  (fun k i h=>by
   have hc:=ue h
   rw [AW h] at hc
   have hi:=(ki.1 (List.getElem_mem h)).1
   obtain ⟨o1,o2⟩:=B5 hN q ha hp hi
   show dH N (k+1) (cC ts order atoms) order p (n:Int) atoms out (cz (iP atoms (order.getD p.length 0))) (((iP atoms (order.getD p.length 0)).take i).map (atV ts order atoms p)) (i:Int)=dH N k (cC ts order atoms) order p (n:Int) atoms out (cz (iP atoms (order.getD p.length 0))) (((iP atoms (order.getD p.length 0)).take (i+1)).map (atV ts order atoms p)) ((i+1:Nat):Int)
   rw [dH,hcl,dlt h,cond_true,hc,bs,y4 hi,bs,bs,Ah hi,bs,o1,bs,o2,bs,bk (by decide) (by rw [List.length_map,List.length_take,List.length_singleton];omega),bs,ad1 (by omega),bs,rM h])
  (fun k=>by
   show dH N (k+1) (cC ts order atoms) order p (n:Int) atoms out (cz (iP atoms (order.getD p.length 0))) (((iP atoms (order.getD p.length 0)).take (iP atoms (order.getD p.length 0)).length).map (atV ts order atoms p)) ((iP atoms (order.getD p.length 0)).length:Int)=_
   rw [dH,hcl,dge (by omega),cond_false,List.take_length];rfl) N 0 (by omega) (by omega)
 have h':dH N N (cC ts order atoms) order p (n:Int) atoms out (cz (iP atoms (order.getD p.length 0))) [] 0=_:=h
 have hll:=n8 ts order atoms p
 unfold jG
 rw [ixD (show p.length<order.length by omega),bs,ou hN ha ho hq,bs,h',bs,lpB]
 show ((dZ N (eT ts order atoms p)).bind _)=_
 rw [mj hN (by omega) (fun l hl=>by have:=(gO q l hl).1;omega),bs]
end
def rx (ls:aT) (sh v:Int) (i:Nat):Bool:=((i:Int) == sh)||decide (v∈ls.getD i [])
theorem BF (ls:aT) (sh v:Int):∀ m j c,(inF ls sh v j m (c,true)).2=(List.range' j m).all (rx ls sh v):=by
 intro m
 induction m with
 | zero=>intro j c;rfl
 | succ m ih =>
  intro j c
  rw [qF,List.range'_succ,List.all_cons]
  unfold qJ rx
  by_cases e:(j:Int)=sh
  ·rw [show ((j:Int) != sh)=false by simpa using e,show ((j:Int) == sh)=true by simpa using e,Bool.and_false,cond_false,Bool.true_or,Bool.true_and]
   exact ih (j+1) c
  ·rw [show ((j:Int) != sh)=true by simpa using e,show ((j:Int) == sh)=false by simpa using e,Bool.and_true,cond_true,Bool.false_or]
   cases decide (v∈ls.getD j []) with
   | true=>rw [Bool.true_and];exact ih (j+1) (c+1)
   | false=>rw [xY];rfl
def pC (ls:aT) (sh v:Int):Bool:=(List.range' 0 ls.length).all (rx ls sh v)
theorem AR {ls:aT} {sh:Int} {vs:List Int}:∀ i,i≤vs.length →
  ((List.range' 0 i).foldl (fun s i=>pQ ls sh vs i s) ([],0)).1=(vs.take i).filter (pC ls sh)∧0≤((List.range' 0 i).foldl (fun s i=>pQ ls sh vs i s) ([],0)).2∧((List.range' 0 i).foldl (fun s i=>pQ ls sh vs i s) ([],0)).2≤((i*ls.length:Nat):Int):=by
 intro i
 induction i with
 | zero=>intro _;exact ⟨rfl,Int.le_refl _,by simp⟩
 | succ i ih =>
  intro hi
  obtain ⟨h1,h2,h3⟩:=ih (by omega)
  rw [List.range'_concat,List.foldl_append]
  simp only [Nat.zero_add,Nat.one_mul,List.foldl_cons,List.foldl_nil]
  generalize (List.range' 0 i).foldl (fun s i=>pQ ls sh vs i s) ([],0)=s at h1 h2 h3 ⊢
  have hb:=BZ ls sh (vs.getD i 0) ls.length 0 (s.2,true)
  have ha:=BF ls sh (vs.getD i 0) ls.length 0 s.2
  unfold pQ
  simp only []
  rw [List.take_succ_eq_append_getElem (by omega),List.filter_append,ha,h1,aX (by omega)]
  rw [aX (by omega)] at hb
  have hm:(((i+1)*ls.length:Nat):Int)=((i*ls.length:Nat):Int)+(ls.length:Int):=by rw [Nat.succ_mul];omega
  simp only [] at hb
  refine ⟨?_,by omega,by rw [hm];omega⟩
  show (bif pC ls sh vs[i] then _ else _)=_
  cases hc:pC ls sh vs[i] <;> simp [hc]
theorem nq {ls:aT} {B:Nat} (hB:∀ l∈ls,l.length≤B):fO (kJ ls).1∧(∀ x∈(kJ ls).1,∀ l∈ls,x∈l)∧0≤(kJ ls).2∧(kJ ls).2≤((B*ls.length:Nat):Int)∧(gG ls=true→∀ x,(∀ l∈ls,x∈l)→x∈(kJ ls).1):=by
 unfold kJ
 cases ha:gG ls with
 | false=>exact ⟨List.Pairwise.nil,by simp,Int.le_refl _,by simp only [cond_false];omega,fun h=>by cases h⟩
 | true =>
  unfold gG at ha
  rw [Bool.and_eq_true,List.all_eq_true,decide_eq_true_eq] at ha
  have hin:=yf ha.2
  have hs:(jH ls).toNat<ls.length:=by omega
  have hvm:=ga hs
  obtain ⟨h1,h2,h3⟩:=AR (ls:=ls) (sh:=jH ls) (vs:=ls.getD (jH ls).toNat []) (ls.getD (jH ls).toNat []).length (Nat.le_refl _)
  rw [List.take_length] at h1
  rw [cond_true,h1]
  have hl:=hB _ hvm
  have hmul:=Nat.mul_le_mul_right ls.length hl
  refine ⟨List.Pairwise.filter _ (oP (ha.1 _ hvm)),fun x hx l hl=>?_,h2,by omega,fun _ x hx=>?_⟩
  ·rw [List.mem_filter] at hx
   obtain ⟨i,hi,rfl⟩:=List.getElem_of_mem hl
   have h4:=hx.2
   unfold pC at h4
   rw [List.all_eq_true] at h4
   have h5:=h4 i (by simp;omega)
   unfold rx at h5
   rw [Bool.or_eq_true,beq_iff_eq,decide_eq_true_eq] at h5
   rcases h5 with h5 | h5
   ·have:(jH ls).toNat=i:=by omega
    rw [this,ee hi] at hx;exact hx.1
   ·rwa [ee hi] at h5
  ·rw [List.mem_filter]
   refine ⟨hx _ hvm,?_⟩
   unfold pC
   rw [List.all_eq_true]
   intro i hi
   have hi':i<ls.length:=by simp at hi;omega
   unfold rx
   rw [decide_eq_true (hx _ (ga hi')),Bool.or_true]
def bI (ts:List be) (order:List Int) (atoms:List bc):Nxt:=fun p=>kd (eT ts order atoms p)
def sv (ts:List be) (order:List Int) (atoms:List bc):Nxt:=fun p=>kJ (eT ts order atoms p)
theorem xn {xs:List Int} (h:fO xs):xs.Nodup:=List.Pairwise.imp (fun {a b} (hab:a<b) (e:a=b)=>by omega) h
theorem tk {ls:aT} {xs:List Int} (h:∀ l∈ls,l.length≤16∧fO l∧∀ v∈l,0≤v∧v≤99) (ha:fO xs) (hx:∀ x∈xs,∀ l∈ls,x∈l) (he:ls=[]→xs=[]):xs.length≤16∧∀ v∈xs,0≤v∧v≤99:=by
 cases ls with
 | nil=>rw [he rfl];simp
 | cons l ls =>
  obtain ⟨h1,_,h3⟩:=h l List.mem_cons_self
  refine ⟨Nat.le_trans (rz xs l (xn ha) fun x hx'=>hx x hx' l List.mem_cons_self) h1,fun v hv=>h3 v (hx v hv l List.mem_cons_self)⟩
theorem yX:(kd []).1=[]:=rfl
theorem wZ:(kJ []).1=[]:=rfl
theorem kn {ts:List be} {n:Nat} {atoms:List bc} {order:List Int} (q:QFor ts n atoms order):NxtOk (bI ts order atoms):=by
 have h4:=q.a4
 have key:=fun p=>oq (ls:=eT ts order atoms p) (B:=16) fun l hl=>(gO q l hl).1
 have com:=fun p=>tk (fun l hl=>gO q (p:=p) l hl) (key p).1 (key p).2.1 fun e=>by rw [e];exact yX
 have hll:=fun p=>n8 ts order atoms p
 refine ⟨fun p=>(com p).1,fun p=>(key p).1,fun p=>(com p).2,fun p=>(key p).2.2.1,fun p=>?_⟩
 have h1:=(key p).2.2.2.1
 have h2:=hll p
 show (kd (eT ts order atoms p)).2≤1000
 omega
theorem zE {ts:List be} {n:Nat} {atoms:List bc} {order:List Int} (q:QFor ts n atoms order):NxtOk (sv ts order atoms):=by
 have h4:=q.a4
 have key:=fun p=>nq (ls:=eT ts order atoms p) (B:=16) fun l hl=>(gO q l hl).1
 have com:=fun p=>tk (fun l hl=>gO q (p:=p) l hl) (key p).1 (key p).2.1 fun e=>by rw [e];exact wZ
 have hll:=fun p=>n8 ts order atoms p
 refine ⟨fun p=>(com p).1,fun p=>(key p).1,fun p=>(com p).2,fun p=>(key p).2.2.1,fun p=>?_⟩
 have h1:=(key p).2.2.2.1
 have h2:=hll p
 show (kJ (eT ts order atoms p)).2≤1000
 omega
theorem CP {ts:List be} {n:Nat} {atoms:List bc} {order p:List Int} (q:QFor ts n atoms order) (hp:p.length<n):∀ x,x∈(bI ts order atoms p).1↔x∈(sv ts order atoms p).1:=by
 have ha:=rQ q hp
 have k1:=oq (ls:=eT ts order atoms p) (B:=16) fun l hl=>(gO q l hl).1
 have k2:=nq (ls:=eT ts order atoms p) (B:=16) fun l hl=>(gO q l hl).1
 exact fun x=>⟨fun h=>k2.2.2.2.2 ha x (k1.2.1 x h),fun h=>k1.2.2.2.2 ha x (k2.2.1 x h)⟩
theorem vZ {α β:Type} {xs:List α} {g:α→List β} {i:Nat} (h:i<xs.length):(xs.take (i+1)).flatMap g=(xs.take i).flatMap g++g xs[i]:=by
 rw [List.take_succ_eq_append_getElem h,List.flatMap_append];simp
theorem xw {α:Type} {xs:List α} {g:α→Int} {i:Nat} (h:i<xs.length):((xs.take (i+1)).map g).sum=((xs.take i).map g).sum+g xs[i]:=by
 rw [rM h,List.sum_append];simp
theorem z0:∀ {i:Nat},i≤5→kV i≤1000000000
 | 0,_=>by decide
 | 1,_=>by decide
 | 2,_=>by decide
 | 3,_=>by decide
 | 4,_=>by decide
 | 5,_=>by decide
section
variable {N:Nat}
theorem w7 {ts:List be} {n:Nat} {atoms:List bc} {out order:List Int} (q:QFor ts n atoms order) (ha:fj atoms) (ho:okI out) (hq:fH (n:Int) atoms out=true) :
  ∀ (m:Nat) (M:Nat) (p:List Int),p.length+m=n→1073741824+m+1≤M→c4 M (cC ts order atoms) (n:Int) atoms out order p=some (bJ (bI ts order atoms) m p):=by
 have hf:=kn q
 have hn5:=q.n5
 have hol:=q.ol
 intro m
 induction m with
 | zero =>
  intro M p hp hM
  obtain ⟨M,rfl⟩:∃ K,M=K+1:=⟨M-1,by omega⟩
  rw [c4,show ((p.length:Int) == (order.length:Int))=true by simp;omega,cond_true,mu (by decide) (by omega),bs];rfl
 | succ m ih =>
  intro M p hp hM
  obtain ⟨M,rfl⟩:∃ K,M=K+1:=⟨M-1,by omega⟩
  have h0:=hf.st0 p;have h1:=hf.st1 p;have hk:=hf.len p
  rw [c4,show ((p.length:Int) == (order.length:Int))=false by simp;omega,cond_false,xq (by omega) q ha ho hq (by omega),bs]
  show ((dg (c4 M) M M (cC ts order atoms) order p (n:Int) atoms out [] ((bI ts order atoms) p).1 ((bI ts order atoms) p).2 0).bind _)=_
  have h:=gK (fun k (s:aT × Int) i=>dg (c4 M) M k (cC ts order atoms) order p (n:Int) atoms out s.1 ((bI ts order atoms) p).1 s.2 i) ((bI ts order atoms) p).1.length (fun i=>((((bI ts order atoms) p).1.take i).flatMap (fun v=>(bJ (bI ts order atoms) m (p++[v])).1),((bI ts order atoms) p).2+((((bI ts order atoms) p).1.take i).map fun v=>(bJ (bI ts order atoms) m (p++[v])).2).sum)) ((bJ (bI ts order atoms) (m+1) p).1,(bJ (bI ts order atoms) (m+1) p).2,(((bI ts order atoms) p).1.length:Int))
   (fun k i h=>by
    have hp16:16 ^ m≤16 ^ 5:=Nat.pow_le_pow_right (by decide) (by omega)
    have hw:=mZ hf m (p++[((bI ts order atoms) p).1[i]])
    have hfl:=nw (g:=fun v=>(bJ (bI ts order atoms) m (p++[v])).1) (fun v=>mZ hf m _) (((bI ts order atoms) p).1.take i)
    have hst:=mH hf m (p++[((bI ts order atoms) p).1[i]])
    have hsb:=uY (g:=fun v=>(bJ (bI ts order atoms) m (p++[v])).2) (fun v=>(mH hf m _).1) (fun v=>(mH hf m _).2) (((bI ts order atoms) p).1.take i)
    have hb:=z0 (show m≤5 by omega)
    have hb0:=sE m
    rw [List.length_take] at hfl hsb
    have hmul:=Nat.mul_le_mul (show min i ((bI ts order atoms) p).1.length≤16 by omega) hp16
    have hmul2:((min i ((bI ts order atoms) p).1.length:Nat):Int)*kV m≤16*kV m:=Int.mul_le_mul_of_nonneg_right (by omega) hb0
    show dg (c4 M) M (k+1) (cC ts order atoms) order p (n:Int) atoms out ((((bI ts order atoms) p).1.take i).flatMap (fun v=>(bJ (bI ts order atoms) m (p++[v])).1)) ((bI ts order atoms) p).1 (((bI ts order atoms) p).2+((((bI ts order atoms) p).1.take i).map fun v=>(bJ (bI ts order atoms) m (p++[v])).2).sum) (i:Int)=dg (c4 M) M k (cC ts order atoms) order p (n:Int) atoms out ((((bI ts order atoms) p).1.take (i+1)).flatMap (fun v=>(bJ (bI ts order atoms) m (p++[v])).1)) ((bI ts order atoms) p).1 (((bI ts order atoms) p).2+((((bI ts order atoms) p).1.take (i+1)).map fun v=>(bJ (bI ts order atoms) m (p++[v])).2).sum) ((i+1:Nat):Int)
    rw [dg,dlt h,cond_true,aM h,bs,mu (by decide) (by omega),bs,bk (by decide) (by simp;omega),bs,ih M (p++[((bI ts order atoms) p).1[i]]) (by rw [List.length_append,List.length_singleton];omega) (by omega),bs,bk (by decide) (by omega),bs,fR (by omega) (by omega),bs,ad1 (by omega),bs,vZ h,xw h,Int.add_assoc])
   (fun k=>by
    show dg (c4 M) M (k+1) (cC ts order atoms) order p (n:Int) atoms out ((((bI ts order atoms) p).1.take ((bI ts order atoms) p).1.length).flatMap (fun v=>(bJ (bI ts order atoms) m (p++[v])).1)) ((bI ts order atoms) p).1 (((bI ts order atoms) p).2+((((bI ts order atoms) p).1.take ((bI ts order atoms) p).1.length).map fun v=>(bJ (bI ts order atoms) m (p++[v])).2).sum) (((bI ts order atoms) p).1.length:Int)=_
    rw [dg,dge (by omega),cond_false,List.take_length];rfl) M 0 (by omega) (by omega)
  have h':dg (c4 M) M M (cC ts order atoms) order p (n:Int) atoms out [] ((bI ts order atoms) p).1 (((bI ts order atoms) p).2+0) 0=_:=h
  rw [Int.add_zero] at h'
  rw [h',bs,lpB]
end
def jY (ts:List ug):Bool:=ts.any fun t=>decide (t.2.length=0)
def okQ (ts:List be) (n:Int) (atoms:List bc) (out order:List Int):Bool:=i5 ts n atoms out&&ly n atoms out order
abbrev uj:=(Int × aT) × Int × Bool
def mK:uj:=((0,[]),0,false)
def jw (k:Int) (w:aT × Int):uj:=bif decide ((w.1.length:Int)≤4000) then ((k,w.1),w.2,true) else mK
def fE (ts:List be) (n:Int) (atoms:List bc) (out order:List Int):uj :=
 bif okQ ts n atoms out order then (bif jY (cC ts order atoms) then ((n,[]),0,true) else jw n (bJ (bI ts order atoms) n.toNat [])) else mK
theorem lL {f:Nxt} (hf:NxtOk f) {k:Nat} (hk:k≤5):fV (bJ f k []).1∧(∀ r∈(bJ f k []).1,r.length=k∧bB r=true)∧eb (bJ f k []).1:=by
 have h1:=mZ hf k []
 have hp:16 ^ k≤16 ^ 5:=Nat.pow_le_pow_right (by decide) (by omega)
 have h2:∀ r∈(bJ f k []).1,r.length=k∧bB r=true:=fun r hr=>by
  obtain ⟨s,e1,e⟩:=ku hr
  exact ⟨by rw [e1];exact e,rX hf rfl hr⟩
 exact ⟨⟨by omega,fun r hr=>⟨by have:=(h2 r hr).1;omega,fun _ _=>trivial⟩⟩,h2,tP hf k []⟩
theorem zx {f:Nxt} (hf:NxtOk f) {k:Nat} (hk:k≤5):jR (k:Int) (bJ f k []).1=((jw k (bJ f k [])).1,(jw k (bJ f k [])).2.2):=by
 obtain ⟨h1,h2,h3⟩:=lL hf hk
 rw [vO (by omega) h1.1 (fun r hr=>by have:=h2 r hr;exact ⟨by omega,this.2⟩) h3]
 unfold jw
 cases decide (((bJ f k []).1.length:Int)≤4000) <;> rfl
theorem xG {ts:List be} {n:Int} {atoms:List bc} {out order:List Int} (h:okQ ts n atoms out order=true):∃ m:Nat,n=(m:Int)∧QFor ts m atoms order∧fH n atoms out=true:=by
 unfold okQ at h
 rw [Bool.and_eq_true] at h
 obtain ⟨m,e,q⟩:=y8 h.1 h.2
 refine ⟨m,e,q,?_⟩
 have:=h.1
 unfold i5 at this
 rw [Bool.and_eq_true] at this
 exact this.1
theorem qB {α:Type} (p:α→Bool):∀ xs:List α,(xs.all fun x=>!p x)=!xs.any p
 | []=>rfl
 | x :: xs=>by rw [List.all_cons,List.any_cons,qB p xs,Bool.not_or]
section
variable {N:Nat}
theorem vJ (hN:1073741824≤N) {ts:List ug} (hl:ts.length≤1048576):hZ N ts=some (jY ts):=by
 have h:=gr (L:=fun k i=>dO N k ts i) ts.length (by omega) true (fun i=>if h:i<ts.length then !decide (ts[i].2.length=0) else true) (ts.length:Int)
  (fun k i h=>by
   show dO N (k+1) ts (i:Int)=_
   rw [dO,dlt h,cond_true,aM h,bs,show ((ts[i].2.length:Int) == 0)=decide (ts[i].2.length=0) from sV _ 0,ad1 (by omega),bs]
   simp only [dif_pos h]
   cases decide (ts[i].2.length=0) <;> rfl)
  (fun k=>by
   show dO N (k+1) ts (ts.length:Int)=_
   rw [dO,dge (by omega),cond_false]) N 0 (by omega) (by omega)
 rw [Nat.sub_zero,iW ts (fun t=>!decide (t.2.length=0)) _ (fun i hi=>by rw [dif_pos hi]),qB] at h
 have h':dO N N ts 0=some (bif !jY ts then .inr (ts.length:Int) else .inl true):=h
 unfold hZ
 rw [h',bs]
 cases jY ts <;> rfl
theorem zL (ts:List be) (n:Int) (atoms:List bc) (out order:List Int):Ag ts n atoms out order=bif okQ ts n atoms out order then (cC ts order atoms,true) else ([],false):=rfl
theorem oz (hM:1073742848≤N) {ts:List be} {n:Int} {atoms:List bc} {out order:List Int} (ht:nj ts) (ha:fj atoms) (ho:okI out) (hr:okI order):gB N ts n atoms out order=some (fE ts n atoms out order):=by
 unfold gB fE
 rw [pD hM ht ha ho hr,bs,zL]
 cases h:okQ ts n atoms out order with
 | false=>rfl
 | true =>
  obtain ⟨m,rfl,q,hq⟩:=xG h
  have h4:=q.a4
  have h5:=q.n5
  have hol:=q.ol
  rw [cond_true,cond_true]
  show ((hZ N (cC ts order atoms)).bind _)=_
  rw [vJ (by omega) (by rw [ox];omega),bs,hol]
  cases jY (cC ts order atoms) with
  | true=>rfl
  | false =>
   obtain ⟨w1,_,_⟩:=lL (kn q) h5
   rw [cond_false,cond_false]
   show ((c4 N (cC ts order atoms) (m:Int) atoms out order []).bind _)=_
   rw [w7 q ha ho hq m N [] (by simp) (by omega),bs,g8 hM w1,bs,zx (kn q) h5]
   unfold jw
   rw [show ((m:Nat):Int).toNat=m from rfl]
   cases decide (((bJ (bI ts order atoms) m []).1.length:Int)≤4000) <;> rfl
end
theorem v9 {f:Nxt} (hf:NxtOk f) {k:Nat} (hk:k≤5):(∀ r∈(jw k (bJ f k [])).1.2,r.length=k)∧eb (jw k (bJ f k [])).1.2∧(jw k (bJ f k [])).1.2.length≤4000:=by
 obtain ⟨_,h2,h3⟩:=lL hf hk
 unfold jw
 cases h:decide (((bJ f k []).1.length:Int)≤4000) with
 | false=>exact ⟨by simp [mK],List.Pairwise.nil,by simp [mK]⟩
 | true =>
  rw [decide_eq_true_eq] at h
  exact ⟨fun r hr=>(h2 r hr).1,h3,by rw [cond_true];show (bJ f k []).1.length≤4000;omega⟩
theorem va {ts:List be} {n:Int} {atoms:List bc} {out order:List Int}:∃ k:Nat,1≤k∧k≤5∧((fE ts n atoms out order).2.2=true→n=(k:Int))∧(∀ r∈(fE ts n atoms out order).1.2,r.length=k)∧eb (fE ts n atoms out order).1.2∧(fE ts n atoms out order).1.2.length≤4000:=by
 unfold fE
 cases h:okQ ts n atoms out order with
 | false=>exact ⟨1,by omega,by omega,by simp [mK],by simp [mK],List.Pairwise.nil,by simp [mK]⟩
 | true =>
  obtain ⟨m,rfl,q,_⟩:=xG h
  cases jY (cC ts order atoms)
  ·obtain ⟨h1,h2,h3⟩:=v9 (kn q) q.n5
   exact ⟨m,q.n1,q.n5,fun _=>rfl,h1,h2,h3⟩
  ·exact ⟨m,q.n1,q.n5,fun _=>rfl,by simp,List.Pairwise.nil,by simp⟩
def wV (j:uj) (order:List Int):(List Int × List aF) × Bool:=bif j.2.2 then ((order,ke j.1.1.toNat j.1.2),true) else (([],[]),false)
section
variable {N:Nat}
theorem v5 {ts:List be} {n:Int} {atoms:List bc} {out order:List Int} (h:(fE ts n atoms out order).2.2=true):∃ k:Nat,k≤5∧(fE ts n atoms out order).1.1=(k:Int)∧lq k (fE ts n atoms out order).1.2:=by
 obtain ⟨k,k1,k5,hk,hr,_,hl⟩:=va (ts:=ts) (n:=n) (atoms:=atoms) (out:=out) (order:=order)
 refine ⟨k,k5,?_,hl,fun i hi=>by rw [ee hi];exact hr _ (List.getElem_mem hi)⟩
 have e:=hk h
 unfold fE at h ⊢
 cases h2:okQ ts n atoms out order with
 | false=>rw [h2] at h;cases h
 | true =>
  rw [h2,cond_true] at h
  rw [cond_true]
  cases h3:jY (cC ts order atoms) with
  | true=>exact e
  | false =>
   rw [h3,cond_false] at h
   rw [cond_false]
   unfold jw at h ⊢
   cases h4:decide (((bJ (bI ts order atoms) n.toNat []).1.length:Int)≤4000) with
   | true=>exact e
   | false=>rw [h4] at h;cases h
theorem qh (hM:1073742848≤N) {ts:List be} {n:Int} {atoms:List bc} {out order:List Int} (ht:nj ts) (ha:fj atoms) (ho:okI out) (hr:okI order):iM N ts n atoms out order=some (wV (fE ts n atoms out order) order):=by
 unfold iM wV
 rw [oz hM ht ha ho hr,bs]
 cases h:(fE ts n atoms out order).2.2 with
 | false=>rfl
 | true =>
  obtain ⟨k,k5,e,hall⟩:=v5 h
  rw [cond_true,cond_true,vt hM k5 hall hr.1,bs,e];rfl
end
theorem s4 (a:Int) {m:Nat} (hm:m≤4611686018427387904):0≤f8 a (m:Int)∧f8 a (m:Int)≤(m:Int):=by
 have h1:(BitVec.ofInt IntKind.i64.bits a &&& BitVec.ofInt IntKind.i64.bits (m:Int)).toNat≤m:=by
  rw [BitVec.toNat_and]
  refine Nat.le_trans Nat.and_le_right ?_
  rw [BitVec.toNat_ofInt]
  have:IntKind.i64.bits=64:=rfl
  rw [this]
  omega
 unfold f8
 rw [kq (mF (by omega) (by omega))]
 omega
theorem wG (a:Int) {b:Nat}:∃ v,sr a (b:Int)=some v:=by unfold sr;rw [if_pos (by omega)];exact ⟨_,rfl⟩
abbrev dP (a:List Int):Prop:=a.length≤1048576∧∀ v∈a,0≤v∧v≤255
def bU (a:List Int) (p:Int):Prop:=0≤p∧p≤(a.length:Int)
section
variable {N:Nat}
theorem A7 (a:List Int) (ha:dP a):∀ (m i k:Nat) (h:Int),i+m=4000→m<k→0≤h→h≤1073741823→∃ v,gz N k a h (i:Int)=some v:=by
 intro m
 induction m with
 | zero =>
  intro i k h hi hk _ _
  obtain ⟨k,rfl⟩:∃ g,k=g+1:=⟨k-1,by omega⟩
  rw [gz,decide_eq_false (show ¬ (i:Int)<4000 by omega)]
  cases decide ((i:Int)<(a.length:Int)) <;> exact ⟨_,rfl⟩
 | succ m ih =>
  intro i k h hi hk h0 h1
  obtain ⟨k,rfl⟩:∃ g,k=g+1:=⟨k-1,by omega⟩
  rw [gz]
  by_cases hl:i<a.length
  ·have hb:=ha.2 _ (List.getElem_mem hl)
   rw [dlt hl,cond_true,decide_eq_true (show (i:Int)<4000 by omega),cond_true,ul (by omega) (by omega),bs,aM hl,bs,kq (mF (by omega) (by omega)),fR (by omega) (by omega),bs,fR (by omega) (by omega),bs,ad1 (by omega),bs]
   have hi':=s4 (h*131+a[i]+7) (m:=1073741823) (by decide)
   exact ih (i+1) k _ (by omega) (by omega) hi'.1 hi'.2
  ·rw [dge hl,cond_false];exact ⟨_,rfl⟩
theorem rT (hN:1073741824≤N) {a:List Int} (ha:dP a):∃ h,jP N a=some (0,h):=by
 have hl:=ha.1
 obtain ⟨v,hv⟩:=A7 (N:=N) a ha 4000 0 N (10101+(a.length:Int)) (by omega) (by omega) (by omega) (by omega)
 unfold jP
 rw [fR (by omega) (by omega),bs]
 have hv':gz N N a (10101+(a.length:Int)) 0=some v:=hv
 rw [hv',bs]
 exact ⟨_,rfl⟩
theorem ka {a:List Int} (ha:dP a) {p h:Int} (hc:bU a p):∃ x q g,gg N a p h=some (x,q,g)∧0≤x∧x≤255∧bU a q:=by
 have hl:=ha.1
 have h0:=hc.1;have h1:=hc.2
 unfold gg
 obtain ⟨x1,e1⟩:=wG (IntKind.i64.wrap ((IntKind.i64.wrap (h*6364136223846793005))+1442695040888963407)) (b:=33)
 obtain ⟨x2,e2⟩:=wG (IntKind.i64.wrap ((IntKind.i64.wrap (h*6364136223846793005))+1442695040888963407)) (b:=45)
 have e1':sr (IntKind.i64.wrap ((IntKind.i64.wrap (h*6364136223846793005))+1442695040888963407)) 33=some x1:=e1
 have e2':sr (IntKind.i64.wrap ((IntKind.i64.wrap (h*6364136223846793005))+1442695040888963407)) 45=some x2:=e2
 rw [e1',bs,e2',bs]
 by_cases hp:p<(a.length:Int)
 ·rw [decide_eq_true hp,cond_true,dT h0 hp,bs]
  have hb:=s4 (IntKind.i64.wrap ((f8 (jC x1 x2) 255)+(IntKind.i64.wrap a[p.toNat]))) (m:=255) (by decide)
  refine ⟨_,_,_,rfl,hb.1,hb.2,?_⟩
  rw [kq (mF (by omega) (by omega))]
  exact ⟨by omega,by omega⟩
 ·rw [decide_eq_false hp,cond_false]
  have hb:=s4 (jC x1 x2) (m:=255) (by decide)
  exact ⟨_,_,_,rfl,hb.1,hb.2,hc⟩
theorem bD {a:List Int} (ha:dP a) {p h n:Int} (hc:bU a p):∃ x q g,bu N a p h n=some (x,q,g)∧0≤x∧(0<n→x<n)∧(n≤0→x=0)∧bU a q:=by
 unfold bu
 by_cases h0:n≤0
 ·rw [decide_eq_true h0,cond_true]
  exact ⟨_,_,_,rfl,Int.le_refl _,fun h=>by omega,fun _=>rfl,hc⟩
 ·rw [decide_eq_false h0,cond_false]
  by_cases h1:n≤256
  ·obtain ⟨x,q,g,e,b0,b1,hc'⟩:=ka (N:=N) ha (h:=h) hc
   rw [decide_eq_true h1,cond_true,e,bs,ry (by omega),bs]
   have:=wn b0 (show 0<n by omega)
   exact ⟨_,_,_,rfl,this.1,fun _=>this.2,fun h=>by omega,hc'⟩
  ·rw [decide_eq_false h1,cond_false]
   obtain ⟨x,q,g,e,b0,b1,hc1⟩:=ka (N:=N) ha (h:=h) hc
   rw [e,bs]
   obtain ⟨y,q2,g2,e2,c0,c1,hc2⟩:=ka (N:=N) ha (h:=g) hc1
   dsimp only
   rw [e2,bs]
   obtain ⟨z,q3,g3,e3,d0,d1,hc3⟩:=ka (N:=N) ha (h:=g2) hc2
   dsimp only
   rw [e3,bs]
   obtain ⟨w,q4,g4,e4,f0,f1,hc4⟩:=ka (N:=N) ha (h:=g3) hc3
   dsimp only
   rw [e4,bs]
   dsimp only
   rw [ul (by omega) (by omega),bs,ul (by omega) (by omega),bs,fR (by omega) (by omega),bs,ul (by omega) (by omega),bs,fR (by omega) (by omega),bs,fR (by omega) (by omega),bs,ry (by omega),bs]
   have:=wn (show 0≤x*16777216+y*65536+z*256+w by omega) (show 0<n by omega)
   exact ⟨_,_,_,rfl,this.1,fun _=>this.2,fun h=>by omega,hc4⟩
theorem gT {a l:List Int} (ha:dP a) {p h:Int} (hc:bU a p) (hl:0<l.length):∃ x q g,dC N a p h l=some (x,q,g)∧x∈l∧bU a q:=by
 obtain ⟨x,q,g,e,b0,b1,_,hc'⟩:=bD (N:=N) ha (h:=h) (n:=(l.length:Int)) hc
 have b2:=b1 (by omega)
 unfold dC
 rw [e,bs]
 dsimp only
 rw [dT b0 b2,bs]
 exact ⟨_,_,_,rfl,List.getElem_mem _,hc'⟩
end
section
variable {N:Nat}
theorem Bt {a:List Int} (ha:dP a) {n m:Int} (hm:0<m):∀ (d k:Nat) (acc:List Int) (p h:Int),bU a p→acc.length+d=n.toNat→d<k→n≤1048576→(∀ v∈acc,0≤v∧v<m) →
  ∃ q g row,ia N k a p h n m acc=some (q,g,row)∧bU a q∧row.length=n.toNat∧∀ v∈row,0≤v∧v<m:=by
 intro d
 induction d with
 | zero =>
  intro k acc p h hc hd hk _ hv
  obtain ⟨k,rfl⟩:∃ g,k=g+1:=⟨k-1,by omega⟩
  rw [ia,decide_eq_false (show ¬ (acc.length:Int)<n by omega),cond_false]
  exact ⟨_,_,_,rfl,hc,by omega,hv⟩
 | succ d ih =>
  intro k acc p h hc hd hk hn hv
  obtain ⟨k,rfl⟩:∃ g,k=g+1:=⟨k-1,by omega⟩
  obtain ⟨x,q,g,e,b0,b1,_,hc'⟩:=bD (N:=N) ha (h:=h) (n:=m) hc
  rw [ia,decide_eq_true (show (acc.length:Int)<n by omega),cond_true,e,bs]
  dsimp only
  rw [bk (by decide) (by simp;omega),bs]
  refine ih k _ q g hc' (by simp;omega) (by omega) hn fun v hv'=>?_
  rcases List.mem_append.1 hv' with h | h
  ·exact hv v h
  ·rw [List.mem_singleton] at h;rw [h];exact ⟨b0,b1 hm⟩
theorem mm (hN:1073741824≤N) {a:List Int} (ha:dP a) {p h n m:Int} (hc:bU a p) (hm:0<m) (hn:n≤1048576) :
  ∃ row q g,gh N a p h n m=some (row,q,g)∧bU a q∧row.length=n.toNat∧∀ v∈row,0≤v∧v<m:=by
 obtain ⟨q,g,row,e,h1,h2,h3⟩:=Bt (N:=N) ha (n:=n) hm n.toNat N [] p h hc (by simp) (by omega) hn (by simp)
 unfold gh
 rw [e]
 exact ⟨row,q,g,rfl,h1,h2,h3⟩
theorem Bn (hN:1073741824≤N) {a:List Int} (ha:dP a) {n m y:Int} {z:aT} (hm:0<m) (hn:n≤1048576):∀ (d k:Nat) (acc:aT) (p h c:Int),bU a p→c.toNat=d→c≤1048576→d<k→acc.length+d≤1048576→(∀ r∈acc,r.length=n.toNat∧∀ v∈r,0≤v∧v<m) →
  ∃ q g rows c',ig N k a p h n m y z acc c=some (q,g,rows,c')∧bU a q∧rows.length≤acc.length+d∧∀ r∈rows,r.length=n.toNat∧∀ v∈r,0≤v∧v<m:=by
 intro d
 induction d with
 | zero =>
  intro k acc p h c hc hd _ hk hl hv
  obtain ⟨k,rfl⟩:∃ g,k=g+1:=⟨k-1,by omega⟩
  rw [ig,decide_eq_false (show ¬ 0<c by omega),cond_false]
  exact ⟨_,_,_,_,rfl,hc,by omega,hv⟩
 | succ d ih =>
  intro k acc p h c hc hd hcc hk hl hv
  obtain ⟨k,rfl⟩:∃ g,k=g+1:=⟨k-1,by omega⟩
  obtain ⟨row,q,g,e,hc',h2,h3⟩:=mm hN ha (h:=h) (n:=n) hc hm hn
  rw [ig,decide_eq_true (show 0<c by omega),cond_true,e,bs]
  dsimp only
  rw [bk (by decide) (by simp;omega),bs,cI (by omega) (by omega),bs]
  obtain ⟨q',g',rows,c',e',k1,k2,k3⟩:=ih k (acc++[row]) q g (c-1) hc' (by omega) (by omega) (by omega) (by simp;omega) fun r hr=>by
   rcases List.mem_append.1 hr with h | h
   ·exact hv r h
   ·rw [List.mem_singleton] at h;rw [h];exact ⟨h2,h3⟩
  exact ⟨q',g',rows,c',e',k1,by simp at k2;omega,k3⟩
theorem kU (hM:1073742848≤N) {a:List Int} (ha:dP a) {p h n m y:Int} (hc:bU a p) (hm:0<m∧m≤100) (hn:0≤n∧n≤5) (hy:0≤y∧y≤100) :
  ∃ rows q g,gJ N a p h n y m=some ((n,rows),q,g)∧bU a q∧(rows.length:Int)≤y∧∀ r∈rows,(r.length:Int)=n∧∀ v∈r,0≤v∧v<m:=by
 have hN:1073741824≤N:=by omega
 obtain ⟨x,q,g,e,b0,b1,_,hc'⟩:=bD (N:=N) ha (h:=h) (n:=y+1) hc
 have b1:=b1 (by omega)
 obtain ⟨q',g',rows,c',e',k1,k2,k3⟩:=Bn hN ha (n:=n) (m:=m) (y:=0) (z:=[]) hm.1 (by omega) x.toNat N [] q g x hc' rfl (by omega) (by omega) (by simp;omega) (by simp)
 unfold gJ
 rw [fR (by omega) (by omega),bs,e,bs]
 dsimp only
 rw [e']
 simp only [List.length_nil,Nat.zero_add] at k2
 have hf:∀ r∈rows,(r.length:Int)=n∧bB r=true:=fun r hr=>by
  have:=k3 r hr
  refine ⟨by omega,?_⟩
  unfold bB
  refine List.all_eq_true.2 fun v hv=>?_
  have:=this.2 v hv
  unfold inR
  simp only [Bool.and_eq_true,decide_eq_true_eq]
  omega
 have hok:fV rows:=⟨by omega,fun r hr=>⟨by have:=(k3 r hr).1;omega,fun _ _=>trivial⟩⟩
 rw [bs]
 unfold lpB
 dsimp only
 rw [g8 hM hok,bs,js hn (by omega) hf]
 have hsl:=ip 20 rows
 refine ⟨cJ 20 rows,q',g',rfl,k1,by omega,fun r hr=>?_⟩
 have hr':=kx 20 rows r hr
 exact ⟨(hf r hr').1,(k3 r hr').2⟩
def un (r:Int × aT):Prop:=(-1≤r.1∧r.1≤6)∧r.2.length≤7∧∀ w∈r.2,w.length≤6∧∀ v∈w,-1≤v∧v≤100
theorem wU (hM:1073742848≤N) {a:List Int} (ha:dP a) {p h:Int} (hc:bU a p):∃ r q g,kS N a p h=some (r,q,g)∧bU a q∧un r:=by
 have hN:1073741824≤N:=by omega
 obtain ⟨n,q,g,e,b0,b1,_,hc1⟩:=bD (N:=N) ha (h:=h) (n:=4) hc
 have b1:=b1 (by decide)
 obtain ⟨rows,q2,g2,e2,hc2,hl,hr⟩:=kU hM ha (h:=g) (n:=n) (m:=4) (y:=6) hc1 (by decide) (by omega) (by decide)
 obtain ⟨s,q3,g3,e3,_,_,_,hc3⟩:=bD (N:=N) ha (h:=g2) (n:=14) hc2
 have hsm:∀ w∈rows,w.length≤6∧∀ v∈w,-1≤v∧v≤100:=fun w hw=>by
  have:=hr w hw
  exact ⟨by omega,fun v hv=>by have:=this.2 v hv;omega⟩
 have base:un (n,rows):=⟨⟨by show -1≤n;omega,by show n≤6;omega⟩,by show rows.length≤7;omega,hsm⟩
 unfold kS
 rw [e,bs]
 dsimp only
 rw [e2,bs]
 dsimp only
 rw [e3,bs]
 dsimp only
 cases h0:(s == 0)
 ·rw [cond_false]
  cases h1:(s == 1)
  ·rw [cond_false]
   cases h2:(s == 2)
   ·exact ⟨_,_,_,rfl,hc3,base⟩
   ·rw [cond_true]
    by_cases hp:0<rows.length
    ·rw [decide_eq_true (show (0:Int)<(rows.length:Int) by omega),cond_true]
     by_cases hn:0<n
     ·have hm0:=hr _ (List.getElem_mem hp)
      have hm1:=hsm _ (List.getElem_mem hp)
      have hp0:0<rows[0].length:=by omega
      obtain ⟨x,q4,g4,e4,hx,hc4⟩:=gT (N:=N) ha (h:=g3) hc3 (l:=[(-1),100,99]) (by decide)
      have i0:ix rows 0=some rows[0]:=aM hp
      have i1:ix rows[0] 0=some rows[0][0]:=aM hp0
      have s1:sto rows[0] 0 x=some (rows[0].set 0 x):=gV hp0
      have s2:sto rows 0 (rows[0].set 0 x)=some (rows.set 0 (rows[0].set 0 x)):=gV hp
      have hxb:-1≤x∧x≤100:=by
       simp only [List.mem_cons,List.not_mem_nil,or_false] at hx
       omega
      rw [decide_eq_true hn,cond_true,i0,bs,e4,bs,i1,bs,s1,bs,s2,bs]
      refine ⟨_,_,_,rfl,hc4,⟨base.1,by show (rows.set 0 _).length≤7;rw [List.length_set];omega,fun w hw=>?_⟩⟩
      rcases List.mem_or_eq_of_mem_set hw with h | h
      ·exact hsm w h
      ·subst h
       refine ⟨by rw [List.length_set];exact hm1.1,fun v hv=>?_⟩
       rcases List.mem_or_eq_of_mem_set hv with h | h
       ·exact hm1.2 v h
       ·rw [h];exact hxb
     ·rw [decide_eq_false hn,cond_false]
      exact ⟨_,_,_,rfl,hc3,base⟩
    ·rw [decide_eq_false (show ¬ (0:Int)<(rows.length:Int) by omega),cond_false]
     exact ⟨_,_,_,rfl,hc3,base⟩
  ·rw [cond_true]
   have hi:imx 0 n=n:=by unfold imx;split <;> omega
   obtain ⟨w,q4,g4,e4,hc4,hw1,hw2⟩:=mm hN ha (h:=g3) (n:=n) (m:=4) hc3 (by decide) (by omega)
   rw [hi,e4,bs]
   dsimp only
   rw [bk (by decide) (by simp;omega),bs]
   refine ⟨_,_,_,rfl,hc4,base.1,by show (rows++[w]).length≤7;simp;omega,fun v hv=>?_⟩
   rcases List.mem_append.1 hv with h | h
   ·exact hsm v h
   ·rw [List.mem_singleton] at h;subst h
    exact ⟨by omega,fun v hv=>by have:=hw2 v hv;omega⟩
 ·obtain ⟨x,q4,g4,e4,hx,hc4⟩:=gT (N:=N) ha (h:=g3) hc3 (l:=[(-1),6,n+1]) (Nat.zero_lt_succ _)
  rw [cond_true,fR (by omega) (by omega),bs,e4,bs]
  refine ⟨_,_,_,rfl,hc4,⟨?_,base.2⟩⟩
  simp only [List.mem_cons,List.not_mem_nil,or_false] at hx
  show -1≤x∧x≤6
  omega
end
def dG (F:Nat→List (List Int)):Nat→List (List Int)
 | 0=>[]
 | j+1=>dG F j++F j
def dA (nodes:List aF):Nat→Int→List Int→List (List Int)
 | 0,_,_=>[]
 | f+1,nd,pre=>if nd=0 then [pre] else
   dG (fun j=>dA nodes f ((nodes.getD nd.toNat ([],[])).2.getD j 0) (pre++[(nodes.getD nd.toNat ([],[])).1.getD j 0])) (nodes.getD nd.toNat ([],[])).1.length
theorem oe {F:Nat→List (List Int)} {r:List Int}:∀ n,r∈dG F n→∃ j,j<n∧r∈F j
 | 0,h=>by simp [dG] at h
 | n+1,h=>by
  unfold dG at h
  rcases List.mem_append.1 h with h | h
  ·obtain ⟨j,h1,h2⟩:=oe n h;exact ⟨j,by omega,h2⟩
  ·exact ⟨n,by omega,h⟩
theorem nb {c:List Int}:∀ (l:List Int) (j:Nat),j<l.length→dp c (l.take (j+1))=dp c (l.take j)+c.getD (l.getD j 0).toNat 0
 | [],j,h=>by simp at h
 | x :: l,0,h=>by simp [dp]
 | x :: l,j+1,h=>by
  have:=nb (c:=c) l j (by simpa using h)
  rw [List.take_succ_cons,List.take_succ_cons,dp,dp,this,List.getD_cons_succ];omega
theorem ji {c:List Int} (hc:g9 c):∀ (l:List Int),0≤dp c l
 | []=>by simp [dp]
 | x :: l=>by
  have:=ji hc l
  have:=gF hc x.toNat
  unfold dp;omega
theorem wI {c:List Int} (hc:g9 c):∀ (l:List Int) (j:Nat),dp c (l.take j)≤dp c l
 | [],j=>by simp
 | x :: l,0=>by have:=ji hc (x :: l);simpa [dp] using this
 | x :: l,j+1=>by
  have:=wI hc l j
  rw [List.take_succ_cons,dp,dp];omega
theorem xW {c:List Int} (hc:g9 c) (l:List Int):∀ s:Int,0≤s∧s≤1000000000→l.foldl (e9 c) s<1000000000→l.foldl (e9 c) s=s+dp c l:=by
 induction l with
 | nil=>intro s _ _;simp [dp]
 | cons x l ih =>
  intro s hs h
  rw [List.foldl_cons] at h ⊢
  have hb:=n6 hc (ch:=x) hs
  have hx:=gF hc x.toNat
  have h1:=ih _ hb h
  have h0:=ji hc l
  have h2:e9 c s x=s+c.getD x.toNat 0:=by
   have h3:e9 c s x<1000000000:=by omega
   unfold e9 at h3 ⊢;rw [pj] at h3 ⊢
   by_cases h4:s+c.getD x.toNat 0<1000000000
   ·rw [if_pos h4]
   ·rw [if_neg h4] at h3;omega
  rw [h1,h2,dp];omega
def wN (nodes:List aF) (nd:Int):Int:=(bO nodes nodes.length).getD nd.toNat 0
theorem x9 {olen:Nat} {nodes:List aF} {far:List Int} (V:VF olen nodes far) {nd:Int} (h:inN nodes nd) (h0:nd≠0) (hw:wN nodes nd<1000000000) :
  dp (bO nodes nodes.length) (nodes.getD nd.toNat ([],[])).2=wN nodes nd:=by
 have h1:=h.1;have h2:=h.2
 have hi:nd.toNat<nodes.length:=by omega
 unfold wN at hw ⊢
 rw [kl nodes nodes.length nd.toNat (by omega) hi] at hw ⊢
 rw [xW (dr nodes nd.toNat (by omega)).2 _ 0 (by omega) hw,Int.zero_add]
 exact (ot _ fun j hj=>by
  have:=V.ch hi hj
  exact (n9 nodes nodes.length nd.toNat _ (by omega) (by omega) (by omega)).symm).symm
theorem Aq (nodes:List aF) (hp:1≤nodes.length) (nd:Int):0≤wN nodes nd∧wN nodes nd≤1000000000:=gF (dr nodes nodes.length hp).2 nd.toNat
theorem sZ {olen:Nat} {nodes:List aF} {far:List Int} (V:VF olen nodes far) {nd:Int} (h:inN nodes nd) (h0:nd≠0) (hw:wN nodes nd<1000000000) {j:Nat} (hj:j<(nodes.getD nd.toNat ([],[])).2.length) :
  dp (bO nodes nodes.length) ((nodes.getD nd.toNat ([],[])).2.take j)+wN nodes ((nodes.getD nd.toNat ([],[])).2.getD j 0)≤wN nodes nd:=by
 have h1:=nb (c:=bO nodes nodes.length) _ j hj
 have h2:=wI (dr nodes nodes.length V.pos).2 (nodes.getD nd.toNat ([],[])).2 (j+1)
 rw [x9 V h h0 hw] at h2
 unfold wN;unfold wN at h2;omega
theorem oD {olen:Nat} {nodes:List aF} {far:List Int} (V:VF olen nodes far) {nd:Int} (h:inN nodes nd) {j:Nat} (hj:j<(nodes.getD nd.toNat ([],[])).2.length) :
  inN nodes ((nodes.getD nd.toNat ([],[])).2.getD j 0)∧(nodes.getD nd.toNat ([],[])).2.getD j 0<nd:=by
 have h1:=h.1;have h2:=h.2
 have:=V.ch (i:=nd.toNat) (by omega) hj
 exact ⟨⟨this.1,by omega⟩,by omega⟩
theorem oy {olen:Nat} {nodes:List aF} {far:List Int} (V:VF olen nodes far):∀ (f:Nat) (nd:Int) (pre:List Int),inN nodes nd→nd<f→wN nodes nd<1000000000→((dA nodes f nd pre).length:Int)≤wN nodes nd:=by
 intro f
 induction f with
 | zero=>intro nd pre h hf;have:=h.1;omega
 | succ f ih =>
  intro nd pre h hf hw
  unfold dA
  by_cases h0:nd=0
  ·subst h0
   rw [if_pos rfl];unfold wN;rw [show (0:Int).toNat=0 from rfl,o7 nodes _ V.pos];simp
  ·rw [if_neg h0]
   have hl:=V.lens (i:=nd.toNat) (by have:=h.1;have:=h.2;omega)
   have key:∀ m,m≤(nodes.getD nd.toNat ([],[])).1.length→((dG (fun j=>dA nodes f ((nodes.getD nd.toNat ([],[])).2.getD j 0) (pre++[(nodes.getD nd.toNat ([],[])).1.getD j 0])) m).length:Int)≤dp (bO nodes nodes.length) ((nodes.getD nd.toNat ([],[])).2.take m):=by
    intro m
    induction m with
    | zero=>intro _;simp [dG,dp]
    | succ m ihm =>
     intro hm
     have h1:=ihm (by omega)
     have hj:m<(nodes.getD nd.toNat ([],[])).2.length:=by omega
     obtain ⟨c1,c2⟩:=oD V h hj
     have h2:=sZ V h h0 hw hj
     have h3:=ji (dr nodes nodes.length V.pos).2 ((nodes.getD nd.toNat ([],[])).2.take m)
     have h4:=ih _ (pre++[(nodes.getD nd.toNat ([],[])).1.getD m 0]) c1 (by omega) (by omega)
     rw [dG,List.length_append,nb _ m hj]
     unfold wN at h4
     omega
   have:=key _ (Nat.le_refl _)
   rw [hl,List.take_length,x9 V h h0 hw] at this
   rw [hl];exact this
theorem Aj {olen:Nat} {nodes:List aF} {far:List Int} (V:VF olen nodes far) {nd:Int} (h:inN nodes nd) (h0:nd≠0) (hw:wN nodes nd<1000000000) {f:Nat} (hf:nd≤f) (pre:List Int) :
  ∀ m,m≤(nodes.getD nd.toNat ([],[])).1.length→((dG (fun j=>dA nodes f ((nodes.getD nd.toNat ([],[])).2.getD j 0) (pre++[(nodes.getD nd.toNat ([],[])).1.getD j 0])) m).length:Int)≤dp (bO nodes nodes.length) ((nodes.getD nd.toNat ([],[])).2.take m):=by
 have hl:=V.lens (i:=nd.toNat) (by have:=h.1;have:=h.2;omega)
 intro m
 induction m with
 | zero=>intro _;simp [dG,dp]
 | succ m ihm =>
  intro hm
  have h1:=ihm (by omega)
  have hj:m<(nodes.getD nd.toNat ([],[])).2.length:=by omega
  obtain ⟨c1,c2⟩:=oD V h hj
  have h2:=sZ V h h0 hw hj
  have h3:=ji (dr nodes nodes.length V.pos).2 ((nodes.getD nd.toNat ([],[])).2.take m)
  have h4:=oy V f _ (pre++[(nodes.getD nd.toNat ([],[])).1.getD m 0]) c1 (by omega) (by omega)
  rw [dG,List.length_append,nb _ m hj]
  unfold wN at h4
  omega
theorem xy {olen:Nat} {nodes:List aF} {far:List Int} (V:VF olen nodes far):∀ (f:Nat) (nd:Int) (pre:List Int),inN nodes nd→nd<f→∀ r∈dA nodes f nd pre,(r.length:Int)≤pre.length+nd:=by
 intro f
 induction f with
 | zero=>intro nd pre h hf;have:=h.1;omega
 | succ f ih =>
  intro nd pre h hf r hr
  unfold dA at hr
  by_cases h0:nd=0
  ·rw [if_pos h0] at hr;simp only [List.mem_singleton] at hr;subst hr;omega
  ·rw [if_neg h0] at hr
   have hl:=V.lens (i:=nd.toNat) (by have:=h.1;have:=h.2;omega)
   obtain ⟨j,h1,h2⟩:=oe _ hr
   obtain ⟨c1,c2⟩:=oD V h (j:=j) (by omega)
   have:=ih _ _ c1 (by omega) r h2
   rw [List.length_append,List.length_singleton] at this
   omega
section
variable {N:Nat}
theorem xt {order:List Int} {nodes:List aF} {far:List Int} (V:VF order.length nodes far) (hn:okN nodes):∀ (f:Nat) (nd:Int) (M:Nat) (pre:List Int),inN nodes nd→nd<f→nd+1048580≤(M:Int)→pre.length+nd≤1048576→wN nodes nd≤4000 →
  eh M order nodes nd pre=some (dA nodes f nd pre):=by
 intro f
 induction f with
 | zero=>intro nd M pre h hf;have:=h.1;omega
 | succ f ih =>
  intro nd M pre h hf hM hp hw
  have g1:=h.1;have g2:=h.2
  obtain ⟨M,rfl⟩:∃ M',M=M'+1:=⟨M-1,by omega⟩
  have wb:=Aq nodes V.pos nd
  rw [eh,dA]
  by_cases h0:nd=0
  ·subst h0
   rw [show ((0:Int) == 0)=true from rfl,cond_true,mu (by decide) (by omega),bs,if_pos rfl]
  ·rw [show (nd == 0)=false by simpa using h0,cond_false,if_neg h0]
   have hi:nd.toNat<nodes.length:=by omega
   have hix:=ixN h
   have hl:=V.lens hi
   have hk:=gk hn hi
   rw [← fg hi] at hk
   have hx1:=hk.1.1
   have hwl:wN nodes nd<1000000000:=by omega
   have hup:=Aj V h h0 hwl (f:=f) (by omega) pre
   have hpart:=fun j (hj:j<(nodes.getD nd.toNat ([],[])).2.length)=>sZ V h h0 hwl hj
   have hch:=fun j (hj:j<(nodes.getD nd.toNat ([],[])).2.length)=>oD V h hj
   have hlen:=fun j (hj:j<(nodes.getD nd.toNat ([],[])).2.length)=>oy V f _ (pre++[(nodes.getD nd.toNat ([],[])).1.getD j 0]) (oD V h hj).1 (by have:=(oD V h hj).2;omega)
   generalize hx:nodes.getD nd.toNat ([],[])=x at *
   have hL:=gK (fun k (s:List (List Int)) j=>ea (eh M) M k nd pre order nodes s j) x.1.length (fun j=>dG (fun j=>dA nodes f (x.2.getD j 0) (pre++[x.1.getD j 0])) j) (dG (fun j=>dA nodes f (x.2.getD j 0) (pre++[x.1.getD j 0])) x.1.length,(x.1.length:Int))
    (fun k j hj=>by
     have hj2:j<x.2.length:=by omega
     have q1:=hup j (by omega)
     have q2:=hpart j hj2
     obtain ⟨q3,q4⟩:=hch j hj2
     have q5:=ji (dr nodes nodes.length V.pos).2 (x.2.take j)
     have q6:=Aq nodes V.pos (x.2.getD j 0)
     have q7:=hlen j hj2 (by omega)
     show ea (eh M) M (k+1) nd pre order nodes _ (j:Int)=_
     rw [ea,hix,bs,dlt hj,cond_true,bs,aM hj2,bs,bs,aM hj,bs,mu (by decide) (by omega),bs,bk (by decide) (by simp;omega),bs,← aX hj2,← aX hj,ih _ M (pre++[x.1.getD j 0]) q3 (by omega) (by omega) (by rw [List.length_append,List.length_singleton];omega) (by omega),bs,bk (by decide) (by omega),bs,ad1 (by omega),bs]
     rfl)
    (fun k=>by
     show ea (eh M) M (k+1) nd pre order nodes _ (x.1.length:Int)=_
     rw [ea,hix,bs,dge (by omega),cond_false]) M 0 (by omega) (by omega)
   have hL':ea (eh M) M M nd pre order nodes [] 0=_:=hL
   rw [hL',bs,lpB]
def jg (order:List Int) (nodes:List aF):(Int × List (List Int)) × Bool :=
 bif b9 order nodes&&!decide (4000<cg order nodes) then (((order.length:Int),dA nodes nodes.length ((nodes.length:Int)-1) []),true) else ((0,[]),false)
theorem qq {order:List Int} {nodes:List aF} (h:b9 order nodes=true):cg order nodes=wN nodes ((nodes.length:Int)-1):=by
 unfold cg wN
 rw [h,cond_true,show ((nodes.length:Int)-1).toNat=nodes.length-1 by omega]
theorem w5 {order:List Int} {nodes:List aF} (hn:okN nodes):fV (jg order nodes).1.2:=by
 unfold jg
 cases hv:b9 order nodes with
 | false=>exact ⟨by simp,by simp⟩
 | true =>
  by_cases hc:4000<cg order nodes
  ·rw [decide_eq_true hc];exact ⟨by simp,by simp⟩
  ·rw [decide_eq_false hc]
   obtain ⟨far,V⟩:=jo hv
   have hp:=V.pos;have hle:=V.le
   rw [qq hv] at hc
   have hin:inN nodes ((nodes.length:Int)-1):=⟨by omega,by omega⟩
   refine ⟨?_,fun r hr=>?_⟩
   ·have:=oy V nodes.length _ [] hin (by omega) (by omega)
    show (dA nodes nodes.length ((nodes.length:Int)-1) []).length≤1048576
    omega
   ·have:=xy V nodes.length _ [] hin (by omega) r hr
    rw [List.length_nil] at this
    exact ⟨by omega,fun _ _=>trivial⟩
theorem lP (hN:1073741824≤N) {order:List Int} {nodes:List aF} (ho:okI order) (hn:okN nodes):eq N order nodes=some (jg order nodes):=by
 unfold eq jg
 rw [cd hN ho hn,bs]
 cases hv:b9 order nodes with
 | false=>rfl
 | true =>
  obtain ⟨far,V⟩:=jo hv
  have hp:=V.pos;have hle:=V.le
  rw [cond_true,gw hN ho hn,bs,Bool.true_and]
  by_cases hc:4000<cg order nodes
  ·rw [decide_eq_true hc];rfl
  ·rw [decide_eq_false hc,cond_false,cI (by omega) (by omega),bs]
   rw [qq hv] at hc
   rw [xt V hn nodes.length _ N [] ⟨by omega,by omega⟩ (by omega) (by omega) (by rw [List.length_nil];omega) (by omega),bs]
   rfl
end
def WFn (ns:List aF):Prop:=1≤ns.length∧∀ i,i<ns.length→∀ c∈(ns.getD i ([],[])).2,0≤c∧c<(i:Int)
def s9 (a b:List aF):Prop:=∃ t,b=a++t
theorem s9.trans {a b c:List aF} (h:s9 a b) (k:s9 b c):s9 a c:=by
 obtain ⟨t,rfl⟩:=h;obtain ⟨u,rfl⟩:=k;exact ⟨t++u,by simp⟩
theorem s9.len {a b:List aF} (h:s9 a b):a.length≤b.length:=by
 obtain ⟨t,rfl⟩:=h;simp
theorem mr {F G:Nat→List (List Int)}:∀ n,(∀ j,j<n→F j=G j)→dG F n=dG G n
 | 0,_=>rfl
 | n+1,h=>by unfold dG;rw [mr n (fun j hj=>h j (by omega)),h n (by omega)]
theorem uN {F:Nat→List (List Int)} {g:List Int→List Int}:∀ n,dG (fun j=>(F j).map g) n=(dG F n).map g
 | 0=>rfl
 | n+1=>by unfold dG;rw [uN n,List.map_append]
theorem sk (ns:List aF):∀ (f:Nat) (nd:Int) (p q:List Int),dA ns f nd (p++q)=(dA ns f nd q).map (p++·)
 | 0,_,_,_=>rfl
 | f+1,nd,p,q=>by
  rw [dA,dA]
  by_cases hz:nd=0
  ·rw [if_pos hz,if_pos hz];rfl
  ·rw [if_neg hz,if_neg hz,← uN]
   refine mr _ fun j _=>?_
   rw [List.append_assoc,sk ns f _ p]
theorem vf {rows:List (List Int)} {d:Nat} {v:Int}:∀ f k j,k≤j→j<jJ rows d v f k→(rows.getD j []).getD d 0=v
 | 0,k,j,h1,h2=>by unfold jJ at h2;omega
 | f+1,k,j,h1,h2=>by
  unfold jJ at h2
  split at h2
  ·rename_i e
   by_cases h:j=k
   ·rw [h];exact e
   ·exact vf f (k+1) j (by omega) h2
  ·omega
theorem BG {olen:Nat} {nodes:List aF} {far:List Int} (V:VF olen nodes far):∀ (f:Nat) (nd:Int) (pre:List Int),inN nodes nd→nd<f→wN nodes nd=imn 1000000000 ((dA nodes f nd pre).length:Int):=by
 intro f
 induction f with
 | zero=>intro nd pre h hf;have:=h.1;omega
 | succ f ih =>
  intro nd pre h hf
  have h1:=h.1;have h2:=h.2
  rw [dA]
  by_cases h0:nd=0
  ·subst h0
   rw [if_pos rfl];unfold wN;rw [show (0:Int).toNat=0 from rfl,o7 nodes _ V.pos];simp [imn]
  ·rw [if_neg h0]
   have hi:nd.toNat<nodes.length:=by omega
   have hl:=V.lens (i:=nd.toNat) (by omega)
   have key:∀ m,m≤(nodes.getD nd.toNat ([],[])).2.length→((nodes.getD nd.toNat ([],[])).2.take m).foldl (e9 (bO nodes nd.toNat)) 0 =
     imn 1000000000 ((dG (fun j=>dA nodes f ((nodes.getD nd.toNat ([],[])).2.getD j 0) (pre++[(nodes.getD nd.toNat ([],[])).1.getD j 0])) m).length:Int):=by
    intro m
    induction m with
    | zero=>intro _;simp [dG,imn]
    | succ m ihm =>
     intro hm
     have hj:m<(nodes.getD nd.toNat ([],[])).2.length:=by omega
     obtain ⟨c1,c2⟩:=oD V h hj
     have h4:=ih _ (pre++[(nodes.getD nd.toNat ([],[])).1.getD m 0]) c1 (by omega)
     have hg:(nodes.getD nd.toNat ([],[])).2.getD m 0=(nodes.getD nd.toNat ([],[])).2[m]:=by
      rw [List.getD_eq_getElem?_getD,List.getElem?_eq_getElem hj,Option.getD_some]
     have h5:(bO nodes nd.toNat).getD ((nodes.getD nd.toNat ([],[])).2.getD m 0).toNat 0=wN nodes ((nodes.getD nd.toNat ([],[])).2.getD m 0):=by
      have:=c1.1
      exact (n9 nodes nodes.length nd.toNat _ (by omega) (by omega) (by omega)).symm
     rw [List.take_succ_eq_append_getElem hj,List.foldl_append,ihm (by omega),List.foldl_cons,List.foldl_nil,dG,List.length_append]
     rw [← hg]
     unfold e9
     rw [h5,h4]
     unfold imn
     split <;> split <;> split <;> split <;> omega
   have:=key _ (Nat.le_refl _)
   rw [List.take_length] at this
   unfold wN
   rw [kl nodes nodes.length nd.toNat (by omega) hi,this,hl]
def Ci (ns:List aF):Nat→Int→Int
 | 0,_=>0
 | f+1,nd=>if nd=0 then 0 else Ci ns f ((ns.getD nd.toNat ([],[])).2.getD 0 0)+1
def dep (ns:List aF) (nd:Int):Int:=Ci ns ns.length nd
structure NodeOk (ns:List aF) (i:Nat):Prop where
 lens:(ns.getD i ([],[])).1.length=(ns.getD i ([],[])).2.length
 vals:bB (ns.getD i ([],[])).1=true
 asc:fO (ns.getD i ([],[])).1
 ne:(ns.getD i ([],[])).1≠[]
 chs:∀ c∈(ns.getD i ([],[])).2,dep ns c=dep ns ((ns.getD i ([],[])).2.getD 0 0)
 new:∀ j,1≤j→j<i→ns.getD j ([],[])≠ns.getD i ([],[])
def CX (ns:List aF):Prop:=∀ i,1≤i→i<ns.length→NodeOk ns i
theorem tv {rows:List (List Int)} {d:Nat} {v:Int}:∀ f k,jJ rows d v f k<k+f→(rows.getD (jJ rows d v f k) []).getD d 0≠v
 | 0,k,h=>by unfold jJ at h;omega
 | f+1,k,h=>by
  unfold jJ at h ⊢
  split
  ·rename_i e
   rw [if_pos e] at h
   exact tv f (k+1) (by omega)
  ·rename_i e
   exact e
theorem Ae {rows:List (List Int)} {j:Nat} (h:j<rows.length):rows.getD j []=rows[j]:=by
 rw [List.getD_eq_getElem?_getD,List.getElem?_eq_getElem h,Option.getD_some]
theorem zb {rows:List (List Int)} {d i:Nat} (hlt:i<rows.length):(rows.take (gZ rows d i)).drop i≠[]:=by
 have hb:=mv (d:=d) hlt
 intro h
 have:=congrArg List.length h
 simp only [List.length_drop,List.length_take,List.length_nil] at this
 omega
theorem wl {rows:List (List Int)} {d i:Nat}:((rows.take (gZ rows d i)).drop i).Sublist rows:=(List.drop_sublist _ _).trans (List.take_sublist _ _)
theorem wv {rows:List (List Int)} {n d i:Nat} {pre:List Int} (hdn:d<n) (hlt:i<rows.length) (hrow:∀ r∈rows,r.length=n∧r.take d=pre):∀ r∈(rows.take (gZ rows d i)).drop i,r.length=n∧r.take (d+1)=pre++[(rows.getD i []).getD d 0]:=fun r hm=>by
 have hb:=mv (d:=d) hlt
 obtain ⟨j,hj,rfl⟩:=List.getElem_of_mem hm
 rw [List.getElem_drop,List.getElem_take]
 rw [List.length_drop,List.length_take] at hj
 have h0:=hrow _ (List.getElem_mem (show i+j<rows.length by omega))
 have hv:=vf (rows:=rows) (d:=d) (v:=(rows.getD i []).getD d 0) (rows.length-i) i (i+j) (by omega) (by show i+j<gZ rows d i;omega)
 rw [List.getD_eq_getElem?_getD (l:=rows),List.getElem?_eq_getElem (show i+j<rows.length by omega),Option.getD_some] at hv
 refine ⟨h0.1,?_⟩
 have hdl:d<(rows[i+j]'(by omega)).length:=by omega
 rw [List.take_succ_eq_append_getElem hdl,h0.2]
 rw [List.getD_eq_getElem?_getD (l:=rows[i+j]'(by omega)),List.getElem?_eq_getElem hdl,Option.getD_some] at hv
 rw [hv]
theorem wx {rows:List (List Int)} {n d:Nat} {pre:List Int} (hdn:d<n) (ha:eb rows) (hrow:∀ r∈rows,r.length=n∧r.take d=pre) {i j:Nat} (h:i≤j) (hj:j<rows.length):(rows.getD i []).getD d 0≤(rows.getD j []).getD d 0:=by
 by_cases e:i=j
 ·rw [e];exact Int.le_refl _
 ·rw [Ae hj,Ae (show i<rows.length by omega)]
  have h1:=hrow _ (List.getElem_mem (show i<rows.length by omega))
  have h2:=hrow _ (List.getElem_mem hj)
  exact sO d _ _ (h1.2.trans h2.2.symm) (by omega) (by omega) (List.pairwise_iff_getElem.1 ha i j (by omega) hj (by omega))
theorem zg {n:Nat} {rows:List (List Int)} (hn5:n≤5) (ha:lq n rows):(ke n rows).length≤rows.length*n+2:=by
 have hl:=ha.1
 unfold ke
 by_cases h:rows=[]
 ·rw [if_pos h];show 2≤_;omega
 ·have hmul:rows.length*n≤4000*5:=Nat.mul_le_mul hl hn5
  have hz:zN.length=1:=rfl
  rw [if_neg h]
  have:=(tC (n:=n) n 0 zN rows As ha h (by omega)).2
  show (cj n zN rows 0).2.length≤_
  have e:(cj n zN rows 0).2.length≤zN.length+rows.length*n+1:=this
  omega
abbrev mD:=Int × List bc × List Int
def QGd (q:mD):Prop:=(1≤q.1∧q.1≤5)∧(1≤q.2.1.length∧q.2.1.length≤4)∧(∀ a∈q.2.1,a.1.size≤4∧1≤a.2.length∧a.2.length≤5)∧q.2.2.length≤5
def QSm (q:mD):Prop:=(0≤q.1∧q.1≤6)∧q.2.1.length≤5∧(∀ a∈q.2.1,a.1.size≤4∧a.2.length≤5)∧q.2.2.length≤6
theorem QGd.sm {q:mD} (h:QGd q):QSm q:=⟨⟨by have:=h.1;omega,by have:=h.1;omega⟩,by have:=h.2.1;omega,fun a ha=>⟨(h.2.2.1 a ha).1,(h.2.2.1 a ha).2.2⟩,by have:=h.2.2.2;omega⟩
theorem QSm.atoms {q:mD} (h:QSm q):fj q.2.1:=⟨by have:=h.2.1;omega,fun a ha=>⟨by have:=(h.2.2.1 a ha).1;omega,by have:=(h.2.2.1 a ha).2;omega,fun _ _=>trivial⟩⟩
theorem QSm.out {q:mD} (h:QSm q):okI q.2.2:=⟨by have:=h.2.2.2;omega,fun _ _=>trivial⟩
section
variable {N:Nat}
abbrev yK:List ByteArray:=[(⟨#[40,88,89,90,41,61,114,40,88,89,41,44,115,40,89,90,41,44,116,40,90,88,41]⟩:ByteArray),(⟨#[40,88,89,90,85,41,61,114,40,88,89,41,44,115,40,89,90,41,44,116,40,90,85,41,44,117,40,85,88,41]⟩:ByteArray),(⟨#[40,88,89,90,41,61,114,40,88,89,41,44,115,40,89,90,41]⟩:ByteArray),(⟨#[40,88,41,61,114,40,88,89,41,44,115,40,89,90,41,44,116,40,90,85,41]⟩:ByteArray),(⟨#[40,88,89,90,41,61,118,40,88,89,90,41,44,114,40,88,89,41]⟩:ByteArray),(⟨#[40,88,89,41,61,114,40,88,89,41,44,114,40,89,88,41]⟩:ByteArray),(⟨#[40,88,89,90,85,41,61,118,40,88,89,90,41,44,115,40,90,85,41,44,116,40,85,88,41]⟩:ByteArray),(⟨#[40,88,41,61,114,40,88,88,41]⟩:ByteArray),(⟨#[40,88,89,41,61,114,40,88,90,41,44,115,40,90,89,41,44,114,40,88,85,41,44,115,40,85,89,41]⟩:ByteArray),(⟨#[40,41,61,114,40,88,89,41,44,115,40,89,88,41]⟩:ByteArray),(⟨#[40,88,89,90,85,86,41,61,114,40,88,89,41,44,115,40,89,90,41,44,116,40,90,85,41,44,117,40,85,86,41]⟩:ByteArray)]
theorem Bo (M:Nat):co (M+100) (⟨#[40,88,89,90,41,61,114,40,88,89,41,44,115,40,89,90,41,44,116,40,90,88,41]⟩:ByteArray)=some ((3,[((⟨#[114]⟩:ByteArray),[0,1]),((⟨#[115]⟩:ByteArray),[1,2]),((⟨#[116]⟩:ByteArray),[2,0])],[0,1,2]),true):=by kernel_rfl
theorem Bb (M:Nat):co (M+100) (⟨#[40,88,89,90,85,41,61,114,40,88,89,41,44,115,40,89,90,41,44,116,40,90,85,41,44,117,40,85,88,41]⟩:ByteArray)=some ((4,[((⟨#[114]⟩:ByteArray),[0,1]),((⟨#[115]⟩:ByteArray),[1,2]),((⟨#[116]⟩:ByteArray),[2,3]),((⟨#[117]⟩:ByteArray),[3,0])],[0,1,2,3]),true):=by kernel_rfl
theorem AB (M:Nat):co (M+100) (⟨#[40,88,89,90,41,61,114,40,88,89,41,44,115,40,89,90,41]⟩:ByteArray)=some ((3,[((⟨#[114]⟩:ByteArray),[0,1]),((⟨#[115]⟩:ByteArray),[1,2])],[0,1,2]),true):=by kernel_rfl
theorem AT (M:Nat):co (M+100) (⟨#[40,88,41,61,114,40,88,89,41,44,115,40,89,90,41,44,116,40,90,85,41]⟩:ByteArray)=some ((4,[((⟨#[114]⟩:ByteArray),[0,1]),((⟨#[115]⟩:ByteArray),[1,2]),((⟨#[116]⟩:ByteArray),[2,3])],[0]),true):=by kernel_rfl
theorem A4 (M:Nat):co (M+100) (⟨#[40,88,89,90,41,61,118,40,88,89,90,41,44,114,40,88,89,41]⟩:ByteArray)=some ((3,[((⟨#[118]⟩:ByteArray),[0,1,2]),((⟨#[114]⟩:ByteArray),[0,1])],[0,1,2]),true):=by kernel_rfl
theorem BA (M:Nat):co (M+100) (⟨#[40,88,89,41,61,114,40,88,89,41,44,114,40,89,88,41]⟩:ByteArray)=some ((2,[((⟨#[114]⟩:ByteArray),[0,1]),((⟨#[114]⟩:ByteArray),[1,0])],[0,1]),true):=by kernel_rfl
theorem BH (M:Nat):co (M+100) (⟨#[40,88,89,90,85,41,61,118,40,88,89,90,41,44,115,40,90,85,41,44,116,40,85,88,41]⟩:ByteArray)=some ((4,[((⟨#[118]⟩:ByteArray),[0,1,2]),((⟨#[115]⟩:ByteArray),[2,3]),((⟨#[116]⟩:ByteArray),[3,0])],[0,1,2,3]),true):=by kernel_rfl
theorem Bq (M:Nat):co (M+100) (⟨#[40,88,41,61,114,40,88,88,41]⟩:ByteArray)=some ((1,[((⟨#[114]⟩:ByteArray),[0,0])],[0]),true):=by kernel_rfl
theorem A3 (M:Nat):co (M+100) (⟨#[40,88,89,41,61,114,40,88,90,41,44,115,40,90,89,41,44,114,40,88,85,41,44,115,40,85,89,41]⟩:ByteArray)=some ((4,[((⟨#[114]⟩:ByteArray),[0,2]),((⟨#[115]⟩:ByteArray),[2,1]),((⟨#[114]⟩:ByteArray),[0,3]),((⟨#[115]⟩:ByteArray),[3,1])],[0,1]),true):=by kernel_rfl
theorem Ba (M:Nat):co (M+100) (⟨#[40,41,61,114,40,88,89,41,44,115,40,89,88,41]⟩:ByteArray)=some ((2,[((⟨#[114]⟩:ByteArray),[0,1]),((⟨#[115]⟩:ByteArray),[1,0])],[]),true):=by kernel_rfl
theorem zr (M:Nat):co (M+100) (⟨#[40,88,89,90,85,86,41,61,114,40,88,89,41,44,115,40,89,90,41,44,116,40,90,85,41,44,117,40,85,86,41]⟩:ByteArray)=some ((5,[((⟨#[114]⟩:ByteArray),[0,1]),((⟨#[115]⟩:ByteArray),[1,2]),((⟨#[116]⟩:ByteArray),[2,3]),((⟨#[117]⟩:ByteArray),[3,4])],[0,1,2,3,4]),true):=by kernel_rfl
theorem vN (hN:1073741824≤N):∀ s∈yK,∃ q,co N s=some (q,true)∧QGd q:=by
 obtain ⟨M,rfl⟩:∃ M,N=M+100:=⟨N-100,by omega⟩
 intro s hs
 simp only [List.mem_cons,List.not_mem_nil,or_false] at hs
 rcases hs with rfl | rfl | rfl | rfl | rfl | rfl | rfl | rfl | rfl | rfl | rfl
 ·exact ⟨_,Bo M,by unfold QGd;decide⟩
 ·exact ⟨_,Bb M,by unfold QGd;decide⟩
 ·exact ⟨_,AB M,by unfold QGd;decide⟩
 ·exact ⟨_,AT M,by unfold QGd;decide⟩
 ·exact ⟨_,A4 M,by unfold QGd;decide⟩
 ·exact ⟨_,BA M,by unfold QGd;decide⟩
 ·exact ⟨_,BH M,by unfold QGd;decide⟩
 ·exact ⟨_,Bq M,by unfold QGd;decide⟩
 ·exact ⟨_,A3 M,by unfold QGd;decide⟩
 ·exact ⟨_,Ba M,by unfold QGd;decide⟩
 ·exact ⟨_,zr M,by unfold QGd;decide⟩
theorem nl {a:List Int} {l:List ByteArray} (ha:dP a) {p h:Int} (hc:bU a p) (hl:0<l.length):∃ x q g,iB N a p h l=some (x,q,g)∧x∈l∧bU a q:=by
 obtain ⟨x,q,g,e,b0,b1,_,hc'⟩:=bD (N:=N) ha (h:=h) (n:=(l.length:Int)) hc
 have b2:=b1 (by omega)
 unfold iB
 rw [e,bs]
 dsimp only
 rw [dT b0 b2,bs]
 exact ⟨_,_,_,rfl,List.getElem_mem _,hc'⟩
theorem gN {a:List Int} (ha:dP a) {p h n:Int} (hc:bU a p):∃ b q g,ez N a p h n=some (b,q,g)∧bU a q:=by
 obtain ⟨x,q,g,e,_,_,_,hc'⟩:=bD (N:=N) ha (h:=h) (n:=n) hc
 unfold ez
 rw [e,bs]
 exact ⟨_,_,_,rfl,hc'⟩
theorem xe {a:List Int} (ha:dP a) {z1 z7 z9 n:Int} {z2 z5 z8:List bc} {z3 z6 z10:List Int} {s:ByteArray}:∀ (d k:Nat) (acc:List Int) (p h m:Int),bU a p→m.toNat=d→m≤10→d<k→acc.length+d≤100 →
  ∃ q g vs m',gu N k a p h z1 z2 z3 z7 z5 z6 n z8 z10 z9 s acc m=some (q,g,vs,m')∧bU a q∧vs.length=acc.length+d:=by
 intro d
 induction d with
 | zero =>
  intro k acc p h m hc hd _ hk _
  obtain ⟨k,rfl⟩:∃ g,k=g+1:=⟨k-1,by omega⟩
  rw [gu,decide_eq_false (show ¬ 0<m by omega),cond_false]
  exact ⟨_,_,_,_,rfl,hc,by omega⟩
 | succ d ih =>
  intro k acc p h m hc hd hm hk hl
  obtain ⟨k,rfl⟩:∃ g,k=g+1:=⟨k-1,by omega⟩
  obtain ⟨x,q,g,e,_,_,_,hc'⟩:=bD (N:=N) ha (h:=h) (n:=n) hc
  rw [gu,decide_eq_true (show 0<m by omega),cond_true,e,bs]
  dsimp only
  rw [bk (by decide) (by simp;omega),bs,cI (by omega) (by omega),bs]
  obtain ⟨q',g',vs,m',e',k1,k2⟩:=ih k (acc++[x]) q g (m-1) hc' (by omega) (by omega) (by omega) (by simp;omega)
  exact ⟨q',g',vs,m',e',k1,by simp at k2;omega⟩
theorem xm (hN:1073741824≤N) {a:List Int} (ha:dP a) {z1 z4 n:Int} {z2 z5:List bc} {z3 z6 z7:List Int}:∀ (d k:Nat) (acc:List bc) (p h m:Int),bU a p→m.toNat=d→m≤10→d<k→acc.length+d≤100→(∀ x∈acc,x.1.size≤4∧1≤x.2.length∧x.2.length≤5) →
  ∃ q g ats m',gt N k a p h z1 z2 z3 z4 z5 z6 n acc z7 m=some (q,g,ats,m')∧bU a q∧ats.length=acc.length+d∧∀ x∈ats,x.1.size≤4∧1≤x.2.length∧x.2.length≤5:=by
 intro d
 induction d with
 | zero =>
  intro k acc p h m hc hd _ hk _ hx
  obtain ⟨k,rfl⟩:∃ g,k=g+1:=⟨k-1,by omega⟩
  rw [gt,decide_eq_false (show ¬ 0<m by omega),cond_false]
  exact ⟨_,_,_,_,rfl,hc,by omega,hx⟩
 | succ d ih =>
  intro k acc p h m hc hd hm hk hl hx
  obtain ⟨k,rfl⟩:∃ g,k=g+1:=⟨k-1,by omega⟩
  obtain ⟨x,q,g,e,b0,b1,_,hc'⟩:=bD (N:=N) ha (h:=h) (n:=5) hc
  have b1:=b1 (by decide)
  rw [gt,decide_eq_true (show 0<m by omega),cond_true,e,bs]
  dsimp only
  have hi:x<(([(⟨#[114]⟩:ByteArray),(⟨#[115]⟩:ByteArray),(⟨#[116]⟩:ByteArray),(⟨#[117]⟩:ByteArray),(⟨#[118]⟩:ByteArray)]:List ByteArray).length:Int):=b1
  rw [dT b0 hi,bs,C6 b0 (by decide) (by omega),bs]
  have ht:0≤x.tdiv 4∧x.tdiv 4≤1:=by
   rw [Int.tdiv_eq_ediv_of_nonneg b0];omega
  rw [fR (by omega) (by omega),bs]
  have hs:∀ s∈([(⟨#[114]⟩:ByteArray),(⟨#[115]⟩:ByteArray),(⟨#[116]⟩:ByteArray),(⟨#[117]⟩:ByteArray),(⟨#[118]⟩:ByteArray)]:List ByteArray),s.size≤4:=by decide
  have hs':=hs _ (List.getElem_mem (l:=([(⟨#[114]⟩:ByteArray),(⟨#[115]⟩:ByteArray),(⟨#[116]⟩:ByteArray),(⟨#[117]⟩:ByteArray),(⟨#[118]⟩:ByteArray)]:List ByteArray)) (n:=x.toNat) (by omega))
  obtain ⟨q',g',vs,m',e',k1,k2⟩:=xe (N:=N) ha (z1:=z1) (z2:=z2) (z3:=z3) (z7:=z4) (z5:=z5) (z6:=z6) (n:=n) (z8:=acc) (z10:=z7) (z9:=m) (s:=([(⟨#[114]⟩:ByteArray),(⟨#[115]⟩:ByteArray),(⟨#[116]⟩:ByteArray),(⟨#[117]⟩:ByteArray),(⟨#[118]⟩:ByteArray)]:List ByteArray)[x.toNat]) (2+x.tdiv 4).toNat N [] q g (2+x.tdiv 4) hc' rfl (by omega) (by omega) (by simp;omega)
  rw [e',bs]
  unfold lpB
  dsimp only
  rw [bk (by decide) (by simp;omega),bs,cI (by omega) (by omega),bs]
  simp only [List.length_nil,Nat.zero_add] at k2
  obtain ⟨q2,g2,ats,m2,e2,j1,j2,j3⟩:=ih k (acc++[(_,vs)]) q' g' (m-1) k1 (by omega) (by omega) (by omega) (by simp;omega) (fun y hy=>by
   rcases List.mem_append.1 hy with h | h
   ·exact hx y h
   ·rw [List.mem_singleton] at h;rw [h]
    exact ⟨hs',by show 1≤vs.length;omega,by show vs.length≤5;omega⟩)
  exact ⟨q2,g2,ats,m2,e2,j1,by simp at j2;omega,j3⟩
theorem xD {a:List Int} (ha:dP a) {z1 z4:Int} {n:Nat} {z2 z5 z8:List bc} {z3 z6:List Int} (hn:n≤10):∀ (d k:Nat) (acc:List Int) (p h:Int) (i:Nat),bU a p→i+d=n→d<k→acc.length≤i →
  ∃ q g out v,fc N k a p h z1 z2 z3 z4 z5 z6 (n:Int) z8 acc (i:Int)=some (q,g,out,v)∧bU a q∧out.length≤n:=by
 intro d
 induction d with
 | zero =>
  intro k acc p h i hc hd hk hl
  obtain ⟨k,rfl⟩:∃ g,k=g+1:=⟨k-1,by omega⟩
  rw [fc,decide_eq_false (show ¬ (i:Int)<(n:Int) by omega),cond_false]
  exact ⟨_,_,_,_,rfl,hc,by omega⟩
 | succ d ih =>
  intro k acc p h i hc hd hk hl
  obtain ⟨k,rfl⟩:∃ g,k=g+1:=⟨k-1,by omega⟩
  obtain ⟨b,q,g,e,hc'⟩:=gN (N:=N) ha (h:=h) (n:=2) hc
  rw [fc,decide_eq_true (show (i:Int)<(n:Int) by omega),cond_true,e,bs]
  dsimp only
  cases b with
  | true =>
   rw [cond_true,bk (by decide) (by simp;omega),bs,ad1 (by omega),bs]
   exact ih k _ q g (i+1) hc' (by omega) (by omega) (by simp;omega)
  | false =>
   rw [cond_false,ad1 (by omega),bs]
   exact ih k _ q g (i+1) hc' (by omega) (by omega) (by omega)
theorem pE (hN:1073741824≤N) {a:List Int} (ha:dP a) {p h:Int} (hc:bU a p):∃ r q g,iJ N a p h=some (r,q,g)∧bU a q∧QGd r:=by
 unfold iJ
 obtain ⟨s,q,g,e,hs,hc1⟩:=nl (N:=N) ha (h:=h) (l:=yK) hc (by decide)
 obtain ⟨r,er,hr⟩:=vN hN s hs
 rw [e,bs]
 dsimp only
 rw [er,bs]
 obtain ⟨b,q2,g2,e2,hc2⟩:=gN (N:=N) ha (h:=g) (n:=3) hc1
 rw [e2,bs]
 dsimp only
 cases b with
 | false=>rw [cond_false];exact ⟨_,_,_,rfl,hc2,hr⟩
 | true =>
  obtain ⟨x,q3,g3,e3,b0,b1,_,hc3⟩:=bD (N:=N) ha (h:=g2) (n:=4) hc2
  have b1:=b1 (by decide)
  rw [cond_true,e3,bs]
  dsimp only
  obtain ⟨y,q4,g4,e4,c0,c1,_,hc4⟩:=bD (N:=N) ha (h:=g3) (n:=4) hc3
  have c1:=c1 (by decide)
  rw [fR (by omega) (by omega),bs,e4,bs]
  dsimp only
  rw [fR (by omega) (by omega),bs]
  obtain ⟨q5,g5,ats,m5,e5,hc5,l5,a5⟩:=xm hN ha (z1:=0) (z2:=[]) (z3:=[]) (z4:=r.1) (z5:=r.2.1) (z6:=r.2.2) (n:=1+x) (z7:=[]) (1+y).toNat N [] q4 g4 (1+y) hc4 rfl (by omega) (by omega) (by simp;omega) (by simp)
  rw [e5,bs]
  unfold lpB
  dsimp only
  have hx:((x.toNat+1:Nat):Int)=1+x:=by omega
  obtain ⟨q6,g6,out,v6,e6,hc6,l6⟩:=xD (N:=N) ha (z1:=0) (z2:=[]) (z3:=[]) (z4:=r.1) (z5:=r.2.1) (z6:=r.2.2) (n:=x.toNat+1) (z8:=ats) (by omega) (x.toNat+1) N [] q5 g5 0 hc5 (by omega) (by omega) (by simp)
  rw [hx] at e6
  have e6':fc N N a q5 g5 0 [] [] r.1 r.2.1 r.2.2 (1+x) ats [] 0=some (q6,g6,out,v6):=e6
  simp only [List.length_nil,Nat.zero_add] at l5
  have hq:QGd (1+x,ats,out):=⟨⟨by show 1≤1+x;omega,by show 1+x≤5;omega⟩,⟨by show 1≤ats.length;omega,by show ats.length≤4;omega⟩,a5,by show out.length≤5;omega⟩
  rw [e6',bs]
  dsimp only
  rw [fQ hN (QSm.atoms hq.sm) (QSm.out hq.sm),bs]
  cases fH (1+x) ats out with
  | true=>rw [cond_true];exact ⟨_,_,_,rfl,hc6,hq⟩
  | false=>rw [cond_false];exact ⟨_,_,_,rfl,hc6,hr⟩
theorem xd (hN:1073741824≤N) {a:List Int} (ha:dP a) {p h:Int} (hc:bU a p):∃ r q g,kK N a p h=some (r,q,g)∧bU a q∧QSm r:=by
 obtain ⟨⟨n,ats,out⟩,q,g,e,hc1,hr⟩:=pE hN ha (h:=h) hc
 obtain ⟨x,q2,g2,e2,_,_,_,hc2⟩:=bD (N:=N) ha (h:=g) (n:=14) hc1
 unfold kK
 rw [e,bs]
 dsimp only
 rw [e2,bs]
 dsimp only
 have hn:=hr.1;have ha1:=hr.2.1;have ha2:=hr.2.2.1;have ho:=hr.2.2.2
 dsimp only at hn ha1 ha2 ho
 have hsm:=hr.sm
 cases h0:(x == 0) with
 | true =>
  rw [cond_true,fR (by omega) (by omega),bs]
  obtain ⟨y,q3,g3,e3,hy,hc3⟩:=gT (N:=N) ha (h:=g2) (l:=[0,6,n+1]) hc2 (Nat.zero_lt_succ _)
  rw [e3,bs]
  refine ⟨_,_,_,rfl,hc3,⟨?_,hsm.2⟩⟩
  simp only [List.mem_cons,List.not_mem_nil,or_false] at hy
  show 0≤y∧y≤6
  omega
 | false =>
 rw [cond_false]
 cases h1:(x == 1) with
 | true =>
  rw [cond_true]
  obtain ⟨y,q3,g3,e3,hy,hc3⟩:=nl (N:=N) ha (h:=g2) (l:=[ByteArray.empty,(⟨#[119]⟩:ByteArray),(⟨#[114]⟩:ByteArray)]) hc2 (by decide)
  have hys:∀ s∈[ByteArray.empty,(⟨#[119]⟩:ByteArray),(⟨#[114]⟩:ByteArray)],s.size≤4:=by decide
  rw [e3,bs,bk (by decide) (by simp;omega),bs]
  refine ⟨_,_,_,rfl,hc3,hsm.1,by show (ats++[_]).length≤5;simp;omega,fun b hb=>?_,hsm.2.2.2⟩
  rcases List.mem_append.1 hb with h | h
  ·exact hsm.2.2.1 b h
  ·rw [List.mem_singleton] at h;rw [h];exact ⟨hys y hy,by show ([0]:List Int).length≤5;decide⟩
 | false =>
 rw [cond_false]
 cases h2:(x == 2) with
 | true =>
  rw [cond_true]
  obtain ⟨y,q3,g3,e3,b0,b1,_,hc3⟩:=bD (N:=N) ha (h:=g2) (n:=6) hc2
  have b1:=b1 (by decide)
  rw [e3,bs]
  dsimp only
  rw [cI (by omega) (by omega),bs,bk (by decide) (by simp;omega),bs]
  exact ⟨_,_,_,rfl,hc3,hsm.1,hsm.2.1,hsm.2.2.1,by show (out++[_]).length≤6;simp;omega⟩
 | false =>
 rw [cond_false]
 have hl:0<ats.length:=by omega
 have i0:ix ats 0=some ats[0]:=aM hl
 have hm0:=ha2 _ (List.getElem_mem hl)
 cases h3:(x == 3) with
 | true =>
  have s0:sto ats 0 (ats[0].1,[])=some (ats.set 0 (ats[0].1,[])):=gV hl
  rw [cond_true,i0,bs,s0,bs]
  refine ⟨_,_,_,rfl,hc2,hsm.1,by show (ats.set 0 _).length≤5;rw [List.length_set];omega,fun b hb=>?_,hsm.2.2.2⟩
  rcases List.mem_or_eq_of_mem_set hb with h | h
  ·exact hsm.2.2.1 b h
  ·rw [h];exact ⟨hm0.1,Nat.zero_le _⟩
 | false =>
 rw [cond_false]
 cases h4:(x == 4) with
 | true =>
  obtain ⟨y,q3,g3,e3,hy,hc3⟩:=gT (N:=N) ha (h:=g2) (l:=[(-1),5]) hc2 (by decide)
  have hl1:0<ats[0].2.length:=by omega
  have i1:ix ats[0].2 0=some ats[0].2[0]:=aM hl1
  have s1:sto ats[0].2 0 y=some (ats[0].2.set 0 y):=gV hl1
  have s0:sto ats 0 (ats[0].1,ats[0].2.set 0 y)=some (ats.set 0 (ats[0].1,ats[0].2.set 0 y)):=gV hl
  rw [cond_true,i0,bs,e3,bs,i1,bs,s1,bs,s0,bs]
  refine ⟨_,_,_,rfl,hc3,hsm.1,by show (ats.set 0 _).length≤5;rw [List.length_set];omega,fun b hb=>?_,hsm.2.2.2⟩
  rcases List.mem_or_eq_of_mem_set hb with h | h
  ·exact hsm.2.2.1 b h
  ·rw [h];exact ⟨hm0.1,by show (ats[0].2.set 0 y).length≤5;rw [List.length_set];exact hm0.2.2⟩
 | false =>
 rw [cond_false]
 exact ⟨_,_,_,rfl,hc2,hsm⟩
end
def TSm (t:be):Prop:=t.1.size≤5∧t.2.2.length≤10∧∀ r∈t.2.2,r.length≤6
def DSm (ts:List be):Prop:=ts.length≤6∧∀ t∈ts,TSm t
theorem DSm.ok {ts:List be} (h:DSm ts):nj ts:=⟨by have:=h.1;omega,fun t ht=>by
 obtain ⟨h1,h2,h3⟩:=h.2 t ht
 exact ⟨by omega,by omega,fun r hr=>⟨by have:=h3 r hr;omega,fun _ _=>trivial⟩⟩⟩
theorem zG:∀ (n:Nat) (l:List Int),l.length<n→∃ v:Nat,v<n∧(v:Int)∉l:=by
 intro n
 induction n with
 | zero=>intro l h;omega
 | succ n ih =>
  intro l h
  by_cases hm:(n:Int)∈l
  ·have hl:=List.length_erase_of_mem hm
   have hp:=List.length_pos_of_mem hm
   obtain ⟨v,h1,h2⟩:=ih (l.erase (n:Int)) (by omega)
   exact ⟨v,by omega,fun hv=>h2 ((List.mem_erase_of_ne (by omega)).2 hv)⟩
  ·exact ⟨n,by omega,hm⟩
section
variable {N:Nat}
abbrev kR:List ByteArray:=[(⟨#[114]⟩:ByteArray),(⟨#[115]⟩:ByteArray),(⟨#[116]⟩:ByteArray),(⟨#[117]⟩:ByteArray),(⟨#[118]⟩:ByteArray)]
theorem yU {n m y:Int} {rows:aT} {s:ByteArray} (hs:s.size≤5) (hn:n≤5) (hy:y≤10) (hl:(rows.length:Int)≤y) (hr:∀ r∈rows,(r.length:Int)=n∧∀ v∈r,0≤v∧v<m):TSm (s,(n,rows)) :=
 ⟨hs,by show rows.length≤10;omega,fun r h=>by have:=(hr r h).1;omega⟩
theorem Cs (hM:1073742848≤N) {a:List Int} (ha:dP a) {z:List be} {m:Int} (hm:0<m∧m≤100):∀ (d k:Nat) (acc:List be) (p h:Int) (i:Nat),bU a p→i+d=5→d<k→acc.length=i→(∀ t∈acc,TSm t) →
  ∃ q g ts v,gp N k a p h z m acc kR (kR.length:Int) (i:Int)=some (q,g,ts,v)∧bU a q∧ts.length=5∧∀ t∈ts,TSm t:=by
 intro d
 induction d with
 | zero =>
  intro k acc p h i hc hd hk hl ht
  obtain ⟨k,rfl⟩:∃ g,k=g+1:=⟨k-1,by omega⟩
  rw [gp,decide_eq_false (show ¬ (i:Int)<(kR.length:Int) by show ¬ (i:Int)<5;omega),cond_false]
  exact ⟨_,_,_,_,rfl,hc,by omega,ht⟩
 | succ d ih =>
  intro k acc p h i hc hd hk hl ht
  obtain ⟨k,rfl⟩:∃ g,k=g+1:=⟨k-1,by omega⟩
  have hi:i<kR.length:=by show i<5;omega
  have hs:∀ s∈kR,s.size≤5:=by decide
  have hs':=hs _ (List.getElem_mem hi)
  rw [gp,decide_eq_true (show (i:Int)<(kR.length:Int) by omega),cond_true,aM hi,bs]
  obtain ⟨y,q,g,e,hy,hc1⟩:=gT (N:=N) ha (h:=h) (l:=[3,6,9]) hc (by decide)
  have hyb:0≤y∧y≤10:=by
   simp only [List.mem_cons,List.not_mem_nil,or_false] at hy
   omega
  cases eqS kR[i] (⟨#[118]⟩:ByteArray) with
  | true =>
   obtain ⟨rows,q2,g2,e2,hc2,r1,r2⟩:=kU hM ha (h:=g) (n:=3) (m:=m) (y:=y) hc1 hm (by decide) (by omega)
   rw [cond_true,e,bs]
   dsimp only
   rw [e2,bs]
   dsimp only
   rw [bk (by decide) (by simp;omega),bs,ad1 (by omega),bs]
   refine ih k _ q2 g2 (i+1) hc2 (by omega) (by omega) (by simp;omega) fun t h=>?_
   rcases List.mem_append.1 h with h | h
   ·exact ht t h
   ·rw [List.mem_singleton] at h;rw [h];exact yU hs' (by decide) hyb.2 r1 r2
  | false =>
   obtain ⟨rows,q2,g2,e2,hc2,r1,r2⟩:=kU hM ha (h:=g) (n:=2) (m:=m) (y:=y) hc1 hm (by decide) (by omega)
   rw [cond_false,e,bs]
   dsimp only
   rw [e2,bs]
   dsimp only
   rw [bk (by decide) (by simp;omega),bs,ad1 (by omega),bs]
   refine ih k _ q2 g2 (i+1) hc2 (by omega) (by omega) (by simp;omega) fun t h=>?_
   rcases List.mem_append.1 h with h | h
   ·exact ht t h
   ·rw [List.mem_singleton] at h;rw [h];exact yU hs' (by decide) hyb.2 r1 r2
theorem sM {ts:List be} {i:Nat} {t:be} (h:∀ t∈ts,TSm t) (ht:TSm t):∀ u∈ts.set i t,TSm u:=fun u hu=>by
 rcases List.mem_or_eq_of_mem_set hu with h' | h'
 ·exact h u h'
 ·rw [h'];exact ht
theorem pX {α:Type} {xs:List α} {i:Int} {y:α} (h0:0≤i) (h:i<xs.length):sto xs i y=some (xs.set i.toNat y):=by
 obtain ⟨k,rfl⟩:=Int.eq_ofNat_of_zero_le h0
 exact gV (by omega)
theorem tK (hM:1073742848≤N) {a:List Int} (ha:dP a) {p h:Int} (hc:bU a p):∃ ts q g,kA N a p h=some (ts,q,g)∧bU a q∧ts.length=5∧∀ t∈ts,TSm t:=by
 unfold kA
 obtain ⟨m,q,g,e,hm,hc1⟩:=gT (N:=N) ha (h:=h) (l:=[2,3,4,6]) hc (by decide)
 have hmb:0<m∧m≤100:=by
  simp only [List.mem_cons,List.not_mem_nil,or_false] at hm
  omega
 rw [e,bs]
 dsimp only
 obtain ⟨q2,g2,ts,v,e2,hc2,hl,ht⟩:=Cs hM ha (z:=[]) hmb 5 N [] q g 0 hc1 rfl (by omega) rfl (by simp)
 have e2':gp N N a q g [] m [] kR (kR.length:Int) 0=some (q2,g2,ts,v):=e2
 rw [e2',bs]
 unfold lpB
 dsimp only
 obtain ⟨b,q3,g3,e3,hc3⟩:=gN (N:=N) ha (h:=g2) (n:=8) hc2
 rw [e3,bs]
 dsimp only
 cases b with
 | false=>rw [cond_false];exact ⟨_,_,_,rfl,hc3,hl,ht⟩
 | true =>
  obtain ⟨x,q4,g4,e4,b0,b1,_,hc4⟩:=bD (N:=N) ha (h:=g3) (n:=5) hc3
  have b1:=b1 (by decide)
  have hx:x<(ts.length:Int):=by omega
  have hm:=ht _ (List.getElem_mem (show x.toNat<ts.length by omega))
  rw [cond_true,e4,bs]
  dsimp only
  rw [dT b0 hx,bs,pX b0 hx,bs]
  exact ⟨_,_,_,rfl,hc4,by rw [List.length_set];exact hl,sM ht ⟨hm.1,Nat.zero_le _,fun r hr=>by cases hr⟩⟩
theorem un.t {r:Int × aT} {s:ByteArray} (hs:s.size≤5) (k:un r):TSm (s,r):=⟨hs,by show r.2.length≤10;have:=k.2.1;omega,fun w hw=>(k.2.2 w hw).1⟩
theorem xC (hM:1073742848≤N) {a:List Int} (ha:dP a) {p h:Int} (hc:bU a p):∃ ts q g,kL N a p h=some (ts,q,g)∧bU a q∧DSm ts:=by
 have hN:1073741824≤N:=by omega
 obtain ⟨ts,q,g,e,hc1,hl,ht⟩:=tK hM ha (h:=h) hc
 obtain ⟨x,q2,g2,e2,b0,b1,_,hc2⟩:=bD (N:=N) ha (h:=g) (n:=5) hc1
 have b1:=b1 (by decide)
 obtain ⟨y,q3,g3,e3,_,_,_,hc3⟩:=bD (N:=N) ha (h:=g2) (n:=14) hc2
 have hx:x<(ts.length:Int):=by omega
 have hm:=ht _ (List.getElem_mem (show x.toNat<ts.length by omega))
 unfold kL
 rw [e,bs]
 dsimp only
 rw [e2,bs]
 dsimp only
 rw [e3,bs]
 dsimp only
 cases h0:(y == 0) with
 | true =>
  obtain ⟨s,q4,g4,e4,hs,hc4⟩:=nl (N:=N) ha (h:=g3) (l:=[ByteArray.empty,(⟨#[82]⟩:ByteArray),(⟨#[97,98,99,100,101]⟩:ByteArray),(⟨#[97]⟩:ByteArray),(⟨#[122]⟩:ByteArray)]) hc3 (by decide)
  have hss:∀ s∈[ByteArray.empty,(⟨#[82]⟩:ByteArray),(⟨#[97,98,99,100,101]⟩:ByteArray),(⟨#[97]⟩:ByteArray),(⟨#[122]⟩:ByteArray)],s.size≤5:=by decide
  rw [cond_true,e4,bs,dT b0 hx,bs,pX b0 hx,bs]
  exact ⟨_,_,_,rfl,hc4,by rw [List.length_set];omega,sM ht ⟨hss s hs,hm.2⟩⟩
 | false =>
 rw [cond_false]
 cases h1:(y == 1) with
 | true =>
  obtain ⟨r,q4,g4,e4,hc4,hr⟩:=wU hM ha (h:=g3) hc3
  rw [cond_true,e4,bs,dT b0 hx,bs,pX b0 hx,bs]
  exact ⟨_,_,_,rfl,hc4,by rw [List.length_set];omega,sM ht (hr.t hm.1)⟩
 | false =>
 rw [cond_false]
 cases h2:(y == 2) with
 | true =>
  rw [cond_true,dT b0 hx,bs,bk (by decide) (by simp;omega),bs]
  refine ⟨_,_,_,rfl,hc3,by simp;omega,fun t h=>?_⟩
  rcases List.mem_append.1 h with h | h
  ·exact ht t h
  ·rw [List.mem_singleton] at h;rw [h];exact hm
 | false =>
 rw [cond_false]
 cases h3:(y == 3) with
 | true =>
  have es:slc ts 0 x=some ((ts.take x.toNat).drop 0):=by
   have:=i9 (xs:=ts) (lo:=0) (hi:=x.toNat) (by omega) (by omega)
   rwa [show ((x.toNat:Nat):Int)=x by omega] at this
  rw [cond_true,es,bs]
  refine ⟨_,_,_,rfl,hc3,by rw [List.drop_zero,List.length_take];omega,fun t h=>ht t (List.mem_of_mem_take (by simpa using h))⟩
 | false =>
 rw [cond_false]
 exact ⟨_,_,_,rfl,hc3,by omega,ht⟩
theorem vX (hM:1073742848≤N) {a:List Int} (ha:dP a) {p h:Int} (hc:bU a p):∃ ts r q g,kc N a p h=some (ts,r,q,g)∧bU a q∧DSm ts∧QSm r:=by
 have hN:1073741824≤N:=by omega
 obtain ⟨ts,q,g,e,hc1,hl,ht⟩:=tK hM ha (h:=h) hc
 obtain ⟨r,q2,g2,e2,hc2,hr⟩:=pE hN ha (h:=g) hc1
 obtain ⟨y,q3,g3,e3,_,_,_,hc3⟩:=bD (N:=N) ha (h:=g2) (n:=24) hc2
 unfold kc
 rw [e,bs]
 dsimp only
 rw [e2,bs]
 dsimp only
 rw [e3,bs]
 dsimp only
 cases h0:(y == 0) with
 | true =>
  obtain ⟨ts2,q4,g4,e4,hc4,ht4⟩:=xC hM ha (h:=g3) hc3
  rw [cond_true,e4,bs]
  exact ⟨_,_,_,_,rfl,hc4,ht4,hr.sm⟩
 | false =>
 rw [cond_false]
 cases h1:(y == 1) with
 | true =>
  obtain ⟨r2,q4,g4,e4,hc4,hr4⟩:=xd hN ha (h:=g3) hc3
  rw [cond_true,e4,bs]
  exact ⟨_,_,_,_,rfl,hc4,⟨by omega,ht⟩,hr4⟩
 | false =>
 rw [cond_false]
 exact ⟨_,_,_,_,rfl,hc3,⟨by omega,ht⟩,hr.sm⟩
theorem w9 (hN:1073741824≤N) {a acc:List Int} {p h:Int} {n v:Nat} (hn:n≤5) (hacc:acc.length≤5) (hv:v<n) (hf:(v:Int)∉acc):∀ (d k r:Nat),r<n→(r+d=v∨r+d=v+n)→d≤n→d<k→∃ x:Int,fM N k a p h (n:Int) acc (r:Int)=some x∧0≤x∧x<n:=by
 intro d
 induction d with
 | zero =>
  intro k r hr hd _ hk
  obtain ⟨k,rfl⟩:∃ g,k=g+1:=⟨k-1,by omega⟩
  have:r=v:=by omega
  subst this
  have hneg:¬ 0≤bZ acc (r:Int):=fun h=>hf (ll.1 h)
  rw [fM,ik hN (by omega),bs,decide_eq_false hneg,cond_false]
  exact ⟨_,rfl,by omega,by omega⟩
 | succ d ih =>
  intro k r hr hd hdn hk
  obtain ⟨k,rfl⟩:∃ g,k=g+1:=⟨k-1,by omega⟩
  rw [fM,ik hN (by omega),bs]
  by_cases hq:0≤bZ acc (r:Int)
  ·rw [decide_eq_true hq,cond_true,ad1 (by omega),bs,ry (by omega),bs]
   by_cases hw:r+1=n
   ·have e:(((r+1:Nat):Int)).tmod (n:Int)=((0:Nat):Int):=by rw [hw,Int.tmod_self];rfl
    rw [e]
    exact ih k 0 (by omega) (by omega) (by omega) (by omega)
   ·have e:(((r+1:Nat):Int)).tmod (n:Int)=((r+1:Nat):Int):=Int.tmod_eq_of_lt (by omega) (by omega)
    rw [e]
    exact ih k (r+1) (by omega) (by omega) (by omega) (by omega)
  ·rw [decide_eq_false hq,cond_false]
   exact ⟨_,rfl,by omega,by omega⟩
theorem xh (hN:1073741824≤N) {a:List Int} (ha:dP a) {n:Nat} (hn:n≤5):∀ (d k:Nat) (acc:List Int) (p h:Int),bU a p→acc.length+d=n→d<k→(∀ v∈acc,0≤v∧v<n) →
  ∃ q g out,gv N k a p h (n:Int) acc=some (q,g,out)∧bU a q∧out.length=n∧∀ v∈out,0≤v∧v<n:=by
 intro d
 induction d with
 | zero =>
  intro k acc p h hc hd hk hv
  obtain ⟨k,rfl⟩:∃ g,k=g+1:=⟨k-1,by omega⟩
  rw [gv,decide_eq_false (by omega),cond_false]
  exact ⟨_,_,_,rfl,hc,by omega,hv⟩
 | succ d ih =>
  intro k acc p h hc hd hk hv
  obtain ⟨k,rfl⟩:∃ g,k=g+1:=⟨k-1,by omega⟩
  obtain ⟨x,q,g,e,b0,b1,_,hc1⟩:=bD (N:=N) ha (h:=h) (n:=(n:Int)) hc
  have b1:=b1 (by omega)
  obtain ⟨v,hv1,hv2⟩:=zG n acc (by omega)
  obtain ⟨r,rfl⟩:=Int.eq_ofNat_of_zero_le b0
  obtain ⟨y,e2,y0,y1⟩:=w9 hN (a:=a) (p:=q) (h:=g) hn (by omega) hv1 hv2 (if r≤v then v-r else v+n-r) N r (by omega) (by split <;> omega) (by split <;> omega) (by split <;> omega)
  rw [gv,decide_eq_true (by omega),cond_true,e,bs]
  dsimp only
  have e2':fM N N a q g (n:Int) acc ((r:Nat):Int)=some y:=e2
  rw [e2',bs]
  unfold lpB
  dsimp only
  rw [bk (by decide) (by simp;omega),bs]
  refine ih k _ q g hc1 (by simp;omega) (by omega) fun w hw=>?_
  rcases List.mem_append.1 hw with h | h
  ·exact hv w h
  ·rw [List.mem_singleton] at h;rw [h];exact ⟨y0,y1⟩
theorem uq (hN:1073741824≤N) {a:List Int} (ha:dP a) {p h:Int} {n:Nat} (hn:n≤5) (hc:bU a p):∃ out q g,jK N a p h (n:Int)=some (out,q,g)∧bU a q∧out.length=n:=by
 obtain ⟨q,g,out,e,h1,h2,_⟩:=xh hN ha hn n N [] p h hc (by simp) (by omega) (by simp)
 unfold jK
 rw [e,bs]
 exact ⟨_,_,_,rfl,h1,h2⟩
theorem tY (hN:1073741824≤N) {a:List Int} (ha:dP a) {p h n:Int} {ats:List bc} {o:List Int} (hc:bU a p):∃ out q g,ja N a p h n ats o=some (out,q,g)∧bU a q∧out.length≤5:=by
 unfold ja
 have hi:∃ m:Nat,imx 0 (imn 5 n)=(m:Int)∧m≤5:=by
  have h1:0≤imx 0 (imn 5 n)∧imx 0 (imn 5 n)≤5:=by
   unfold imx imn
   split <;> split at*<;> omega
  exact ⟨(imx 0 (imn 5 n)).toNat,by omega,by omega⟩
 obtain ⟨m,em,hm⟩:=hi
 obtain ⟨out,q,g,e,hc1,hl⟩:=uq hN ha (h:=h) hm hc
 rw [em,e,bs]
 dsimp only
 by_cases h0:(0:Int)<(out.length:Int)
 ·obtain ⟨b,q2,g2,e2,hc2⟩:=gN (N:=N) ha (h:=g) (n:=14) hc1
  rw [decide_eq_true h0,cond_true,e2,bs]
  dsimp only
  cases b with
  | false=>rw [cond_false];exact ⟨_,_,_,rfl,hc2,by omega⟩
  | true =>
   obtain ⟨x,q3,g3,e3,_,_,_,hc3⟩:=bD (N:=N) ha (h:=g2) (n:=6) hc2
   rw [cond_true,e3,bs,dT (by decide) h0,bs,pX (by decide) h0,bs]
   exact ⟨_,_,_,rfl,hc3,by rw [List.length_set];omega⟩
 ·rw [decide_eq_false h0,cond_false];exact ⟨_,_,_,rfl,hc1,by rw [hl];exact hm⟩
def JSm (ts:List be) (r:mD) (o:List Int):Prop:=DSm ts∧QSm r∧o.length≤5
theorem JSm.o {ts:List be} {r:mD} {o:List Int} (h:JSm ts r o):okI o:=⟨by have:=h.2.2;omega,fun _ _=>trivial⟩
theorem uG (hM:1073742848≤N) {a:List Int} (ha:dP a) {p h:Int} (hc:bU a p):∃ ts r o q g,jE N a p h=some (ts,r,o,q,g)∧bU a q∧JSm ts r o:=by
 obtain ⟨ts,r,q,g,e,hc1,ht,hr⟩:=vX hM ha (h:=h) hc
 unfold jE
 rw [e,bs]
 dsimp only
 obtain ⟨o,q2,g2,e2,hc2,hl⟩:=tY (N:=N) (by omega) ha (h:=g) (n:=r.1) (ats:=r.2.1) (o:=r.2.2) hc1
 rw [e2,bs]
 exact ⟨_,_,_,_,_,rfl,hc2,ht,hr,hl⟩
theorem BX {a:List Int}:bU a 0:=⟨Int.le_refl _,by omega⟩
end
theorem ti {f:Nxt}:∀ {m:Nat} {p0 s r:List Int},r∈(bJ f m p0).1→s.length<m→r.take (p0++s).length=p0++s→∃ h:(p0++s).length<r.length,r[(p0++s).length]∈(f (p0++s)).1
 | 0,_,_,_,_,hs,_=>absurd hs (Nat.not_lt_zero _)
 | m+1,p0,s,r,hr,hs,ht=>by
  obtain ⟨v,hv,hr⟩:=List.mem_flatMap.1 hr
  obtain ⟨s',e,hl⟩:=ku hr
  cases s with
  | nil =>
   subst e
   simp only [List.append_nil]
   refine ⟨by simp,?_⟩
   have:(p0++[v]++s')[p0.length]'(by simp)=v:=by simp
   rw [this];exact hv
  | cons w s =>
   have hw:w=v:=by
    subst e
    have h1:=congrArg (fun l:List Int=>l[p0.length]?) ht
    simp only [List.length_append,List.length_cons,List.append_assoc] at h1
    rw [List.getElem?_take_of_lt (by omega)] at h1
    simpa using h1.symm
   subst hw
   have e2:p0++w :: s=p0++[w]++s:=by simp
   rw [e2] at ht ⊢
   exact ti hr (by simp at hs;omega) ht
theorem tM {f g:Nxt} {n:Nat} (h:∀ p:List Int,p.length<n→(f p).1=(g p).1):∀ (m:Nat) (p:List Int),p.length+m≤n→(bJ f m p).1=(bJ g m p).1
 | 0,_,_=>rfl
 | m+1,p,hp=>by
  show (f p).1.flatMap (fun v=>(bJ f m (p++[v])).1)=(g p).1.flatMap fun v=>(bJ g m (p++[v])).1
  rw [h p (by omega)]
  congr 1
  funext v
  exact tM h m _ (by simp;omega)
theorem sF {ts:List be} {n:Nat} {atoms:List bc} {order:List Int} (q:QFor ts n atoms order):(bJ (bI ts order atoms) n []).1=(bJ (sv ts order atoms) n []).1 :=
 tM (n:=n) (fun p hp=>vC ((kn q).asc p) ((zE q).asc p) (CP q hp)) n [] (by simp)
section
variable {N:Nat}
theorem vm (hN:1073741824≤N) {xs ys:List Int} (hx:xs.length≤1048576):jf N xs ys=some (decide (xs=ys)):=by
 unfold jf
 by_cases hl:xs.length=ys.length
 ·rw [CN hl,cond_false]
  refine Cw (L:=fun k i=>eg N k xs ys i) hl hx hN (fun k i h h'=>?_) (fun k=>?_)
  ·show eg N (k+1) xs ys (i:Int)=_
   rw [eg,dlt h,cond_true,aM h,bs,aM h',bs,o6,ad1 (by omega),bs]
   cases decide (xs[i]=ys[i]) <;> rfl
  ·show eg N (k+1) xs ys (xs.length:Int)=_
   rw [eg,dge (by omega),cond_false]
 ·rw [CZ hl,cond_true];exact B1 hl
theorem vQ (hN:1073741824≤N) {row p:List Int} (hp:p.length≤1048576):i8 N row p=some (decide (row.take p.length=p)):=by
 have h:=gr (L:=fun k i=>dQ N k row p i) p.length (by omega) false (fun i=>if h:i<p.length∧i<row.length then decide (row[i]'h.2=p[i]'h.1) else false) (p.length:Int)
  (fun k i h=>by
   show dQ N (k+1) row p (i:Int)=_
   rw [dQ,dlt h,cond_true]
   by_cases hr:i<row.length
   ·rw [decide_eq_false (show ¬ (row.length:Int)≤(i:Int) by omega),cond_false,aM hr,bs,aM h,bs,o6,ad1 (by omega),bs,dif_pos ⟨h,hr⟩]
    cases decide (row[i]=p[i]) <;> rfl
   ·rw [decide_eq_true (show (row.length:Int)≤(i:Int) by omega),cond_true,dif_neg (fun e=>hr e.2),cond_false])
  (fun k=>by
   show dQ N (k+1) row p (p.length:Int)=_
   rw [dQ,dge (by omega),cond_false]) N 0 (by omega) (by omega)
 have e:(List.range' 0 p.length).all (fun i=>if h:i<p.length∧i<row.length then decide (row[i]'h.2=p[i]'h.1) else false)=decide (row.take p.length=p):=by
  rw [Bool.eq_iff_iff,List.all_eq_true,decide_eq_true_eq]
  constructor
  ·intro hq
   have hlen:p.length≤row.length:=by
    apply Classical.byContradiction
    intro hlt
    have:=hq row.length (by simp;omega)
    rw [dif_neg (fun e=>by omega)] at this
    cases this
   refine List.ext_getElem (by rw [List.length_take];omega) fun i h1 h2=>?_
   have:=hq i (by simp;omega)
   rw [dif_pos ⟨h2,by omega⟩,decide_eq_true_eq] at this
   rw [List.getElem_take];exact this
  ·intro hq i hi
   have hi:i<p.length:=by simpa using hi
   have hl:=congrArg List.length hq
   rw [List.length_take] at hl
   rw [dif_pos ⟨hi,by omega⟩,decide_eq_true_eq]
   have:=List.getElem_of_eq hq (i:=i) (by rw [List.length_take];omega)
   rw [List.getElem_take] at this
   exact this
 rw [Nat.sub_zero,e] at h
 have h':dQ N N row p 0=some (bif decide (row.take p.length=p) then .inr (p.length:Int) else .inl false):=h
 unfold i8
 rw [h',bs]
 cases decide (row.take p.length=p) <;> rfl
end
theorem ph {ts:List be} {n:Nat} {atoms:List bc} {order:List Int} (q:QFor ts n atoms order) {v:Int} (h0:0≤v) (h1:v<n):v∈order:=by
 apply Classical.byContradiction
 intro hn
 obtain ⟨h2,h3⟩:=gS q.os
 have:=j5 n (v :: order) (List.nodup_cons.2 ⟨hn,h2⟩) (fun x hx=>by
  rcases List.mem_cons.1 hx with rfl | h
  ·exact ⟨h0,h1⟩
  ·have:=h3 x h;omega)
 rw [List.length_cons,q.ol] at this
 omega
theorem xb {ts:List be} {n:Nat} {atoms:List bc} {order:List Int} (q:QFor ts n atoms order) (he:jY (cC ts order atoms)=true):(bJ (sv ts order atoms) n []).1=[]:=by
 refine List.eq_nil_iff_forall_not_mem.2 fun r hr=>?_
 unfold jY cC at he
 rw [List.any_eq_true] at he
 obtain ⟨t,ht,h0⟩:=he
 rw [decide_eq_true_eq] at h0
 obtain ⟨a,ha,rfl⟩:=List.mem_map.1 ht
 obtain ⟨i,hi,rfl⟩:=List.getElem_of_mem ha
 obtain ⟨h1,h2,h3⟩:=q.al _ ha
 have hv:=h3 _ (List.getElem_mem (show 0<atoms[i].2.length by omega))
 obtain ⟨l,hl,el⟩:=List.getElem_of_mem (ph q hv.1 hv.2)
 have hol:=q.ol
 obtain ⟨s,e,hs⟩:=ku hr
 have hrl:r.length=n:=by rw [e];exact hs
 have hpl:(r.take l).length=l:=by rw [List.length_take];omega
 obtain ⟨w1,w2⟩:=ti (p0:=[]) (s:=r.take l) hr (by omega) (by rw [List.nil_append,hpl])
 obtain ⟨x,w2⟩:∃ x,x∈(sv ts order atoms (r.take l)).1:=⟨_,by simpa using w2⟩
 have k:=nq (ls:=eT ts order atoms (r.take l)) (B:=16) fun l hl=>(gO q l hl).1
 have hin:atV ts order atoms (r.take l) i∈eT ts order atoms (r.take l):=by
  unfold eT
  rw [hpl]
  refine List.mem_map.2 ⟨i,ki.2 ⟨hi,?_⟩,rfl⟩
  rw [aX hl,el,fU hi]
  exact List.getElem_mem _
 have hx:=k.2.1 _ w2 _ hin
 unfold atV at hx
 rw [fU hi] at hx
 have hlen:=tj (gI ts order atoms[i]).1 (gI ts order atoms[i]).2 (kF atoms[i].2 order (r.take l))
 have:=List.length_pos_of_mem hx
 omega
def mn (order r:List Int) (v:Int):Int:=r.getD (bZ order v).toNat 0
def pT (ts:List be) (a:bc):aT:=(cr ts a.1).1.2
def CR (ts:List be) (atoms:List bc) (f:Int→Int):Prop:=∀ a∈atoms,a.2.map f∈pT ts a
theorem lR {vs:List Int} {v:Int} (h:v∈vs):∃ j:Nat,bZ vs v=(j:Int)∧∃ hj:j<vs.length,vs[j]=v:=by
 rcases i6 vs v with ⟨h1,_⟩ | ⟨j,hj,e,e2,_⟩
 ·exact absurd h h1
 ·exact ⟨j,e2,hj,e⟩
theorem xc {vs:List Int} {f:Int→Int} {j:Nat} (h:j<vs.length):(vs.map f).getD j 0=f vs[j]:=by
 rw [aX (by rw [List.length_map];exact h),List.getElem_map]
theorem oM (vars:List Int):∀ (l out:List Int),l.Nodup→(∀ v∈l,v∈vars→bZ vars v∉out)→l.foldl (eE vars) out=out++(l.filter fun v=>decide (v∈vars)).map (bZ vars)
 | [],out,_,_=>by simp
 | v :: l,out,hn,ho=>by
  obtain ⟨n1,n2⟩:=List.nodup_cons.1 hn
  rw [List.foldl_cons]
  by_cases hv:v∈vars
  ·have e:eE vars out v=out++[bZ vars v]:=by
    unfold eE
    rw [decide_eq_true (ll.2 hv),decide_eq_false (ho v List.mem_cons_self hv)];rfl
   rw [e,oM vars l _ n2 (fun w hw hwv hm=>by
    rcases List.mem_append.1 hm with h | h
    ·exact ho w (List.mem_cons_of_mem _ hw) hwv h
    ·rw [List.mem_singleton] at h
     obtain ⟨j,e1,hj,e2⟩:=lR hwv
     obtain ⟨k,e3,hk,e4⟩:=lR hv
     have:j=k:=by omega
     subst this
     rw [e2] at e4;subst e4;exact n1 hw),List.filter_cons,if_pos (by simpa using hv)]
   simp
  ·have e:eE vars out v=out:=by
    unfold eE
    rw [decide_eq_false (fun h=>hv (ll.1 h))];rfl
   rw [e,oM vars l _ n2 (fun w hw=>ho w (List.mem_cons_of_mem _ hw)),List.filter_cons,if_neg (by simpa using hv)]
theorem pA {vs order x:List Int} (hn:order.Nodup):ef (dB vs x) (iE vs order)=(order.filter fun v=>decide (v∈bp vs)).map fun v=>x.getD (bZ vs v).toNat 0:=by
 unfold iE
 rw [oM _ _ _ hn (by simp),List.nil_append]
 unfold ef
 rw [List.map_map]
 refine List.map_congr_left fun v hv=>?_
 rw [List.mem_filter,decide_eq_true_eq] at hv
 obtain ⟨j,e1,hj,e2⟩:=lR hv.2
 show (dB vs x).getD (bZ (bp vs) v).toNat 0=_
 unfold dB
 rw [e1,Int.toNat_natCast,xc hj,e2]
theorem ur {ts:List be} {order:List Int} {a:bc} {t:List Int}:t∈(gI ts order a).2↔∃ x∈pT ts a,ie a.2 x=true∧t=ef (dB a.2 x) (iE a.2 order):=by
 unfold gI pT
 dsimp only
 rw [mR,List.mem_map]
 constructor
 ·rintro ⟨y,hy,rfl⟩
  rw [mR] at hy
  unfold cB at hy
  obtain ⟨x,hx,rfl⟩:=List.mem_map.1 hy
  rw [List.mem_filter] at hx
  exact ⟨x,hx.1,hx.2,rfl⟩
 ·rintro ⟨x,h1,h2,rfl⟩
  refine ⟨_,(mR _ _ _).2 (List.mem_map.2 ⟨x,List.mem_filter.2 ⟨h1,h2⟩,rfl⟩),rfl⟩
theorem uV {vs order r:List Int} (hn:order.Nodup):∀ m,m≤order.length→fW vs order r m=((order.take m).filter fun v=>decide (v∈vs)).map (mn order r)
 | 0,_=>rfl
 | m+1,h=>by
  rw [jD,uV hn m (by omega),List.take_succ_eq_append_getElem (by omega),List.filter_append,List.map_append,aX (by omega)]
  by_cases hv:order[m]∈vs
  ·rw [decide_eq_true hv,cond_true,List.filter_cons,if_pos (by simpa using hv)]
   simp only [List.filter_nil,List.map_cons,List.map_nil]
   unfold mn
   rw [qV hn,Int.toNat_natCast]
  ·rw [decide_eq_false hv,cond_false,List.filter_cons,if_neg (by simpa using hv)]
   simp
theorem xO {vs x:List Int} (h:ie vs x=true) {i:Nat} (hi:i<vs.length):x.getD (bZ vs vs[i]).toNat 0=x.getD i 0:=by
 unfold ie ni at h
 rw [List.all_eq_true] at h
 have:=h i (by simp;omega)
 unfold pV at this
 rw [decide_eq_true_eq,aX hi] at this
 exact this
theorem xf {vs x:List Int} (h:∀ i (hi:i<vs.length),x.getD (bZ vs vs[i]).toNat 0=x.getD i 0):ie vs x=true:=by
 unfold ie ni
 rw [List.all_eq_true]
 intro i hi
 have hi:i<vs.length:=by simpa using hi
 unfold pV
 rw [decide_eq_true_eq,aX hi]
 exact h i hi
section
variable {ts:List be} {n:Nat} {atoms:List bc} {order:List Int}
theorem oK (q:QFor ts n atoms order):order.Nodup:=(gS q.os).1
theorem ra (q:QFor ts n atoms order) {a:bc} {r:List Int} (hr:r.length=n):kF a.2 order r=(order.filter fun v=>decide (v∈bp a.2)).map (mn order r):=by
 unfold kF
 have hb:=(gS q.os).2
 have h5:=q.n5
 rw [uV (oK q) _ (by rw [q.ol,hr];exact Nat.le_refl _),hr,← q.ol,List.take_length]
 congr 1
 refine List.filter_congr fun v hv=>?_
 rw [decide_eq_decide,iY]
 have:=hb v hv
 exact ⟨fun h=>⟨by omega,h⟩,fun h=>h.2⟩
theorem zP (q:QFor ts n atoms order) {a:bc} (ha:a∈atoms) {x:List Int} (hx:x∈pT ts a):x.length=a.2.length∧bB x=true:=by
 obtain ⟨h1,h2⟩:=q.af a ha
 obtain ⟨_,h4⟩:=q8 h1 h2
 obtain ⟨i,hi,rfl⟩:=List.getElem_of_mem hx
 exact h4 i hi
theorem vg (q:QFor ts n atoms order) {a:bc} (ha:a∈atoms) {r:List Int} (hr:r.length=n):kF a.2 order r∈(gI ts order a).2↔a.2.map (mn order r)∈pT ts a:=by
 have hnd:=oK q
 obtain ⟨hl5,hl1,hv⟩:=q.al a ha
 have hF:∀ v∈a.2,v∈order.filter fun v=>decide (v∈bp a.2):=fun v hm=>by
  have h5:=q.n5
  have:=hv v hm
  rw [List.mem_filter,decide_eq_true_eq,iY]
  exact ⟨ph q this.1 this.2,by omega,hm⟩
 have hF2:∀ v,v∈(order.filter fun v=>decide (v∈bp a.2))→v∈a.2:=fun v hm=>by
  rw [List.mem_filter,decide_eq_true_eq,iY] at hm
  exact hm.2.2
 rw [ur,ra q hr]
 constructor
 ·rintro ⟨x,hx,hf,e⟩
  rw [pA hnd,List.map_inj_left] at e
  have hxl:=(zP q ha hx).1
  have:a.2.map (mn order r)=x:=by
   refine List.ext_getElem (by rw [List.length_map,hxl]) fun i h1 h2=>?_
   have hi:i<a.2.length:=by rw [← hxl];exact h2
   rw [List.getElem_map,e _ (hF _ (List.getElem_mem hi)),xO hf hi,aX h2]
  rw [this];exact hx
 ·intro hx
  have key:∀ v∈a.2,(a.2.map (mn order r)).getD (bZ a.2 v).toNat 0=mn order r v:=fun v hm=>by
   obtain ⟨j,e1,hj,e2⟩:=lR hm
   rw [e1,Int.toNat_natCast,xc hj,e2]
  refine ⟨_,hx,xf fun i hi=>?_,?_⟩
  ·rw [key _ (List.getElem_mem hi),xc hi]
  ·rw [pA hnd]
   exact List.map_congr_left fun v hm=>(key v (hF2 v hm)).symm
theorem qY {f:Nxt}:∀ {m:Nat} {p r:List Int},r∈(bJ f m p).1↔∃ s,r=p++s∧s.length=m∧∀ l (h:l<s.length),s[l]∈(f (p++s.take l)).1
 | 0,p,r=>by
  constructor
  ·intro h;exact ⟨[],by rw [List.append_nil];exact List.mem_singleton.1 h,rfl,fun l h=>absurd h (Nat.not_lt_zero _)⟩
  ·rintro ⟨s,rfl,hs,_⟩
   rw [List.length_eq_zero_iff.1 hs,List.append_nil];exact List.mem_singleton.2 rfl
 | m+1,p,r=>by
  constructor
  ·intro h
   obtain ⟨v,hv,h⟩:=List.mem_flatMap.1 h
   obtain ⟨s,rfl,hs,hl⟩:=qY.1 h
   refine ⟨v :: s,by simp,by simp [hs],fun l h=>?_⟩
   cases l with
   | zero=>simpa using hv
   | succ l =>
    have:=hl l (by simpa using h)
    simpa using this
  ·rintro ⟨s,rfl,hs,hl⟩
   cases s with
   | nil=>simp at hs
   | cons v s =>
    have h0:=hl 0 (by simp)
    rw [List.take_zero,List.append_nil] at h0
    refine List.mem_flatMap.2 ⟨v,h0,qY.2 ⟨s,by simp,by simpa using hs,fun l h=>?_⟩⟩
    have:=hl (l+1) (by simpa using h)
    simpa using this
theorem tL (q:QFor ts n atoms order) {p:List Int} (hp:p.length<n) {x:Int}:x∈(bI ts order atoms p).1↔∀ i,i<atoms.length→order.getD p.length 0∈(fD atoms i).2→x∈atV ts order atoms p i:=by
 have ha:=rQ q hp
 have k1:=oq (ls:=eT ts order atoms p) (B:=16) fun l hl=>(gO q l hl).1
 have hm:(∀ l∈eT ts order atoms p,x∈l)↔∀ i,i<atoms.length→order.getD p.length 0∈(fD atoms i).2→x∈atV ts order atoms p i:=by
  unfold eT
  constructor
  ·intro h i hi hv
   exact h _ (List.mem_map.2 ⟨i,ki.2 ⟨hi,hv⟩,rfl⟩)
  ·intro h l hl
   obtain ⟨i,hi,rfl⟩:=List.mem_map.1 hl
   exact h i (ki.1 hi).1 (ki.1 hi).2
 rw [← hm]
 exact ⟨fun h=>k1.2.1 x h,fun h=>k1.2.2.2.2 ha x h⟩
theorem tz {vs order r:List Int}:∀ {l m:Nat},l≤m→m≤r.length→fW vs order (r.take m) l=fW vs order r l
 | 0,_,_,_=>rfl
 | l+1,m,h,hm=>by
  rw [jD,jD,tz (by omega) hm,aX (xs:=r.take m) (by rw [List.length_take];omega),aX (xs:=r) (by omega),List.getElem_take]
theorem ve {vs order r:List Int}:∀ {l m:Nat},l≤m→∃ t,fW vs order r m=fW vs order r l++t
 | l,0,h=>by
  obtain rfl:l=0:=by omega
  exact ⟨[],by simp⟩
 | l,m+1,h=>by
  by_cases e:l=m+1
  ·subst e;exact ⟨[],by simp⟩
  ·obtain ⟨t,ht⟩:=ve (vs:=vs) (order:=order) (r:=r) (show l≤m by omega)
   rw [jD,ht]
   cases decide (order.getD m 0∈vs)
   ·exact ⟨t,rfl⟩
   ·exact ⟨t++[r.getD m 0],by simp⟩
theorem tg {vs order r:List Int}:∀ {m:Nat},fW vs order r m≠[]→∃ l,l<m∧order.getD l 0∈vs∧fW vs order r m=fW vs order r l++[r.getD l 0]
 | 0,h=>absurd rfl h
 | m+1,h=>by
  rw [jD] at h ⊢
  by_cases hv:order.getD m 0∈vs
  ·rw [decide_eq_true hv,cond_true];exact ⟨m,by omega,hv,rfl⟩
  ·rw [decide_eq_false hv,cond_false] at h ⊢
   obtain ⟨l,h1,h2,h3⟩:=tg h
   exact ⟨l,by omega,h2,h3⟩
theorem vx (q:QFor ts n atoms order) {a:bc} (ha:a∈atoms) {t:List Int} (ht:t∈(gI ts order a).2):(t.length:Int)=(gI ts order a).1:=by
 obtain ⟨_,_,h3,_⟩:=oJ q ha
 obtain ⟨_,_,_,h4⟩:=b7 h3
 obtain ⟨i,hi,rfl⟩:=List.getElem_of_mem ht
 exact (h4 i hi).1
theorem yH (q:QFor ts n atoms order) {r:List Int}:r∈(bJ (bI ts order atoms) n []).1↔r.length=n∧CR ts atoms (mn order r):=by
 have hol:=q.ol
 have step:∀ {r:List Int},r.length=n→((∀ l (h:l<r.length),r[l]∈(bI ts order atoms (r.take l)).1)↔∀ a∈atoms,kF a.2 order r∈(gI ts order a).2):=by
  intro r hr
  have own:∀ {l:Nat} (vs:List Int),l≤n→kF vs order (r.take l)=fW vs order r l:=fun {l} vs hl=>by
   unfold kF
   rw [List.length_take,Nat.min_eq_left (by omega),tz (Nat.le_refl _) (by omega)]
  have full:∀ vs:List Int,kF vs order r=fW vs order r n:=fun vs=>by unfold kF;rw [hr]
  constructor
  ·intro h a ha
   obtain ⟨i,hi,rfl⟩:=List.getElem_of_mem ha
   rw [full]
   have hne:fW atoms[i].2 order r n≠[]:=fun e=>by
    have h2:=ra q (a:=atoms[i]) hr
    rw [full,e] at h2
    obtain ⟨_,h1,hv⟩:=q.al _ ha
    have h3:=hv _ (List.getElem_mem (show 0<atoms[i].2.length by omega))
    have h5:=q.n5
    have h4:atoms[i].2[0]'(by omega)∈order.filter fun v=>decide (v∈bp atoms[i].2):=by
     rw [List.mem_filter,decide_eq_true_eq,iY]
     exact ⟨ph q h3.1 h3.2,by omega,List.getElem_mem _⟩
    have:=congrArg List.length h2
    rw [List.length_map] at this
    have h6:=List.length_pos_of_mem h4
    simp at this
    omega
   obtain ⟨l,h1,h2,h3⟩:=tg hne
   have hk:=(tL q (p:=r.take l) (by rw [List.length_take];omega)).1 (h l (by omega)) i hi (by rw [List.length_take,Nat.min_eq_left (by omega),fU hi];exact h2)
   unfold atV at hk
   rw [fU hi,own _ (by omega)] at hk
   unfold kP at hk
   split at hk
   ·obtain ⟨t,ht,e1,e2⟩:=pn.1 hk
    have htl:=vx q ha ht
    have hown:=ra q (a:=atoms[i]) hr
    rw [full] at hown
    have hlen:(fW atoms[i].2 order r n).length=t.length:=by
     obtain ⟨x,_,_,e5⟩:=ur.1 ht
     rw [pA (oK q)] at e5
     rw [hown,e5,List.length_map,List.length_map]
    have:fW atoms[i].2 order r n=t:=by
     rw [h3] at hlen ⊢
     rw [List.length_append] at hlen
     refine List.ext_getElem (by rw [List.length_append];exact hlen) fun j j1 j2=>?_
     by_cases hj:j<(fW atoms[i].2 order r l).length
     ·rw [List.getElem_append_left hj]
      have:=List.getElem_of_eq e1.symm (i:=j) hj
      rw [this,List.getElem_take]
     ·have hj':j=(fW atoms[i].2 order r l).length:=by simp at j1;omega
      subst hj'
      rw [List.getElem_append_right (Nat.le_refl _)]
      simp only [Nat.sub_self,List.getElem_cons_zero]
      rw [aX (by omega)] at e2 ⊢
      exact e2
    rw [this];exact ht
   ·cases hk
  ·intro h l hl
   refine (tL q (by rw [List.length_take];omega)).2 fun i hi hv=>?_
   rw [List.length_take,Nat.min_eq_left (by omega),fU hi] at hv
   have ha:=List.getElem_mem hi
   have ht:=h _ ha
   rw [full] at ht
   have htl:=vx q ha ht
   unfold atV
   rw [fU hi,own _ (by omega)]
   obtain ⟨t,e⟩:=ve (vs:=atoms[i].2) (order:=order) (r:=r) (show l+1≤n by omega)
   rw [jD,decide_eq_true hv,cond_true,List.append_assoc] at e
   have hlt:(fW atoms[i].2 order r l).length<(fW atoms[i].2 order r n).length:=by rw [e];simp
   unfold kP
   rw [if_pos (by omega),pn]
   refine ⟨_,ht,by rw [e];simp,?_⟩
   rw [e,aX (xs:=_++_) (by simp),List.getElem_append_right (Nat.le_refl _)]
   simp only [Nat.sub_self,List.cons_append,List.nil_append,List.getElem_cons_zero]
   rw [aX (by omega)]
 rw [qY]
 constructor
 ·rintro ⟨s,e,hs,hl⟩
  rw [List.nil_append] at e
  subst e
  refine ⟨hs,fun a ha=>(vg q ha hs).1 ((step hs).1 (fun l h=>?_) a ha)⟩
  have:=hl l h
  rwa [List.nil_append] at this
 ·rintro ⟨hr,hb⟩
  refine ⟨r,rfl,hr,fun l h=>?_⟩
  rw [List.nil_append]
  exact (step hr).2 (fun a ha=>(vg q ha hr).2 (hb a ha)) l h
end
section
variable {ts:List be} {n:Int} {atoms:List bc} {out order:List Int}
theorem AS (h:(fE ts n atoms out order).2.2=true):∃ m:Nat,n=(m:Int)∧QFor ts m atoms order∧okQ ts n atoms out order=true∧(fE ts n atoms out order).1=(n,(bJ (bI ts order atoms) m []).1)∧(bJ (bI ts order atoms) m []).1.length≤4000:=by
 unfold fE at h ⊢
 cases ho:okQ ts n atoms out order with
 | false=>rw [ho] at h;cases h
 | true =>
  obtain ⟨m,rfl,q,_⟩:=xG ho
  rw [ho,cond_true] at h
  rw [cond_true]
  refine ⟨m,rfl,q,rfl,?_⟩
  cases he:jY (cC ts order atoms) with
  | true =>
   rw [sF q,xb q he]
   exact ⟨rfl,Nat.zero_le _⟩
  | false =>
   rw [he,cond_false] at h
   rw [cond_false]
   unfold jw at h ⊢
   cases hk:decide (((bJ (bI ts order atoms) (m:Int).toNat []).1.length:Int)≤4000) with
   | false=>rw [hk] at h;cases h
   | true =>
    rw [decide_eq_true_eq] at hk
    exact ⟨rfl,by have:((bJ (bI ts order atoms) m []).1.length:Int)≤4000:=hk;omega⟩
end
def lZ (v:Int):aF:=([v],[0])
def pot (D:List Int) (ns:List aF):Nat:=2*ns.length+2*(D.filter fun v=>decide (lZ v∉ns.drop 1)).length
theorem o3 {α:Type} {p q:α→Bool}:∀ {l:List α},(∀ a∈l,p a=true→q a=true)→(l.filter p).length≤(l.filter q).length
 | [],_=>Nat.le_refl _
 | a :: l,h=>by
  have h1:=o3 (l:=l) fun b hb=>h b (List.mem_cons_of_mem _ hb)
  rw [List.filter_cons,List.filter_cons]
  cases hp:p a with
  | false =>
   rw [if_neg (by decide)]
   split
   ·rw [List.length_cons];omega
   ·exact h1
  | true =>
   rw [h a List.mem_cons_self hp,if_pos rfl,if_pos rfl,List.length_cons,List.length_cons];omega
theorem tQ {α:Type} {p q:α→Bool} {v:α} (hp:p v=false) (hq:q v=true):∀ {l:List α},(∀ a∈l,p a=true→q a=true)→v∈l→(l.filter p).length+1≤(l.filter q).length
 | [],_,hv=>by cases hv
 | a :: l,h,hv=>by
  have h1:=o3 (p:=p) (q:=q) (l:=l) fun b hb=>h b (List.mem_cons_of_mem _ hb)
  rw [List.filter_cons,List.filter_cons]
  rcases List.mem_cons.1 hv with rfl | hv
  ·rw [hp,hq,if_neg (by decide),if_pos rfl,List.length_cons];omega
  ·have h2:=tQ hp hq (l:=l) (fun b hb=>h b (List.mem_cons_of_mem _ hb)) hv
   cases hpa:p a with
   | false =>
    rw [if_neg (by decide)]
    split
    ·rw [List.length_cons];omega
    ·exact h2
   | true =>
    rw [h a List.mem_cons_self hpa,if_pos rfl,if_pos rfl,List.length_cons,List.length_cons];omega
theorem tS {ns:List aF} {x:aF}:∀ f i,n7 ns x f i=none→∀ j,i≤j→j<i+f→ns.getD j ([],[])≠x
 | 0,i,_,j,h1,h2=>by omega
 | f+1,i,h,j,h1,h2=>by
  unfold n7 at h
  split at h
  ·cases h
  ·rename_i hne
   by_cases e:j=i
   ·rw [e];exact hne
   ·exact tS f (i+1) h j (by omega) (by omega)
theorem uv {ns:List aF} {x:aF} (h:1≤ns.length):(ns++[x]).drop 1=ns.drop 1++[x]:=by
 cases ns with
 | nil=>simp at h
 | cons a l=>rfl
theorem sH {D:List Int} {ns:List aF} {x:aF} (h:1≤ns.length):pot D (jV ns x).2≤pot D ns+2∧1≤(jV ns x).2.length:=by
 unfold jV
 split
 ·exact ⟨Nat.le_add_right _ _,h⟩
 ·show pot D (ns++[x])≤_∧1≤(ns++[x]).length
  refine ⟨?_,by simp⟩
  unfold pot
  rw [uv h,List.length_append,List.length_singleton]
  have:=o3 (p:=fun v=>decide (lZ v∉ns.drop 1++[x])) (q:=fun v=>decide (lZ v∉ns.drop 1)) (l:=D) fun a _ h1=>by
   rw [decide_eq_true_eq] at h1 ⊢
   exact fun h2=>h1 (List.mem_append_left _ h2)
  omega
theorem AG {D:List Int} {ns:List aF} {v:Int} (h:1≤ns.length) (hv:v∈D):pot D (jV ns (lZ v)).2≤pot D ns:=by
 unfold jV
 split
 ·exact Nat.le_refl _
 ·rename_i hf
  have hn:=tS _ _ hf
  show pot D (ns++[lZ v])≤_
  unfold pot
  rw [uv h,List.length_append,List.length_singleton]
  have:=tQ (v:=v) (p:=fun w=>decide (lZ w∉ns.drop 1++[lZ v])) (q:=fun w=>decide (lZ w∉ns.drop 1)) (l:=D) (decide_eq_false (by simp)) (by
   rw [decide_eq_true_eq]
   intro hm
   obtain ⟨j,hj,e⟩:=List.getElem_of_mem hm
   rw [List.getElem_drop] at e
   rw [List.length_drop] at hj
   refine hn (1+j) (by omega) (by omega) ?_
   rw [List.getD_eq_getElem?_getD,List.getElem?_eq_getElem (by omega),Option.getD_some]
   exact e) (fun a _ h1=>by
   rw [decide_eq_true_eq] at h1 ⊢
   exact fun h2=>h1 (List.mem_append_left _ h2)) hv
  omega
theorem pq {rec:List aF→List (List Int)→Int × List aF} {n d:Nat} (hdn:d<n) {rows:List (List Int)} {pre:List Int} (ha:eb rows) (hrow:∀ r∈rows,r.length=n∧r.take d=pre) {C:List Int} (hC:∀ r∈rows,r.getD d 0∈C) :
  ∀ f ns vals chs i,fO vals→(∀ v∈vals,v∈C)→(∀ v∈vals,∀ j,i≤j→j<rows.length→v<(rows.getD j []).getD d 0) →
   fO (cF rec rows d f ns vals chs i).2.1∧∀ v∈(cF rec rows d f ns vals chs i).2.1,v∈C
 | 0,ns,vals,chs,i,hv,hc,hb=>by unfold cF;exact ⟨hv,hc⟩
 | f+1,ns,vals,chs,i,hv,hc,hb=>by
  unfold cF
  split
  ·rename_i hlt
   have hgb:=mv (d:=d) hlt
   refine pq hdn ha hrow hC f _ _ _ _ ?_ (fun v hv'=>?_) (fun v hv' j h1 h2=>?_)
   ·refine List.pairwise_append.2 ⟨hv,List.pairwise_singleton _ _,fun a h1 b h2=>?_⟩
    rw [List.mem_singleton] at h2;subst h2
    exact hb a h1 i (Nat.le_refl _) hlt
   ·rcases List.mem_append.1 hv' with h | h
    ·exact hc v h
    ·rw [List.mem_singleton] at h;subst h
     rw [Ae hlt]
     exact hC _ (List.getElem_mem hlt)
   ·rcases List.mem_append.1 hv' with h | h
    ·exact hb v h j (by omega) h2
    ·rw [List.mem_singleton] at h;subst h
     have hs:=tv (rows:=rows) (d:=d) (v:=(rows.getD i []).getD d 0) (rows.length-i) i (by show gZ rows d i<_;omega)
     have hs:(rows.getD (gZ rows d i) []).getD d 0≠(rows.getD i []).getD d 0:=hs
     have l1:=wx hdn ha hrow (show i≤gZ rows d i by omega) (by omega)
     have l2:=wx hdn ha hrow h1 h2
     omega
  ·exact ⟨hv,hc⟩
theorem po:∀ {l D:List Int},l.Nodup→(∀ v∈l,v∈D)→l.length≤D.length
 | [],_,_,_=>Nat.zero_le _
 | v :: l,D,hn,hs=>by
  obtain ⟨h1,h2⟩:=List.nodup_cons.1 hn
  have hv:=hs v List.mem_cons_self
  have:=po (l:=l) (D:=D.erase v) h2 fun w hw=>by
   have hne:w≠v:=fun e=>h1 (by rw [← e];exact hw)
   exact (List.mem_erase_of_ne hne).2 (hs w (List.mem_cons_of_mem _ hw))
  rw [List.length_erase_of_mem hv] at this
  have hp:0<D.length:=List.length_pos_of_mem hv
  rw [List.length_cons];omega
theorem pL {D:List Int} {rec:List aF→List (List Int)→Int × List aF} {n d t:Nat} (hdn:d<n) {rows:List (List Int)} {pre:List Int}
  (hr:∀ ns rs pre,1≤ns.length→rs≠[]→rs.Sublist rows→(∀ r∈rs,r.length=n∧r.take (d+1)=pre)→pot D (rec ns rs).2≤pot D ns+rs.length+2*t∧1≤(rec ns rs).2.length)
  (hrow:∀ r∈rows,r.length=n∧r.take d=pre):∀ f ns vals chs i,1≤ns.length→i≤rows.length →
  pot D (cF rec rows d f ns vals chs i).1+2*t*vals.length≤pot D ns+(rows.length-i)+2*t*(cF rec rows d f ns vals chs i).2.1.length∧1≤(cF rec rows d f ns vals chs i).1.length
 | 0,ns,vals,chs,i,h1,hi=>by
  unfold cF
  refine ⟨?_,h1⟩
  show pot D ns+2*t*vals.length≤pot D ns+(rows.length-i)+2*t*vals.length
  omega
 | f+1,ns,vals,chs,i,h1,hi=>by
  unfold cF
  split
  ·rename_i hlt
   obtain ⟨g1,g2⟩:=mv (d:=d) hlt
   obtain ⟨q1,q2⟩:=hr ns _ _ h1 (zb (d:=d) hlt) wl (wv hdn hlt hrow)
   rw [sU g2] at q1
   obtain ⟨p1,p2⟩:=pL hdn hr hrow f (rec ns ((rows.take (gZ rows d i)).drop i)).2 (vals++[(rows.getD i []).getD d 0]) (chs++[(rec ns ((rows.take (gZ rows d i)).drop i)).1]) (gZ rows d i) q2 g2
   refine ⟨?_,p2⟩
   rw [List.length_append,List.length_singleton,Nat.mul_add,Nat.mul_one] at p1
   omega
  ·refine ⟨?_,h1⟩
   show pot D ns+2*t*vals.length≤pot D ns+(rows.length-i)+2*t*vals.length
   omega
def tN:Nat→Nat
 | 0=>0
 | 1=>0
 | e+2=>10*tN (e+1)+1
theorem sj {D:List Int} {n:Nat} {C:Nat→List Int} (hC:∀ j,(C j).length≤10) (hD:C (n-1)=D):∀ (e d:Nat),d+(e+1)=n→∀ ns rs pre,1≤ns.length→rs≠[]→eb rs→(∀ r∈rs,r.length=n∧r.take d=pre)→(∀ r∈rs,∀ j,j<n→r.getD j 0∈C j) →
  pot D (cj (e+1) ns rs d).2≤pot D ns+rs.length+2*tN (e+1)∧1≤(cj (e+1) ns rs d).2.length
 | 0,d,hd,ns,rs,pre,h1,hne,ha,hrow,hc=>by
  obtain ⟨p1,p2⟩:=pL (D:=D) (rec:=fun ns rs=>cj 0 ns rs (d+1)) (n:=n) (d:=d) (t:=0) (by omega) (rows:=rs) (pre:=pre) (fun ns rs pre h _ _ _=>⟨by show pot D ns≤_;omega,h⟩) hrow rs.length ns [] [] 0 h1 (by omega)
  have hloop:∀ f vals chs i,(cF (fun ns rs=>cj 0 ns rs (d+1)) rs d f ns vals chs i).1=ns:=by
   intro f
   induction f with
   | zero=>intro vals chs i;rfl
   | succ f ih =>
    intro vals chs i
    unfold cF
    split
    ·exact ih _ _ _
    ·rfl
  unfold cj
  by_cases hl:rs.length=1
  ·obtain ⟨r,rfl⟩:∃ r,rs=[r]:=List.length_eq_one_iff.1 hl
   have e1:cF (fun ns rs=>cj 0 ns rs (d+1)) [r] d [r].length ns [] [] 0=(ns,lZ (r.getD d 0)):=by
    show cF (fun ns rs=>cj 0 ns rs (d+1)) [r] d 1 ns [] [] 0=_
    simp [cF,lZ,cj]
   rw [e1]
   have hv:r.getD d 0∈D:=by
    have:=hc r List.mem_cons_self d (by omega)
    rw [← hD]
    rw [show n-1=d by omega];exact this
   have h3:=AG h1 hv
   have h4:=(sH (D:=D) (x:=lZ (r.getD d 0)) h1).2
   exact ⟨Nat.le_trans h3 (by omega),h4⟩
  ·have h2:2≤rs.length:=by
    have:rs.length≠0:=fun h=>hne (List.length_eq_zero_iff.1 h)
    omega
   obtain ⟨q1,q2⟩:=sH (D:=D) (ns:=(cF (fun ns rs=>cj 0 ns rs (d+1)) rs d rs.length ns [] [] 0).1) (x:=(cF (fun ns rs=>cj 0 ns rs (d+1)) rs d rs.length ns [] [] 0).2) p2
   rw [hloop] at q1
   rw [hloop]
   rw [hloop] at q2
   exact ⟨Nat.le_trans q1 (by omega),q2⟩
 | e+1,d,hd,ns,rs,pre,h1,hne,ha,hrow,hc=>by
  obtain ⟨p1,p2⟩:=pL (D:=D) (rec:=fun ns rs=>cj (e+1) ns rs (d+1)) (n:=n) (d:=d) (t:=tN (e+1)) (by omega) (rows:=rs) (pre:=pre) (fun ns' rs' pre' k1 k2 k3 k4 =>
   sj hC hD e (d+1) (by omega) ns' rs' pre' k1 k2 (List.Pairwise.sublist k3 ha) k4 (fun r hr j hj=>hc r (k3.subset hr) j hj)) hrow rs.length ns [] [] 0 h1 (by omega)
  obtain ⟨a1,a2⟩:=pq (rec:=fun ns rs=>cj (e+1) ns rs (d+1)) (n:=n) (d:=d) (by omega) ha hrow (C:=C d) (fun r hr=>hc r hr d (by omega)) rs.length ns [] [] 0 List.Pairwise.nil (by simp) (by simp)
  have a3:=po (ta a1) a2
  have a4:=hC d
  have a5:=Nat.mul_le_mul_left (2*tN (e+1)) (Nat.le_trans a3 a4)
  show pot D (cj (e+2) ns rs d).2≤pot D ns+rs.length+2*(10*tN (e+1)+1)∧_
  unfold cj
  obtain ⟨q1,q2⟩:=sH (D:=D) (ns:=(cF (fun ns rs=>cj (e+1) ns rs (d+1)) rs d rs.length ns [] [] 0).1) (x:=(cF (fun ns rs=>cj (e+1) ns rs (d+1)) rs d rs.length ns [] [] 0).2) p2
  refine ⟨?_,q2⟩
  rw [List.length_nil,Nat.mul_zero] at p1
  omega
theorem C5:∀ {n:Nat},n≤5→tN n≤1111
 | 0,_=>by decide
 | 1,_=>by decide
 | 2,_=>by decide
 | 3,_=>by decide
 | 4,_=>by decide
 | 5,_=>by decide
 | n+6,h=>by omega
theorem xB {n:Nat} {rows:List (List Int)} (h1:1≤n) (hn5:n≤5) (hl:rows.length≤4000) (ha:eb rows) (hrow:∀ r∈rows,r.length=n) {C:Nat→List Int} (hC:∀ j,(C j).length≤10) (hc:∀ r∈rows,∀ j,j<n→r.getD j 0∈C j):(ke n rows).length≤4000:=by
 unfold ke
 by_cases h:rows=[]
 ·rw [if_pos h];show 2≤4000;omega
 ·rw [if_neg h]
  obtain ⟨e,rfl⟩:∃ e,n=e+1:=⟨n-1,by omega⟩
  have hp:=(sj (D:=C (e+1-1)) (n:=e+1) hC rfl e 0 (by omega) zN rows [] (by decide) h ha (fun r hr=>⟨hrow r hr,rfl⟩) hc).1
  have ht:=C5 hn5
  have h0:pot (C (e+1-1)) zN≤22:=by
   unfold pot
   have:=List.length_filter_le (fun v=>decide (lZ v∉zN.drop 1)) (C (e+1-1))
   have:=hC (e+1-1)
   have:zN.length=1:=rfl
   omega
  have h3:2*(cj (e+1) zN rows 0).2.length≤pot (C (e+1-1)) (cj (e+1) zN rows 0).2:=by unfold pot;omega
  show (cj (e+1) zN rows 0).2.length≤4000
  omega
theorem zC {ts:List be} (h:DSm ts) (s:ByteArray):(cr ts s).1.2.length≤10:=by
 unfold cr
 cases mI ts with
 | false=>exact Nat.zero_le _
 | true =>
  rw [cond_true]
  cases hf:ts.find? (fun t=>decide (t.1=s)) with
  | none=>exact Nat.zero_le _
  | some t=>exact (h.2 t (List.mem_of_find?_eq_some hf)).2.1
theorem te {ts:List be} {n:Nat} {atoms:List bc} {order:List Int} (hd:DSm ts) (q:QFor ts n atoms order):∃ C:Nat→List Int,(∀ j,(C j).length≤10)∧∀ r∈(bJ (bI ts order atoms) n []).1,∀ j,j<n→r.getD j 0∈C j:=by
 have key:∀ j:Nat,∃ L:List Int,L.length≤10∧(j<n→∀ r∈(bJ (bI ts order atoms) n []).1,r.getD j 0∈L):=fun j=>by
  by_cases hj:j<n
  ·have hjo:j<order.length:=by rw [q.ol];exact hj
   have hv:=(gS q.os).2 _ (List.getElem_mem hjo)
   obtain ⟨a,ha,hm⟩:=q.cov order[j] (by omega) (by omega)
   refine ⟨(pT ts a).map fun x=>x.getD (bZ a.2 order[j]).toNat 0,by rw [List.length_map];exact zC hd a.1,fun _ r hr=>?_⟩
   obtain ⟨h1,h2⟩:=(yH q).1 hr
   refine List.mem_map.2 ⟨_,h2 a ha,?_⟩
   obtain ⟨i,e1,hi,e2⟩:=lR hm
   rw [e1,Int.toNat_natCast,xc hi,e2]
   unfold mn
   rw [qV (oK q) hjo,Int.toNat_natCast]
  ·exact ⟨[],Nat.zero_le _,fun h=>absurd h hj⟩
 obtain ⟨C,hC⟩:=Classical.axiomOfChoice key
 exact ⟨C,fun j=>(hC j).1,fun r hr j hj=>(hC j).2 hj r hr⟩
theorem yN {ts:List be} {n:Nat} {atoms:List bc} {order:List Int} (hd:DSm ts) (q:QFor ts n atoms order) (hl:(bJ (bI ts order atoms) n []).1.length≤4000):(ke n (bJ (bI ts order atoms) n []).1).length≤4000:=by
 obtain ⟨C,h1,h2⟩:=te hd q
 obtain ⟨_,w2,w3⟩:=lL (kn q) q.n5
 exact xB q.n1 q.n5 hl w3 (fun r hr=>(w2 r hr).1) h1 h2
def Aw (k:Int):List Int→List Int→Int
 | v :: os,x :: xs=>Dc k (vW k v x) (Aw k os xs)
 | _,_=>Da k
def BL (k:Int) (os:List Int) (rows:List (List Int)):Int:=rows.foldl (fun s r=>C9 k s (Aw k os r)) (C7 k)
theorem qz {ns:List aF} (hw:WFn ns):∀ (f f':Nat) (nd:Int) (pre:List Int),nd<(f:Int)→nd<(f':Int)→0≤nd→nd<(ns.length:Int)→dA ns f nd pre=dA ns f' nd pre
 | 0,_,_,_,h,_,h0,_=>by omega
 | f+1,0,_,_,_,h,h0,_=>by omega
 | f+1,f'+1,nd,pre,h,h',h0,h1=>by
  obtain ⟨k,rfl⟩:=Int.eq_ofNat_of_zero_le h0
  rw [dA,dA]
  by_cases hz:(k:Int)=0
  ·rw [if_pos hz,if_pos hz]
  ·have hk:k<ns.length:=by omega
   rw [if_neg hz,if_neg hz,Int.toNat_natCast]
   refine mr _ fun j hj=>?_
   have hc:0≤(ns.getD k ([],[])).2.getD j 0∧(ns.getD k ([],[])).2.getD j 0<(k:Int):=by
    by_cases hj:j<(ns.getD k ([],[])).2.length
    ·rw [List.getD_eq_getElem?_getD,List.getElem?_eq_getElem hj,Option.getD_some]
     exact hw.2 k hk _ (List.getElem_mem hj)
    ·rw [List.getD_eq_getElem?_getD,List.getElem?_eq_none (by omega),Option.getD_none]
     omega
   exact qz hw f f' _ _ (by omega) (by omega) hc.1 (by omega)
def cu (ns:List aF) (nd:Int):List (List Int):=dA ns ns.length nd []
theorem yq {ns:List aF} (hw:WFn ns) {i:Nat} (h1:1≤i) (hi:i<ns.length) (hl:(ns.getD i ([],[])).1.length=(ns.getD i ([],[])).2.length) :
  cu ns (i:Int)=dG (fun j=>(cu ns ((ns.getD i ([],[])).2.getD j 0)).map ((ns.getD i ([],[])).1.getD j 0 :: ·)) (ns.getD i ([],[])).1.length:=by
 obtain ⟨g,hg⟩:∃ g,ns.length=g+1:=⟨ns.length-1,by omega⟩
 unfold cu
 conv=>lhs;rw [hg,dA,if_neg (by omega),Int.toNat_natCast]
 refine mr _ fun j hj=>?_
 have hj2:j<(ns.getD i ([],[])).2.length:=by omega
 have hc:0≤(ns.getD i ([],[])).2.getD j 0∧(ns.getD i ([],[])).2.getD j 0<(i:Int):=by
  rw [List.getD_eq_getElem?_getD,List.getElem?_eq_getElem hj2,Option.getD_some]
  exact hw.2 i hi _ (List.getElem_mem hj2)
 have h2:=sk ns g ((ns.getD i ([],[])).2.getD j 0) ([]++[(ns.getD i ([],[])).1.getD j 0]) []
 rw [List.append_nil] at h2
 rw [h2,qz hw g ns.length _ [] (by omega) (by omega) hc.1 (by omega)];rfl
theorem jN {ns:List aF} (hw:WFn ns):cu ns 0=[[]]:=by
 obtain ⟨g,hg⟩:∃ g,ns.length=g+1:=⟨ns.length-1,by have:=hw.1;omega⟩
 unfold cu
 rw [hg,dA,if_pos rfl]
def BR (k:Int) (order:List Int) (ns:List aF) (nd:Int):Int:=BL k (order.drop (order.length-(dep ns nd).toNat)) (cu ns nd)
structure FOk (n:Nat) (rows:List (List Int)) (ns:List aF):Prop where
 wf:WFn ns
 all:CX ns
 le:∀ i,i<ns.length→dep ns (i:Int)≤(n:Int)
 root:dep ns ((ns.length:Int)-1)=(n:Int)
 rows:cu ns ((ns.length:Int)-1)=rows
 z:ns.getD 0 ([],[])=([],[])
theorem FOk.agg {k:Int} {order:List Int} {n:Nat} {rows:List (List Int)} {ns:List aF} (h:FOk n rows ns) (ho:order.length=n):BR k order ns ((ns.length:Int)-1)=BL k order rows:=by
 unfold BR
 rw [h.root,h.rows,ho,Int.toNat_natCast,Nat.sub_self,List.drop_zero]
section
variable {olen:Nat} {ns:List aF} {far:List Int}
theorem VF.wf (V:VF olen ns far):WFn ns:=⟨V.pos,fun i hi c hc=>by
 obtain ⟨j,hj,rfl⟩:=List.getElem_of_mem hc
 have:=V.ch hi hj
 rw [List.getD_eq_getElem?_getD,List.getElem?_eq_getElem hj,Option.getD_some] at this
 exact ⟨this.1,this.2⟩⟩
def blk (ns:List aF) (i j:Nat):List (List Int):=(cu ns ((ns.getD i ([],[])).2.getD j 0)).map ((ns.getD i ([],[])).1.getD j 0 :: ·)
theorem VF.rows (V:VF olen ns far) {i:Nat} (h1:1≤i) (hi:i<ns.length):cu ns (i:Int)=dG (blk ns i) (ns.getD i ([],[])).1.length:=yq V.wf h1 hi (V.lens hi)
theorem wj {F:Nat→List (List Int)} {j:Nat}:∀ n,j<n→(F j).length≤(dG F n).length
 | 0,h=>by omega
 | n+1,h=>by
  rw [dG,List.length_append]
  by_cases e:j=n
  ·subst e;omega
  ·have:=wj (F:=F) n (show j<n by omega);omega
def jq (F:Nat→List (List Int)):Nat→Nat→List (List Int)
 | _,0=>[]
 | j,n+1=>F j++jq F (j+1) n
theorem qk (F:Nat→List (List Int)):∀ n j,jq F j (n+1)=jq F j n++F (j+n)
 | 0,j=>by simp [jq]
 | n+1,j=>by rw [jq,qk F n (j+1),jq,List.append_assoc,show j+1+n=j+(n+1) by omega]
theorem tR (F:Nat→List (List Int)):∀ n,dG F n=jq F 0 n
 | 0=>rfl
 | n+1=>by rw [dG,tR F n,qk,Nat.zero_add]
theorem uZ (V:VF olen ns far) {i:Nat} (hi:i<ns.length) (h:(cu ns (i:Int)).length<1000000000):(bO ns ns.length).getD i 0=((cu ns (i:Int)).length:Int):=by
 have:=BG V ns.length (i:Int) [] ⟨by omega,by omega⟩ (by omega)
 unfold wN at this
 rw [Int.toNat_natCast] at this
 rw [this]
 unfold cu at h ⊢
 unfold imn
 split <;> omega
theorem pR (i j:Nat):(blk ns i j).length=(cu ns ((ns.getD i ([],[])).2.getD j 0)).length:=List.length_map _
theorem VF.child (V:VF olen ns far) {i:Nat} (h1:1≤i) (hi:i<ns.length) (h:(cu ns (i:Int)).length<1000000000) {j:Nat} (hj:j<(ns.getD i ([],[])).1.length) :
  ∃ c:Nat,(ns.getD i ([],[])).2.getD j 0=(c:Int)∧c<i∧(cu ns (c:Int)).length<1000000000∧(bO ns ns.length).getD c 0=((cu ns (c:Int)).length:Int)∧far.getD c 0+1=far.getD i 0:=by
 have hl:=V.lens hi
 obtain ⟨c0,c1⟩:=V.ch hi (j:=j) (by omega)
 obtain ⟨c,hc⟩:=Int.eq_ofNat_of_zero_le c0
 have h2:=wj (F:=blk ns i) _ hj
 rw [← V.rows h1 hi,pR,hc] at h2
 refine ⟨c,hc,by omega,by omega,uZ V (by omega) (by omega),?_⟩
 rcases (V.node h1 hi).2.2 with ⟨e,_⟩ | ⟨_,e⟩
 ·rw [e] at hj;simp at hj
 ·have:=(e j (by omega)).2.2
  rw [hc,Int.toNat_natCast] at this
  exact this
theorem xv {a b:List (List Int)} {k:Nat} (h:k<a.length):(a++b).getD k []=a.getD k []:=by
 rw [List.getD_eq_getElem?_getD,List.getD_eq_getElem?_getD,List.getElem?_append_left h]
theorem v8 {a b:List (List Int)} {k:Nat} (h:a.length≤k):(a++b).getD k []=b.getD (k-a.length) []:=by
 rw [List.getD_eq_getElem?_getD,List.getD_eq_getElem?_getD,List.getElem?_append_right h]
theorem uR {c:List Int} {F:Nat→List (List Int)}:∀ (l:List Int) (k:Int) (j:Nat),0≤k→(∀ i,i<l.length→((F (j+i)).length:Int)=c.getD (l.getD i 0).toNat 0)→k<((jq F j l.length).length:Int) →
  0≤(dI c l k j).1∧(dI c l k j).1<((F (dI c l k j).2).length:Int)∧j≤(dI c l k j).2∧(dI c l k j).2<j+l.length∧(jq F j l.length).getD k.toNat []=(F (dI c l k j).2).getD (dI c l k j).1.toNat []
 | [],k,j,h0,_,h=>by simp [jq] at h;omega
 | x :: l,k,j,h0,hl,h=>by
  have hx:=hl 0 (by simp)
  rw [Nat.add_zero,List.getD_cons_zero] at hx
  rw [List.length_cons,jq] at h ⊢
  rw [List.length_append] at h
  unfold dI
  by_cases e:c.getD x.toNat 0≤k
  ·rw [if_pos e]
   obtain ⟨g1,g2,g3,g4,g5⟩:=uR (c:=c) (F:=F) l (k-c.getD x.toNat 0) (j+1) (by omega) (fun i hi=>by
    have:=hl (i+1) (by simpa using hi)
    rw [List.getD_cons_succ] at this
    rw [show j+1+i=j+(i+1) by omega];exact this) (by omega)
   refine ⟨g1,g2,by omega,by omega,?_⟩
   rw [v8 (by omega),show k.toNat-(F j).length=(k-c.getD x.toNat 0).toNat by omega]
   exact g5
  ·rw [if_neg e]
   refine ⟨h0,by dsimp only;omega,Nat.le_refl _,by dsimp only;omega,?_⟩
   dsimp only
   rw [xv (by omega)]
theorem tU {v:Int} {rows:List (List Int)} {k:Nat} (h:k<rows.length):(rows.map (v :: ·)).getD k []=v :: rows.getD k []:=by
 rw [List.getD_eq_getElem?_getD,List.getElem?_eq_getElem (by simpa using h),Option.getD_some,List.getElem_map,List.getD_eq_getElem?_getD,List.getElem?_eq_getElem h,Option.getD_some]
theorem vd (V:VF olen ns far):∀ (f i:Nat) (k:Int) (row:List Int),i<f→i<ns.length→(cu ns (i:Int)).length<1000000000→0≤k→k<((cu ns (i:Int)).length:Int) →
  kZ ns (bO ns ns.length) f k row i=row++(cu ns (i:Int)).getD k.toNat []
 | 0,i,_,_,h,_,_,_,_=>by omega
 | f+1,i,k,row,h,hi,hb,k0,k1=>by
  unfold kZ
  by_cases hz:0<i
  ·rw [if_pos hz]
   have hl:=V.lens hi
   have hr:=V.rows hz hi
   rw [tR,hl] at hr
   rw [hr] at k1
   obtain ⟨g1,g2,_,g4,g5⟩:=uR (c:=bO ns ns.length) (F:=blk ns i) (ns.getD i ([],[])).2 k 0 k0 (fun j hj=>by
    obtain ⟨c,e1,_,_,e4,_⟩:=V.child hz hi hb (j:=j) (by omega)
    rw [Nat.zero_add,pR,e1,Int.toNat_natCast,e4]) k1
   generalize dI (bO ns ns.length) (ns.getD i ([],[])).2 k 0=t at g1 g2 g4 g5 ⊢
   obtain ⟨c,e1,e2,e3,e4,_⟩:=V.child hz hi hb (j:=t.2) (by omega)
   rw [pR,e1] at g2
   rw [e1,Int.toNat_natCast,vd V f c t.1 _ (by omega) (by omega) e3 g1 g2,hr,g5]
   unfold blk
   rw [e1,tU (by omega),List.append_assoc];rfl
  ·rw [if_neg hz]
   obtain rfl:i=0:=by omega
   rw [show ((0:Nat):Int)=0 from rfl,jN V.wf] at k1 ⊢
   have:k=0:=by simp at k1;omega
   subst this
   exact (List.append_nil row).symm

def iV (vs:List Int) (rows:List (List Int)):Nat:=(rows.filter fun r=>decide (bt r vs<0)).length
theorem zW (vs:List Int) (a b:List (List Int)):iV vs (a++b)=iV vs a+iV vs b:=by unfold iV;rw [List.filter_append,List.length_append]
theorem Ai (rows:List (List Int)):iV [] rows=0:=by
 unfold iV
 rw [List.length_eq_zero_iff,List.filter_eq_nil_iff]
 intro r _
 rw [decide_eq_true_eq,qO]
 split <;> omega
theorem uE (a v:Int) (vs:List Int):∀ rows:List (List Int),iV (v :: vs) (rows.map (a :: ·))=if a<v then rows.length else if a=v then iV vs rows else 0
 | []=>by split <;> (try split) <;> rfl
 | r :: rows=>by
  have ih:=uE a v vs rows
  unfold iV at ih ⊢
  rw [List.map_cons,List.filter_cons]
  by_cases h1:a<v
  ·have e:bt (a :: r) (v :: vs)=-1:=by rw [bt,if_pos h1]
   rw [if_pos h1] at ih ⊢
   rw [e,show decide ((-1:Int)<0)=true from rfl,if_pos rfl,List.length_cons,ih,List.length_cons]
  ·rw [if_neg h1] at ih ⊢
   by_cases h2:a=v
   ·have e:bt (a :: r) (v :: vs)=bt r vs:=by rw [bt,if_neg h1,if_neg (show ¬ v<a by omega)]
    rw [if_pos h2] at ih ⊢
    rw [e,List.filter_cons]
    cases h3:decide (bt r vs<0) with
    | true=>rw [if_pos rfl,if_pos rfl,List.length_cons,List.length_cons,ih]
    | false=>rw [if_neg (by decide),if_neg (by decide),ih]
   ·have e:bt (a :: r) (v :: vs)=1:=by rw [bt,if_neg h1,if_pos (show v<a by omega)]
    rw [if_neg h2] at ih ⊢
    rw [e,show decide ((1:Int)<0)=false from rfl,if_neg (by decide),ih]
theorem vp {a v:Int} {vs:List Int} {rows:List (List Int)}:v :: vs∈rows.map (a :: ·)↔a=v∧vs∈rows:=by
 rw [List.mem_map]
 constructor
 ·rintro ⟨r,hr,e⟩
  obtain ⟨e1,e2⟩:=List.cons.inj e
  exact ⟨e1,e2 ▸ hr⟩
 ·rintro ⟨e,h⟩
  exact ⟨vs,h,by rw [e]⟩
theorem x8 (c:List Int) (x:aF) (v:Int) (n:Nat) (t:Int × Int):dD c x v 0 (n+1) t=dV c x v (dD c x v 0 n t) n:=by
 unfold dD
 rw [List.range'_concat,List.foldl_append,List.foldl_cons,List.foldl_nil,show 0+1*n=n by omega]
theorem vr (V:VF olen ns far) {i:Nat} (h1:1≤i) (hi:i<ns.length) (hb:(cu ns (i:Int)).length<1000000000) {v:Int} {vs:List Int}:∀ n,n≤(ns.getD i ([],[])).1.length →
  ((dD (bO ns ns.length) (ns.getD i ([],[])) v 0 n (0,-1)).2=-1∧(∀ j,j<n→(ns.getD i ([],[])).1.getD j 0≠v)∧(iV (v :: vs) (dG (blk ns i) n):Int)=(dD (bO ns ns.length) (ns.getD i ([],[])) v 0 n (0,-1)).1∧v :: vs∉dG (blk ns i) n) ∨
  (∃ j,j<n∧(ns.getD i ([],[])).1.getD j 0=v∧(dD (bO ns ns.length) (ns.getD i ([],[])) v 0 n (0,-1)).2=(ns.getD i ([],[])).2.getD j 0 ∧
   (iV (v :: vs) (dG (blk ns i) n):Int)=(dD (bO ns ns.length) (ns.getD i ([],[])) v 0 n (0,-1)).1+iV vs (cu ns ((ns.getD i ([],[])).2.getD j 0))∧(v :: vs∈dG (blk ns i) n↔vs∈cu ns ((ns.getD i ([],[])).2.getD j 0)))
 | 0,_=>.inl ⟨rfl,fun j h=>by omega,rfl,by simp [dG]⟩
 | n+1,hn=>by
  obtain ⟨c,e1,e2,e3,e4,_⟩:=V.child h1 hi hb (j:=n) (by omega)
  have ha:=pg _ (V.asc hi)
  rw [x8,dG,zW,List.mem_append]
  have hcm:=uE ((ns.getD i ([],[])).1.getD n 0) v vs (cu ns ((ns.getD i ([],[])).2.getD n 0))
  have hmm:=vp (a:=(ns.getD i ([],[])).1.getD n 0) (v:=v) (vs:=vs) (rows:=cu ns ((ns.getD i ([],[])).2.getD n 0))
  have hbe:blk ns i n=(cu ns ((ns.getD i ([],[])).2.getD n 0)).map ((ns.getD i ([],[])).1.getD n 0 :: ·):=rfl
  rw [← hbe] at hcm hmm
  rcases vr V h1 hi hb (v:=v) (vs:=vs) n (by omega) with ⟨q1,q2,q3,q4⟩ | ⟨j,hj,q1,q2,q3,q4⟩
  ·generalize dD (bO ns ns.length) (ns.getD i ([],[])) v 0 n (0,-1)=t at q1 q3 ⊢
   unfold dV
   dsimp only
   by_cases a1:(ns.getD i ([],[])).1.getD n 0<v
   ·left
    rw [if_pos a1] at hcm
    rw [if_pos a1,if_neg (by omega),e1,Int.toNat_natCast,e4]
    rw [e1] at hcm
    refine ⟨q1,fun j hj=>?_,by omega,fun h=>?_⟩
    ·by_cases e:j=n
     ·rw [e];omega
     ·exact q2 j (by omega)
    ·rcases h with h | h
     ·exact q4 h
     ·have:=(hmm.1 h).1;omega
   ·rw [if_neg a1] at hcm
    rw [if_neg a1]
    by_cases a2:(ns.getD i ([],[])).1.getD n 0=v
    ·right
     rw [if_pos a2] at hcm
     rw [if_pos a2]
     refine ⟨n,by omega,a2,rfl,by omega,?_⟩
     constructor
     ·rintro (h | h)
      ·exact absurd h q4
      ·exact (hmm.1 h).2
     ·intro h;exact .inr (hmm.2 ⟨a2,h⟩)
    ·left
     rw [if_neg a2] at hcm
     rw [if_neg a2]
     refine ⟨q1,fun j hj=>?_,by omega,fun h=>?_⟩
     ·by_cases e:j=n
      ·rw [e];exact a2
      ·exact q2 j (by omega)
     ·rcases h with h | h
      ·exact q4 h
      ·exact a2 (hmm.1 h).1
  ·right
   have a0:=ha j n hj (by omega)
   have a1:¬ (ns.getD i ([],[])).1.getD n 0<v:=by omega
   have a2:¬ (ns.getD i ([],[])).1.getD n 0=v:=by omega
   rw [if_neg a1,if_neg a2] at hcm
   generalize dD (bO ns ns.length) (ns.getD i ([],[])) v 0 n (0,-1)=t at q2 q3 ⊢
   unfold dV
   dsimp only
   rw [if_neg a1,if_neg a2]
   refine ⟨j,by omega,q1,q2,by omega,?_⟩
   constructor
   ·rintro (h | h)
    ·exact q4.1 h
    ·exact absurd (hmm.1 h).1 a2
   ·intro h;exact .inl (q4.2 h)
theorem VF.far_nn (V:VF olen ns far):∀ (m i:Nat),i<m→i<ns.length→0≤far.getD i 0
 | 0,i,h,_=>by omega
 | m+1,i,h,hi=>by
  by_cases hz:i=0
  ·rw [hz,V.f0];exact Int.le_refl _
  ·rcases (V.node (i:=i) (by omega) hi).2.2 with ⟨_,_,e⟩ | ⟨e0,e⟩
   ·omega
   ·have hl:=V.lens hi
    have hp:=List.length_pos_iff.2 e0
    obtain ⟨c0,c1,c2⟩:=e 0 (by omega)
    have:=VF.far_nn V m ((ns.getD i ([],[])).2.getD 0 0).toNat (by omega) (by omega)
    omega
theorem Ax (V:VF olen ns far):∀ (vs:List Int) (i:Nat),i<ns.length→(i=0∨(ns.getD i ([],[])).1≠[])→far.getD i 0=(vs.length:Int)→(cu ns (i:Int)).length<1000000000 →
  rk ns (bO ns ns.length) vs (i:Int)=((iV vs (cu ns (i:Int)):Int),decide (vs∈cu ns (i:Int)))
 | [],i,hi,hne,hf,hb=>by
  have hz:i=0:=by
   by_cases hz:i=0
   ·exact hz
   ·rcases hne with h | h
    ·exact h
    ·have hp:=List.length_pos_iff.2 h
     obtain ⟨c,_,_,_,_,e⟩:=V.child (by omega) hi hb hp
     have:=V.far_nn (c+1) c (by omega) (by omega)
     rw [List.length_nil] at hf
     omega
  subst hz
  rw [rk,Ai,show ((0:Nat):Int)=0 from rfl,jN V.wf];rfl
 | v :: vs,i,hi,hne,hf,hb=>by
  have hz:1≤i:=by
   by_cases hz:i=0
   ·rw [hz,V.f0,List.length_cons] at hf;omega
   ·omega
  unfold rk
  dsimp only
  rw [Int.toNat_natCast,V.rows hz hi]
  rcases vr V hz hi hb (v:=v) (vs:=vs) _ (Nat.le_refl _) with ⟨q1,_,q3,q4⟩ | ⟨j,hj,_,q2,q3,q4⟩
  ·rw [q1,if_pos (by decide),q3,decide_eq_false q4]
  ·obtain ⟨c,e1,e2,e3,e4,e5⟩:=V.child hz hi hb hj
   rw [e1] at q2 q3 q4
   have hcn:c=0∨(ns.getD c ([],[])).1≠[]:=by
    have:=(yO V (nd:=(i:Int)) (ch:=(c:Int)) ⟨by omega,by omega⟩ (by omega) (by omega)).2
    rw [Int.toNat_natCast] at this
    rcases this with h | h
    ·exact .inl (by omega)
    ·exact .inr h
   rw [List.length_cons] at hf
   rw [q2,if_neg (by omega),Ax V vs c (by omega) hcn (by omega) e3,q3]
   dsimp only
   rw [decide_eq_decide.2 q4]
theorem VF.row_len (V:VF olen ns far):∀ (m i:Nat),i<m→i<ns.length→∀ r∈cu ns (i:Int),(r.length:Int)=far.getD i 0
 | 0,i,h,_,_,_=>by omega
 | m+1,i,h,hi,r,hr=>by
  by_cases hz:i=0
  ·subst hz
   rw [show ((0:Nat):Int)=0 from rfl,jN V.wf,List.mem_singleton] at hr
   rw [hr,V.f0];rfl
  ·rw [V.rows (by omega) hi] at hr
   obtain ⟨j,hj,hm⟩:=oe _ hr
   obtain ⟨s,hs,rfl⟩:=List.mem_map.1 hm
   rcases (V.node (i:=i) (by omega) hi).2.2 with ⟨e0,_⟩ | ⟨_,e⟩
   ·rw [e0] at hj;simp at hj
   ·have hl:=V.lens hi
    obtain ⟨c0,c1,c2⟩:=e j (by omega)
    obtain ⟨c,hc⟩:=Int.eq_ofNat_of_zero_le c0
    rw [hc] at hs c2
    rw [Int.toNat_natCast] at c2
    have:=VF.row_len V m c (by omega) (by omega) s hs
    rw [List.length_cons];omega
theorem VF.rows_asc (V:VF olen ns far):∀ (m i:Nat),i<m→i<ns.length→eb (cu ns (i:Int))
 | 0,i,h,_=>by omega
 | m+1,i,h,hi=>by
  by_cases hz:i=0
  ·subst hz
   rw [show ((0:Nat):Int)=0 from rfl,jN V.wf]
   exact List.pairwise_singleton _ _
  ·rw [V.rows (by omega) hi]
   have hl:=V.lens hi
   have ha:=pg _ (V.asc hi)
   have key:∀ n,n≤(ns.getD i ([],[])).1.length→eb (dG (blk ns i) n):=by
    intro n
    induction n with
    | zero=>intro _;exact List.Pairwise.nil
    | succ n ih =>
     intro hn
     rw [dG]
     obtain ⟨c0,c1⟩:=V.ch hi (j:=n) (by omega)
     obtain ⟨c,hc⟩:=Int.eq_ofNat_of_zero_le c0
     refine List.pairwise_append.2 ⟨ih (by omega),?_,fun a h1 b h2=>?_⟩
     ·unfold blk
      rw [List.pairwise_map,hc]
      refine List.Pairwise.imp (fun {a b} h=>?_) (VF.rows_asc V m c (by omega) (by omega))
      show bt (_ :: a) (_ :: b)<0
      rw [bt,if_neg (by omega),if_neg (by omega)];exact h
     ·obtain ⟨j,hj,hm⟩:=oe _ h1
      obtain ⟨s,_,rfl⟩:=List.mem_map.1 hm
      obtain ⟨t,_,rfl⟩:=List.mem_map.1 h2
      rw [bt,if_pos (ha j n hj (by omega))];decide
   exact key _ (Nat.le_refl _)
end

theorem tJ:∀ {R:List (List Int)} {vs:List Int} {i:Nat},eb R→iV vs R≤i→∀ h:i<R.length,¬ bt R[i] vs<0
 | [],_,i,_,_,h=>by simp at h
 | a :: R,vs,i,hp,hc,h=>by
  obtain ⟨h1,h2⟩:=List.pairwise_cons.1 hp
  unfold iV at hc
  rw [List.filter_cons] at hc
  by_cases ha:bt a vs<0
  ·rw [decide_eq_true ha,if_pos rfl,List.length_cons] at hc
   obtain ⟨i,rfl⟩:∃ k,i=k+1:=⟨i-1,by omega⟩
   have hk:i<R.length:=by simpa using h
   exact tJ (R:=R) h2 (by unfold iV;omega) hk
  ·cases i with
   | zero=>exact ha
   | succ i =>
    have hk:i<R.length:=by simpa using h
    intro hlt
    exact ha (gi (h1 _ (List.getElem_mem hk)) hlt)
theorem CB {R:List (List Int)} (hp:eb R) {i j:Nat} (h:i<j) (hj:j<R.length):bt (R[i]'(by omega)) R[j]<0:=List.pairwise_iff_getElem.1 hp i j (by omega) hj h

def hQ (p:List Int) (rows:List (List Int)):Nat:=(rows.filter fun r=>decide (r.take p.length=p)).length
theorem An (p:List Int) (a b:List (List Int)):hQ p (a++b)=hQ p a+hQ p b:=by unfold hQ;rw [List.filter_append,List.length_append]
theorem Aa (rows:List (List Int)):hQ [] rows=rows.length:=by
 unfold hQ
 rw [List.filter_eq_self.2 fun r _=>by simp]
theorem vn (a v:Int) (vs:List Int):∀ rows:List (List Int),hQ (v :: vs) (rows.map (a :: ·))=if a=v then hQ vs rows else 0
 | []=>by split <;> rfl
 | r :: rows=>by
  have ih:=vn a v vs rows
  unfold hQ at ih ⊢
  rw [List.map_cons,List.filter_cons]
  have e:((a :: r).take (v :: vs).length=v :: vs)↔(a=v∧r.take vs.length=vs):=by
   rw [List.length_cons,List.take_succ_cons,List.cons.injEq]
  rw [decide_eq_decide.2 e]
  by_cases h:a=v
  ·rw [if_pos h] at ih ⊢
   rw [List.filter_cons]
   by_cases h3:r.take vs.length=vs
   ·rw [decide_eq_true ⟨h,h3⟩,decide_eq_true h3,if_pos rfl,if_pos rfl]
    exact congrArg (·+1) ih
   ·rw [decide_eq_false (fun x=>h3 x.2),decide_eq_false h3,if_neg (by decide),if_neg (by decide)]
    exact ih
  ·rw [if_neg h] at ih ⊢
   rw [decide_eq_false (fun x=>h x.1),if_neg (by decide)]
   exact ih
section
variable {olen:Nat} {ns:List aF} {far:List Int}
theorem qW (V:VF olen ns far) {i:Nat} (hi:i<ns.length) {v:Int} {vs:List Int}:∀ n,n≤(ns.getD i ([],[])).1.length →
  ((∀ j,j<n→(ns.getD i ([],[])).1.getD j 0≠v)→hQ (v :: vs) (dG (blk ns i) n)=0)∧∀ j,j<n→(ns.getD i ([],[])).1.getD j 0=v→hQ (v :: vs) (dG (blk ns i) n)=hQ vs (cu ns ((ns.getD i ([],[])).2.getD j 0))
 | 0,_=>⟨fun _=>rfl,fun j h=>by omega⟩
 | n+1,hn=>by
  obtain ⟨q1,q2⟩:=qW V hi (v:=v) (vs:=vs) n (by omega)
  have ha:=pg _ (V.asc hi)
  rw [dG,An]
  have hcm:=vn ((ns.getD i ([],[])).1.getD n 0) v vs (cu ns ((ns.getD i ([],[])).2.getD n 0))
  have hbe:blk ns i n=(cu ns ((ns.getD i ([],[])).2.getD n 0)).map ((ns.getD i ([],[])).1.getD n 0 :: ·):=rfl
  rw [← hbe] at hcm
  refine ⟨fun h=>?_,fun j hj e=>?_⟩
  ·rw [q1 fun j hj=>h j (by omega),hcm,if_neg (h n (by omega))]
  ·by_cases ej:j=n
   ·subst ej
    rw [hcm,if_pos e,q1 fun l hl=>by have:=ha l j hl (by omega);omega,Nat.zero_add]
   ·have:=ha j n (by omega) (by omega)
    rw [q2 j (by omega) e,hcm,if_neg (by omega),Nat.add_zero]
theorem wL (V:VF olen ns far) {p:List Int}:∀ (m i s:Nat),i+m=p.length→s<ns.length→(cu ns (s:Int)).length<1000000000 →
  match dw (ij ns p) m i (s:Int) with
  | .inl r=>r=0∧hQ (p.drop i) (cu ns (s:Int))=0
  | .inr t=>(bO ns ns.length).getD t.toNat 0=(hQ (p.drop i) (cu ns (s:Int)):Int)
 | 0,i,s,hi,hs,hb=>by
  rw [dw]
  show (bO ns ns.length).getD (s:Int).toNat 0=_
  rw [List.drop_of_length_le (by omega),Aa,Int.toNat_natCast,uZ V hs hb]
 | m+1,i,s,hi,hs,hb=>by
  have hil:i<p.length:=by omega
  have hpi:p.getD i 0=p[i]:=by rw [List.getD_eq_getElem?_getD,List.getElem?_eq_getElem hil,Option.getD_some]
  rw [dw,du hil]
  unfold ij
  dsimp only
  rw [Int.toNat_natCast,hpi]
  rcases i6 (ns.getD s ([],[])).1 p[i] with ⟨h1,h2⟩ | ⟨j,hj,e,h2,_⟩
  ·rw [h2,decide_eq_true (by decide)]
   refine ⟨rfl,?_⟩
   by_cases hz:s=0
   ·subst hz
    rw [show ((0:Nat):Int)=0 from rfl,jN V.wf]
    unfold hQ
    rw [List.length_eq_zero_iff,List.filter_eq_nil_iff]
    intro r hr
    rw [List.mem_singleton] at hr
    subst hr
    rw [decide_eq_true_eq,List.take_nil]
    exact fun h=>by cases h
   ·rw [V.rows (by omega) hs]
    refine (qW V hs _ (Nat.le_refl _)).1 fun j hj e=>h1 ?_
    have e2:(ns.getD s ([],[])).1.getD j 0=(ns.getD s ([],[])).1[j]:=aX hj
    rw [← e,e2]
    exact List.getElem_mem hj
  ·rw [h2,decide_eq_false (by omega)]
   have hz:1≤s:=by
    by_cases hz:s=0
    ·subst hz;rw [V.z1] at hj;simp at hj
    ·omega
   obtain ⟨c,e1,e2,e3,_,_⟩:=V.child hz hs hb hj
   have hcp:=(qW V hs (v:=p[i]) (vs:=p.drop (i+1)) _ (Nat.le_refl _)).2 j hj ((aX hj).trans e)
   rw [V.rows hz hs,hcp]
   rw [Int.toNat_natCast,e1]
   exact wL V m (i+1) c (by omega) (by omega) e3
end
def N10 (ns:List aF):Prop:=∀ x∈ns,x.1.length≤10∧x.2.length≤10
theorem N10.put {ns:List aF} {x:aF} (h:N10 ns) (h1:x.1.length≤10) (h2:x.2.length≤10):N10 (jV ns x).2:=by
 unfold jV
 split
 ·exact h
 ·intro y hy
  rcases List.mem_append.1 hy with hy | hy
  ·exact h y hy
  ·rw [List.mem_singleton] at hy;subst hy;exact ⟨h1,h2⟩
theorem sA {rec:List aF→List (List Int)→Int × List aF} {rows:List (List Int)} {d:Nat}:∀ f ns vals chs i,vals.length=chs.length→(cF rec rows d f ns vals chs i).2.1.length=(cF rec rows d f ns vals chs i).2.2.length
 | 0,ns,vals,chs,i,h=>by unfold cF;exact h
 | f+1,ns,vals,chs,i,h=>by
  unfold cF
  split
  ·exact sA f _ _ _ _ (by simp [h])
  ·exact h
theorem vu {rec:List aF→List (List Int)→Int × List aF} {n d:Nat} (hdn:d<n) {rows:List (List Int)} {pre:List Int}
  (hr:∀ ns rs pre,N10 ns→rs.Sublist rows→rs≠[]→(∀ r∈rs,r.length=n∧r.take (d+1)=pre)→N10 (rec ns rs).2) (hrow:∀ r∈rows,r.length=n∧r.take d=pre):∀ f ns vals chs i,N10 ns→N10 (cF rec rows d f ns vals chs i).1
 | 0,ns,vals,chs,i,h=>by unfold cF;exact h
 | f+1,ns,vals,chs,i,h=>by
  unfold cF
  split
  ·rename_i hlt
   exact vu hdn hr hrow f _ _ _ _ (hr ns _ _ h wl (zb (d:=d) hlt) (wv hdn hlt hrow))
  ·exact h
theorem tw {n:Nat} {C:Nat→List Int} (hC:∀ j,(C j).length≤10):∀ (e d:Nat),d+e=n→∀ ns rs pre,N10 ns→eb rs→(∀ r∈rs,r.length=n∧r.take d=pre)→(∀ r∈rs,∀ j,j<n→r.getD j 0∈C j)→N10 (cj e ns rs d).2
 | 0,d,hd,ns,rs,pre,h,_,_,_=>h
 | e+1,d,hd,ns,rs,pre,h,ha,hrow,hc=>by
  have h1:=vu (rec:=fun ns rs=>cj e ns rs (d+1)) (n:=n) (d:=d) (by omega) (rows:=rs) (pre:=pre) (fun ns' rs' pre' k1 k2 _ k4 =>
   tw hC e (d+1) (by omega) ns' rs' pre' k1 (List.Pairwise.sublist k2 ha) k4 (fun r hr j hj=>hc r (k2.subset hr) j hj)) hrow rs.length ns [] [] 0 h
  obtain ⟨a1,a2⟩:=pq (rec:=fun ns rs=>cj e ns rs (d+1)) (n:=n) (d:=d) (by omega) ha hrow (C:=C d) (fun r hr=>hc r hr d (by omega)) rs.length ns [] [] 0 List.Pairwise.nil (by simp) (by simp)
  have a3:=po (ta a1) a2
  have a4:=hC d
  have a5:=sA (rec:=fun ns rs=>cj e ns rs (d+1)) (rows:=rs) (d:=d) rs.length ns [] [] 0 rfl
  unfold cj
  exact h1.put (by omega) (by omega)
theorem vv {n:Nat} {rows:List (List Int)} (ha:eb rows) (hrow:∀ r∈rows,r.length=n) {C:Nat→List Int} (hC:∀ j,(C j).length≤10) (hc:∀ r∈rows,∀ j,j<n→r.getD j 0∈C j):N10 (ke n rows):=by
 unfold ke
 by_cases h:rows=[]
 ·rw [if_pos h]
  intro x hx
  have e:x=([],[]):=by simpa using hx
  subst e;exact ⟨by simp,by simp⟩
 ·rw [if_neg h]
  exact tw hC n 0 (by omega) _ rows [] (fun x hx=>by
   have e:x=([],[]):=by simpa using hx
   subst e;exact ⟨by simp,by simp⟩) ha (fun r hr=>⟨hrow r hr,rfl⟩) hc
def FSm (o:List Int) (ns:List aF):Prop:=o.length≤7∧ns.length≤4001∧∀ x∈ns,x.1.length≤11∧x.2.length≤11
def FGd (o:List Int) (ns:List aF):Prop:=o.length≤6∧ns.length≤4000∧N10 ns
theorem FSm.o {o:List Int} {ns:List aF} (h:FSm o ns):okI o:=⟨by have:=h.1;omega,fun _ _=>trivial⟩
theorem FSm.n {o:List Int} {ns:List aF} (h:FSm o ns):okN ns:=⟨by have:=h.2.1;omega,fun x hx=>⟨⟨by have:=(h.2.2 x hx).1;omega,fun _ _=>trivial⟩,⟨by have:=(h.2.2 x hx).2;omega,fun _ _=>trivial⟩⟩⟩
theorem FGd.n {o:List Int} {ns:List aF} (h:FGd o ns):okN ns:=⟨by have:=h.2.1;omega,fun x hx=>⟨⟨by have:=(h.2.2 x hx).1;omega,fun _ _=>trivial⟩,⟨by have:=(h.2.2 x hx).2;omega,fun _ _=>trivial⟩⟩⟩
theorem A2:FGd [] []:=⟨by simp,by simp,fun x hx=>by simp at hx⟩
theorem si {n:Int} {rows:List (List Int)} (hl:rows.length≤10):FGd (nB n rows).1.1 (nB n rows).1.2:=by
 unfold nB
 cases hv:bC n rows with
 | false=>exact A2
 | true =>
  obtain ⟨h0,h1,ha⟩:=wz hv
  have a1:=lx hv
  obtain ⟨_,_,_,q1⟩:=b7 hv
  have r1:∀ r∈rows,r.length=n.toNat:=fun r hr=>by
   obtain ⟨i,hi,rfl⟩:=List.getElem_of_mem hr
   have:=(q1 i hi).1;omega
  have l1:=zg (n:=n.toNat) (by omega) ha
  have l2:rows.length*n.toNat≤10*5:=Nat.mul_le_mul hl (by omega)
  exact ⟨by show (kp n.toNat).length≤6;rw [oa];omega,by show (ke n.toNat rows).length≤4000;omega,vv a1 r1 (C:=fun j=>rows.map fun r=>r.getD j 0) (fun j=>by rw [List.length_map];exact hl) fun r hr j _=>List.mem_map.2 ⟨r,hr,rfl⟩⟩
section
variable {N:Nat}
theorem qj (hN:1073741824≤N) {n:Int} {ats:List bc} {out:List Int} (ha:fj ats) (ho:okI out) (hn:n≤6):∃ o,gE N n ats out=some o∧o.length≤6:=by
 have key:∀ (m:Nat) (i:Nat) (k:Nat) (acc:List Int),acc.length≤i→m<k→(n≤i+m)→(i:Int)≤6→∃ o j,eJ N k n ats out acc (i:Int)=some (o,j)∧o.length≤6:=by
  intro m
  induction m with
  | zero =>
   intro i k acc h1 h2 h3 h4
   obtain ⟨k,rfl⟩:∃ g,k=g+1:=⟨k-1,by omega⟩
   rw [eJ,decide_eq_false (show ¬ (i:Int)<n by omega),cond_false]
   exact ⟨_,_,rfl,by omega⟩
  | succ m ih =>
   intro i k acc h1 h2 h3 h4
   obtain ⟨k,rfl⟩:∃ g,k=g+1:=⟨k-1,by omega⟩
   rw [eJ]
   by_cases hi:(i:Int)<n
   ·rw [decide_eq_true hi,cond_true,fQ hN ha ho,bs]
    cases fH n ats out with
    | false=>rw [cond_false];exact ⟨_,_,rfl,by omega⟩
    | true =>
     rw [cond_true,bk (by decide) (by simp;omega),bs,ad1 (by omega),bs]
     exact ih (i+1) k _ (by simp;omega) (by omega) (by omega) (by omega)
   ·rw [decide_eq_false hi,cond_false]
    exact ⟨_,_,rfl,by omega⟩
 obtain ⟨o,j,e,h⟩:=key 6 0 N [] (by simp) (by omega) (by omega) (by omega)
 unfold gE
 rw [show (0:Int)=((0:Nat):Int) from rfl,e,bs,lpB]
 exact ⟨o,rfl,h⟩
theorem vB (hM:1073742848≤N) {a:List Int} (ha:dP a) {p h:Int} (hc:bU a p):∃ o ns q g,jt N a p h=some ((o,ns),q,g)∧bU a q∧FGd o ns:=by
 have hN:1073741824≤N:=by omega
 unfold jt
 obtain ⟨b,q,g,e,hc1⟩:=gN (N:=N) ha (h:=h) (n:=2) hc
 rw [e,bs]
 cases b with
 | true =>
  obtain ⟨x,q2,g2,e2,b0,b1,_,hc2⟩:=bD (N:=N) ha (h:=g) (n:=4) hc1
  have b1:=b1 (by decide)
  obtain ⟨rows,q3,g3,e3,hc3,hl,hr⟩:=kU hM ha (h:=g2) (n:=x) (m:=4) (y:=9) hc2 (by decide) (by omega) (by decide)
  dsimp only
  rw [cond_true,e2,bs]
  dsimp only
  rw [e3,bs]
  dsimp only
  have hok:fV rows:=⟨by omega,fun r hr'=>⟨by have:=(hr r hr').1;omega,fun _ _=>trivial⟩⟩
  rw [jp hM hok,bs]
  exact ⟨_,_,_,_,rfl,hc3,si (by omega)⟩
 | false =>
  obtain ⟨ts,r,o,q2,g2,e2,hc2,hj⟩:=uG hM ha (h:=g) hc1
  dsimp only
  rw [cond_false,e2,bs]
  dsimp only
  have d1:=hj.1.ok;have d2:=hj.2.1.atoms;have d3:=hj.2.1.out
  obtain ⟨o2,e3,ho2⟩:=qj hN (n:=r.1) d2 d3 hj.2.1.1.2
  rw [e3,bs]
  have d4:okI o2:=⟨by omega,fun _ _=>trivial⟩
  rw [qh hM d1 d2 d3 d4,bs]
  unfold wV
  cases ht:(fE ts r.1 r.2.1 r.2.2 o2).2.2 with
  | true =>
   obtain ⟨m,em,qf,_,ej,hl⟩:=AS ht
   rw [cond_true,ej,em]
   dsimp only
   rw [cond_true,Int.toNat_natCast]
   obtain ⟨w1,w2,w3⟩:=lL (kn qf) qf.n5
   obtain ⟨C,c1,c2⟩:=te hj.1 qf
   exact ⟨_,_,_,_,rfl,hc2,by omega,yN hj.1 qf hl,vv w3 (fun r hr=>(w2 r hr).1) c1 c2⟩
  | false =>
   rw [cond_false]
   dsimp only
   rw [cond_false]
   obtain ⟨rows,q3,g3,e4,hc3,hl,hr⟩:=kU hM ha (h:=g2) (n:=2) (m:=3) (y:=6) hc2 (by decide) (by decide) (by decide)
   rw [e4,bs]
   dsimp only
   have hok:fV rows:=⟨by omega,fun r hr'=>⟨by have:=(hr r hr').1;omega,fun _ _=>trivial⟩⟩
   rw [jp hM hok,bs]
   exact ⟨_,_,_,_,rfl,hc3,si (by omega)⟩
theorem xM (hN:1073741824≤N) {o:List Int} {ns:List aF} (ho:okI o) (hn:okN ns):jy N o ns=some (o,ns):=by
 have hl:=hn.1
 have hol:=ho.1
 have key:∀ (m i k:Nat) {z1 z2:List Int} {z3:List aF} {x4:List Int},i+m=ns.length→m<k→gq N k o ns z1 z3 x4 (ns.take i) (i:Int)=some (ns,(ns.length:Int)):=by
  intro m
  induction m with
  | zero =>
   intro i k z1 z2 z3 x4 hi hk
   obtain ⟨k,rfl⟩:∃ g,k=g+1:=⟨k-1,by omega⟩
   obtain rfl:i=ns.length:=by omega
   rw [gq,dge (by omega),cond_false,List.take_length]
  | succ m ih =>
   intro i k z1 z2 z3 x4 hi hk
   obtain ⟨k,rfl⟩:∃ g,k=g+1:=⟨k-1,by omega⟩
   have h:i<ns.length:=by omega
   obtain ⟨k1,k2⟩:=gk hn h
   have k1:=k1.1;have k2:=k2.1
   rw [gq,dlt h,cond_true,aM h,bs,bs,bk (by decide) (by simp;omega),bs,bk (by decide) (by simp;omega),bs,bk (by decide) (by simp;omega),bs,ad1 (by omega),bs,List.nil_append,List.nil_append]
   have:=ih (i+1) k (z1:=z1) (z2:=z2) (z3:=z3) (x4:=x4) (by omega) (by omega)
   rw [List.take_succ_eq_append_getElem h] at this
   exact this
 unfold jy
 rw [bk (by decide) (by simp;omega),bs,List.nil_append]
 have:=key ns.length 0 N (z1:=[]) (z2:=[]) (z3:=[]) (x4:=o) (by omega) (by omega)
 rw [show (0:Int)=((0:Nat):Int) from rfl]
 rw [List.take_zero] at this
 rw [this,bs,lpB]
theorem yT {o:List Int} {ns:List aF} (h:FGd o ns) {i:Nat} {x:aF} (h1:x.1.length≤11) (h2:x.2.length≤11):FSm o (ns.set i x):=⟨by have:=h.1;omega,by rw [List.length_set];have:=h.2.1;omega,fun y hy=>by
 rcases List.mem_or_eq_of_mem_set hy with hy | rfl
 ·have:=h.2.2 y hy;omega
 ·exact ⟨h1,h2⟩⟩
theorem FGd.sm {o:List Int} {ns:List aF} (h:FGd o ns):FSm o ns:=⟨by have:=h.1;omega,by have:=h.2.1;omega,fun y hy=>by have:=h.2.2 y hy;omega⟩
theorem qA (hM:1073742848≤N) {a:List Int} (ha:dP a) {p h:Int} (hc:bU a p):∃ o ns q g,jk N a p h=some ((o,ns),q,g)∧bU a q∧FSm o ns:=by
 have hN:1073741824≤N:=by omega
 obtain ⟨o,ns,q,g,e,hc1,hg⟩:=vB hM ha (h:=h) hc
 have hno:=hg.n
 have hoo:okI o:=⟨by have:=hg.1;omega,fun _ _=>trivial⟩
 unfold jk
 rw [e,bs]
 dsimp only
 rw [xM hN hoo hno,bs]
 dsimp only
 have hg1:=hg.1;have hg2:=hg.2.1
 cases hz:((ns.length:Int) == 0) with
 | true=>rw [cond_true];exact ⟨_,_,_,_,rfl,hc1,hg.sm⟩
 | false =>
  have hz:¬ (ns.length:Int)=0:=by simpa using hz
  rw [cond_false]
  obtain ⟨x,q2,g2,e2,b0,b1,_,hc2⟩:=bD (N:=N) ha (h:=g) (n:=(ns.length:Int)) hc1
  have b1:=b1 (by omega)
  rw [e2,bs]
  dsimp only
  obtain ⟨y,q3,g3,e3,_,_,_,hc3⟩:=bD (N:=N) ha (h:=g2) (n:=14) hc2
  rw [e3,bs]
  dsimp only
  obtain ⟨k,rfl⟩:=Int.eq_ofNat_of_zero_le b0
  have hk:k<ns.length:=by omega
  have hm:=hg.2.2 _ (List.getElem_mem hk)
  cases y == 0 with
  | true =>
   rw [cond_true,aM hk,bs]
   obtain ⟨z,q4,g4,e4,_,_,_,hc4⟩:=bD (N:=N) ha (h:=g3) (n:=5) hc3
   rw [e4,bs]
   dsimp only
   rw [bk (by decide) (by simp;omega),bs,gV hk,bs]
   exact ⟨_,_,_,_,rfl,hc4,yT hg (by simp;omega) (by show ns[k].2.length≤11;omega)⟩
  | false =>
  rw [cond_false]
  cases y == 1 with
  | true =>
   rw [cond_true,aM hk,bs]
   by_cases hch:(0:Int)<(ns[k].2.length:Int)
   ·rw [decide_eq_true hch,cond_true,bs,ad1 (by omega),bs]
    obtain ⟨z,q4,g4,e4,c0,c1,_,hc4⟩:=bD (N:=N) ha (h:=g3) (n:=((ns.length+1:Nat):Int)) hc3
    have c1:=c1 (by omega)
    rw [e4,bs]
    dsimp only
    rw [cI (by omega) (by omega),bs,show (0:Int)=((0:Nat):Int) from rfl,aM (by omega),bs,gV (by omega),bs,gV hk,bs]
    exact ⟨_,_,_,_,rfl,hc4,yT hg (by show ns[k].1.length≤11;omega) (by show (ns[k].2.set 0 _).length≤11;rw [List.length_set];omega)⟩
   ·rw [decide_eq_false hch,cond_false];exact ⟨_,_,_,_,rfl,hc3,hg.sm⟩
  | false =>
  rw [cond_false]
  cases y == 2 with
  | true =>
   rw [cond_true,bk (by decide) (by simp;omega),bs]
   exact ⟨_,_,_,_,rfl,hc3,by simp;omega,by omega,hg.sm.2.2⟩
  | false =>
  rw [cond_false]
  cases y == 3 with
  | true =>
   rw [cond_true,us (by omega),bs]
   exact ⟨_,_,_,_,rfl,hc3,by omega,by rw [List.length_take];omega,fun z hz=>hg.sm.2.2 z (List.mem_of_mem_take hz)⟩
  | false =>
  rw [cond_false]
  cases y == 4 with
  | true =>
   rw [cond_true,aM hk,bs,bk (by decide) (by simp;omega),bs]
   refine ⟨_,_,_,_,rfl,hc3,by omega,by simp;omega,fun z hz=>?_⟩
   rcases List.mem_append.1 hz with hz | hz
   ·exact hg.sm.2.2 z hz
   ·rw [List.mem_singleton] at hz;subst hz
    exact hg.sm.2.2 _ (List.getElem_mem hk)
  | false=>rw [cond_false];exact ⟨_,_,_,_,rfl,hc3,hg.sm⟩
theorem ql (hM:1073742848≤N) {a:List Int} (ha:dP a) {p h:Int} (hc:bU a p) {o:List Int} {ns:List aF} (hf:FSm o ns):∃ row q g,jh N a p h o ns=some (row,q,g)∧bU a q∧okI row:=by
 have hN:1073741824≤N:=by omega
 have h1:=hf.o;have h2:=hf.n
 unfold jh
 have hb:=@lH o ns
 rw [gw hN h1 h2,bs,fR (by omega) (by omega),bs]
 obtain ⟨x,q2,g2,e2,b0,b1,_,hc2⟩:=bD (N:=N) ha (h:=h) (n:=cg o ns+1) hc
 rw [e2,bs]
 dsimp only
 rw [hU hN h1 h2,bs]
 have hlen:=xK (order:=o) h2 x
 obtain ⟨row4,q6,g6,e6,hc6,hl6,_⟩:∃ row q g,gh N a q2 g2 (imn 6 (o.length:Int)) 5=some (row,q,g)∧bU a q∧row.length=(imn 6 (o.length:Int)).toNat∧∀ v∈row,0≤v∧v<5:=mm hN ha (h:=g2) hc2 (by decide) (by unfold imn;split <;> omega)
 have key:∀ q g,bU a q→∃ row q' g',gh N a q g (imn 6 (o.length:Int)) 5=some (row,q',g')∧bU a q'∧okI row:=fun q g hq=>by
  obtain ⟨row,q',g',e,hc',hl,_⟩:=mm hN ha (h:=g) (n:=imn 6 (o.length:Int)) (m:=5) hq (by decide) (by unfold imn;split <;> omega)
  exact ⟨row,q',g',e,hc',by rw [hl];unfold imn;split <;> omega,fun _ _=>trivial⟩
 cases hr:(dJ o ns x).2 with
 | true =>
  rw [cond_true]
  obtain ⟨b,q3,g3,e3,hc3⟩:=gN (N:=N) ha (h:=g2) (n:=2) hc2
  rw [e3,bs]
  cases b with
  | true=>exact ⟨_,_,_,rfl,hc3,hlen⟩
  | false =>
   dsimp only
   rw [cond_false]
   obtain ⟨b,q4,g4,e4,hc4⟩:=gN (N:=N) ha (h:=g3) (n:=10) hc3
   rw [e4,bs]
   cases b with
   | true =>
    dsimp only
    have hl:=hlen.1
    have hz:(dJ o ns x).1.length≤4001:=by
     unfold dJ
     cases inR x 0 (cg o ns-1) with
     | false=>exact Nat.zero_le _
     | true =>
      have:=mS ns (bO ns ns.length) ns.length x [] (ns.length-1)
      have h4:=hf.2.1
      simp only [cond_true,List.length_nil] at this ⊢;omega
    rw [cond_true,bk (by decide) (by simp;omega),bs]
    exact ⟨_,_,_,rfl,hc4,by simp;omega,fun _ _=>trivial⟩
   | false =>
    dsimp only
    rw [cond_false]
    obtain ⟨row,q5,g5,e5,hc5,hk⟩:=key q4 g4 hc4
    rw [e5,bs]
    exact ⟨_,_,_,rfl,hc5,hk⟩
 | false =>
  rw [cond_false]
  obtain ⟨b,q4,g4,e4,hc4⟩:=gN (N:=N) ha (h:=g2) (n:=10) hc2
  rw [e4,bs]
  cases b with
  | true =>
   dsimp only
   have hz:(dJ o ns x).1.length≤4001:=by
    unfold dJ
    cases inR x 0 (cg o ns-1) with
    | false=>exact Nat.zero_le _
    | true =>
     have:=mS ns (bO ns ns.length) ns.length x [] (ns.length-1)
     have h4:=hf.2.1
     simp only [cond_true,List.length_nil] at this ⊢;omega
   rw [cond_true,bk (by decide) (by simp;omega),bs]
   exact ⟨_,_,_,rfl,hc4,by simp;omega,fun _ _=>trivial⟩
  | false =>
   dsimp only
   rw [cond_false]
   obtain ⟨row,q5,g5,e5,hc5,hk⟩:=key q4 g4 hc4
   rw [e5,bs]
   exact ⟨_,_,_,rfl,hc5,hk⟩
end
theorem vb {olen:Nat} {ns:List aF} {far:List Int} (V:VF olen ns far) (hv:∀ x∈ns,x.1.length≤11):∀ (m i:Nat),i<m→i<ns.length→(i=0∨(ns.getD i ([],[])).1≠[]∨True)→(cu ns (i:Int)).length≤11 ^ (far.getD i 0).toNat
 | 0,i,h,_,_=>by omega
 | m+1,i,h,hi,_=>by
  by_cases hz:i=0
  ·subst hz
   rw [show ((0:Nat):Int)=0 from rfl,jN V.wf,V.f0];decide
  ·have hr:=V.rows (show 1≤i by omega) hi
   have hl:=V.lens hi
   have hx:(ns.getD i ([],[])).1.length≤11:=by
    rw [List.getD_eq_getElem?_getD,List.getElem?_eq_getElem hi,Option.getD_some]
    exact hv _ (List.getElem_mem hi)
   rcases (V.node (i:=i) (by omega) hi).2.2 with ⟨e0,_⟩ | ⟨_,e⟩
   ·rw [hr,e0];exact Nat.zero_le _
   ·have key:∀ n,n≤(ns.getD i ([],[])).1.length→(dG (blk ns i) n).length≤n*11 ^ ((far.getD i 0).toNat-1):=by
     intro n
     induction n with
     | zero=>intro _;exact Nat.zero_le _
     | succ n ih =>
      intro hn
      obtain ⟨c0,c1,c2⟩:=e n (by omega)
      obtain ⟨c,hc⟩:=Int.eq_ofNat_of_zero_le c0
      rw [hc] at c1 c2
      rw [Int.toNat_natCast] at c2
      have:=vb V hv m c (by omega) (by omega) (.inr (.inr trivial))
      have hnn:=V.far_nn (c+1) c (by omega) (by omega)
      rw [dG,List.length_append,pR,hc,Nat.succ_mul]
      have ih:=ih (by omega)
      rw [show (far.getD c 0).toNat=(far.getD i 0).toNat-1 by omega] at this
      omega
    have hp:1≤(far.getD i 0).toNat∨(ns.getD i ([],[])).1.length=0:=by
     by_cases h0:(ns.getD i ([],[])).1.length=0
     ·exact .inr h0
     ·obtain ⟨c0,c1,c2⟩:=e 0 (by omega)
      have hnn:=V.far_nn i ((ns.getD i ([],[])).2.getD 0 0).toNat (by omega) (by omega)
      exact .inl (by omega)
    have:=key _ (Nat.le_refl _)
    rw [hr]
    rcases hp with hp | hp
    ·obtain ⟨t,ht⟩:∃ t,(far.getD i 0).toNat=t+1:=⟨(far.getD i 0).toNat-1,by omega⟩
     rw [ht] at this ⊢
     rw [Nat.pow_succ,Nat.mul_comm]
     exact Nat.le_trans this (Nat.mul_le_mul_right _ hx)
    ·rw [hp] at this ⊢
     simp only [Nat.zero_mul] at this
     exact Nat.le_trans this (Nat.zero_le _)
theorem FSm.rows {o:List Int} {ns:List aF} (hf:FSm o ns) (hv:b9 o ns=true):∃ far,VF o.length ns far∧(cu ns ((ns.length-1:Nat):Int)).length<1000000000∧cg o ns=((cu ns ((ns.length-1:Nat):Int)).length:Int):=by
 obtain ⟨far,V⟩:=jo hv
 have hp:=V.pos
 have ho:o.length≤5:=by
  unfold b9 fS at hv
  simp only [Bool.and_eq_true,decide_eq_true_eq] at hv
  have:=hv.1.1.1.1.1
  omega
 have h1:=vb V (fun x hx=>(hf.2.2 x hx).1) ns.length (ns.length-1) (by omega) (by omega) (.inr (.inr trivial))
 rw [V.last,Int.toNat_natCast] at h1
 have h2:11 ^ o.length≤11 ^ 5:=Nat.pow_le_pow_right (by decide) ho
 have h3:(cu ns ((ns.length-1:Nat):Int)).length<1000000000:=by
  have:(11:Nat) ^ 5=161051:=by decide
  omega
 refine ⟨far,V,h3,?_⟩
 unfold cg
 rw [hv,cond_true,uZ V (by omega) h3]
def fq (ns:List aF):List (List Int):=cu ns ((ns.length-1:Nat):Int)
section
variable {o:List Int} {ns:List aF}
theorem w8 (hf:FSm o ns) (hv:b9 o ns=true) {k:Nat} (hk:k<(fq ns).length):dJ o ns (k:Int)=((fq ns)[k],true):=by
 obtain ⟨far,V,hb,hc⟩:=hf.rows hv
 have hp:=V.pos
 unfold dJ
 have hr:inR (k:Int) 0 (cg o ns-1)=true:=df.2 (by rw [hc];have:k<(cu ns ((ns.length-1:Nat):Int)).length:=hk;omega)
 rw [hr,cond_true,vd V ns.length (ns.length-1) (k:Int) [] (by omega) (by omega) hb (by omega) (by have:k<(cu ns ((ns.length-1:Nat):Int)).length:=hk;omega),Int.toNat_natCast,List.nil_append]
 have hk':k<(cu ns ((ns.length-1:Nat):Int)).length:=hk
 rw [List.getD_eq_getElem?_getD,List.getElem?_eq_getElem hk',Option.getD_some];rfl
theorem yB (hf:FSm o ns) (hv:b9 o ns=true) {k:Nat} (hk:(fq ns).length≤k):dJ o ns (k:Int)=([],false):=by
 obtain ⟨far,V,hb,hc⟩:=hf.rows hv
 unfold dJ
 have hr:inR (k:Int) 0 (cg o ns-1)=false:=by
  cases hr:inR (k:Int) 0 (cg o ns-1) with
  | false=>rfl
  | true =>
   have:=df.1 hr
   rw [hc] at this
   have:(cu ns ((ns.length-1:Nat):Int)).length≤k:=hk
   omega
 rw [hr];rfl
theorem tm (hf:FSm o ns) (hv:b9 o ns=true):eb (fq ns)∧∀ r∈fq ns,r.length=o.length:=by
 obtain ⟨far,V,hb,hc⟩:=hf.rows hv
 have hp:=V.pos
 refine ⟨V.rows_asc ns.length (ns.length-1) (by omega) (by omega),fun r hr=>?_⟩
 have:=V.row_len ns.length (ns.length-1) (by omega) (by omega) r hr
 rw [V.last] at this;omega
theorem AY (hf:FSm o ns) (hv:b9 o ns=true) {vs:List Int} (hl:vs.length=o.length):lA o ns vs=((iV vs (fq ns):Int),decide (vs∈fq ns)):=by
 obtain ⟨far,V,hb,hc⟩:=hf.rows hv
 have hp:=V.pos
 unfold lA
 rw [hv,cond_true,if_pos hl]
 by_cases h:1<ns.length∧(ns.getD (ns.length-1) ([],[])).1=[]
 ·rw [if_pos h]
  have:fq ns=[]:=by
   unfold fq
   rw [V.rows (by omega) (by omega),h.2];rfl
  rw [this];rfl
 ·rw [if_neg h]
  refine Ax V vs (ns.length-1) (by omega) ?_ (by rw [V.last,hl]) hb
  by_cases h1:1<ns.length
  ·exact .inr fun e=>h ⟨h1,e⟩
  ·exact .inl (by omega)
theorem tG (hf:FSm o ns) (hv:b9 o ns=true) {n:Int}:∀ (f k:Nat) (out:List (List Int)),(fq ns).length-k<f→gj o ns f n (k:Int) out=out++((fq ns).drop k).take (n.toNat-out.length)
 | 0,k,out,h=>by omega
 | f+1,k,out,h=>by
  unfold gj
  by_cases hl:(out.length:Int)<n
  ·by_cases hk:k<(fq ns).length
   ·rw [w8 hf hv hk,decide_eq_true hl]
    dsimp only
    rw [Bool.true_and,cond_true,show (k:Int)+1=((k+1:Nat):Int) by omega,tG hf hv f (k+1) _ (by omega),List.length_append,List.length_singleton,List.append_assoc,du hk]
    obtain ⟨t,ht⟩:∃ t,n.toNat-out.length=t+1:=⟨n.toNat-out.length-1,by omega⟩
    rw [ht,List.take_succ_cons,show n.toNat-(out.length+1)=t by omega];rfl
   ·rw [yB hf hv (by omega),List.drop_of_length_le (by omega),List.take_nil,List.append_nil]
    dsimp only
    rw [Bool.and_false,cond_false]
  ·rw [decide_eq_false hl,Bool.false_and,cond_false,show n.toNat-out.length=0 by omega,List.take_zero,List.append_nil]
theorem xk (hf:FSm o ns) {vs:List Int} {n:Int}:(gm o ns vs n=[])∨(b9 o ns=true∧vs.length=o.length∧gm o ns vs n=((fq ns).drop (iV vs (fq ns))).take n.toNat):=by
 unfold gm
 cases hv:b9 o ns with
 | false=>exact .inl rfl
 | true =>
  by_cases hl:(vs.length:Int)=o.length
  ·have hl':vs.length=o.length:=by omega
   obtain ⟨far,V,hb,hc⟩:=hf.rows hv
   right
   refine ⟨rfl,hl',?_⟩
   rw [decide_eq_true hl,Bool.true_and,cond_true,AY hf hv hl']
   dsimp only
   have hb:(fq ns).length<1000000000:=hb
   rw [tG hf hv 1000000001 (iV vs (fq ns)) [] (by omega),List.nil_append,List.length_nil,Nat.sub_zero]
  ·rw [decide_eq_false hl];exact .inl rfl
theorem BB (hf:FSm o ns) (hv:b9 o ns=true) {p:List Int}:jz o ns p=(hQ p (fq ns):Int):=by
 obtain ⟨far,V,hb,hc⟩:=hf.rows hv
 have hp:=V.pos
 obtain ⟨_,hlen⟩:=tm hf hv
 unfold jz
 rw [hv,cond_true]
 by_cases h:(o.length:Int)<(p.length:Int)
 ·rw [decide_eq_true h,cond_true]
  have:hQ p (fq ns)=0:=by
   unfold hQ
   rw [List.length_eq_zero_iff,List.filter_eq_nil_iff]
   intro r hr
   rw [decide_eq_true_eq]
   intro e
   have:=congrArg List.length e
   rw [List.length_take,hlen r hr] at this
   omega
  rw [this];rfl
 ·rw [decide_eq_false h,cond_false]
  have:=wL V (p:=p) p.length 0 (ns.length-1) (by omega) (by omega) hb
  rw [List.drop_zero] at this
  generalize dw (ij ns p) p.length 0 ((ns.length-1:Nat):Int)=F at this
  cases F with
  | inl r=>obtain ⟨h1,h2⟩:=this;rw [h1];show (0:Int)=_;unfold fq;rw [h2];rfl
  | inr t=>exact this
theorem xx (hv:b9 o ns=true) (hp:1≤ns.length) (h:(jg o ns).2=true):(jg o ns).1.2=fq ns:=by
 unfold jg at h ⊢
 rw [hv] at h ⊢
 cases hc:decide (4000<cg o ns) with
 | true=>rw [hc] at h;cases h
 | false =>
  rw [Bool.true_and,Bool.not_false,cond_true]
  unfold fq cu
  rw [show ((ns.length:Int)-1)=((ns.length-1:Nat):Int) by omega]
end
theorem lT {N:Nat} (hM:1073742848≤N) {a:List Int} (ha:dP a):∃ o ns vs n,dL N a=some ((o,ns),vs,n)∧FSm o ns∧okI vs∧n≤10:=by
 have hN:1073741824≤N:=by omega
 obtain ⟨h,e⟩:=rT (N:=N) hN ha
 obtain ⟨o,ns,q,g,e1,hc1,hf⟩:=qA hM ha (h:=h) BX
 obtain ⟨vs,q2,g2,e2,hc2,hk⟩:=ql hM ha (h:=g) hc1 hf
 obtain ⟨x,q3,g3,e3,b0,b1,_,_⟩:=bD (N:=N) ha (h:=g2) (n:=6) hc2
 have b1:=b1 (by decide)
 unfold dL
 rw [e,bs]
 dsimp only
 rw [e1,bs]
 dsimp only
 rw [e2,bs]
 dsimp only
 rw [e3,bs]
 dsimp only
 rw [cI (by omega) (by omega),bs]
 exact ⟨_,_,_,_,rfl,hf,hk,by omega⟩
theorem kN {N:Nat} (hM:1073742848≤N) {a:List Int} (ha:dP a):∃ o ns p,dj N a=some ((o,ns),p)∧FSm o ns∧okI p:=by
 have hN:1073741824≤N:=by omega
 obtain ⟨h,e⟩:=rT (N:=N) hN ha
 obtain ⟨o,ns,q,g,e1,hc1,hf⟩:=qA hM ha (h:=h) BX
 obtain ⟨vs,q2,g2,e2,hc2,hk⟩:=ql hM ha (h:=g) hc1 hf
 have hl:=hk.1
 obtain ⟨x,q3,g3,e3,b0,b1,_,_⟩:=bD (N:=N) ha (h:=g2) (n:=((vs.length+1:Nat):Int)) hc2
 have b1:=b1 (by omega)
 obtain ⟨x,rfl⟩:=Int.eq_ofNat_of_zero_le b0
 unfold dj
 rw [e,bs]
 dsimp only
 rw [e1,bs]
 dsimp only
 rw [e2,bs]
 dsimp only
 rw [ad1 (by omega),bs,e3,bs]
 dsimp only
 rw [us (by omega),bs]
 exact ⟨_,_,_,rfl,hf,by rw [List.length_take];omega,fun _ _=>trivial⟩
theorem oX {N:Nat} (hN:1073741824≤N) {a0 vs:List Int} {l:aT} (hl:fV l) (hv:okI vs) (h1:∀ r∈l,¬ bt r vs<0) (h2:eb l):cq N N a0 vs l l 0=some (.inr (l.length:Int)):=by
 have hll:=hl.1
 have h:=gr (L:=fun k i=>cq N k a0 vs l l i) l.length (by omega) false (fun _=>true) (l.length:Int)
  (fun k i h=>by
   have hr:=(hl.2 _ (List.getElem_mem h)).1
   show cq N (k+1) a0 vs l l (i:Int)=_
   rw [cq,dlt h,cond_true,aM h,bs,bs,vm hN hr,bs,decide_eq_true rfl,cond_true,bs,lf hN hr (by have:=hv.1;omega),bs,decide_eq_false (h1 _ (List.getElem_mem h)),cond_false]
   by_cases h0:(0:Int)<(i:Int)
   ·have hi:i-1<l.length:=by omega
    have hr2:=(hl.2 _ (List.getElem_mem hi)).1
    have hc:=CB h2 (show i-1<i by omega) h
    rw [decide_eq_true h0,cond_true,cI (by omega) (by omega),bs,show (i:Int)-1=((i-1:Nat):Int) by omega,aM hi,bs,bs,lf hN hr2 (by omega),bs,decide_eq_false (by omega),cond_false,ad1 (by omega),bs];rfl
   ·rw [decide_eq_false h0,cond_false,ad1 (by omega),bs];rfl)
  (fun k=>by
   show cq N (k+1) a0 vs l l (l.length:Int)=_
   rw [cq,dge (by omega),cond_false]) N 0 (by omega) (by omega)
 have h':cq N N a0 vs l l 0=some (bif (List.range' 0 (l.length-0)).all (fun _=>true) then .inr (l.length:Int) else .inl false):=h
 rw [h',List.all_eq_true.2 (fun _ _=>rfl),cond_true]
theorem oZ {N:Nat} (hN:1073741824≤N) {p:List Int} {c n:Int} {l:aT} (hl:l.length≤1048576) (hp:p.length≤1048576):∀ (m i f:Nat) (s:Nat),i+m=l.length→m<f→s≤i→dN N f p c n l (s:Int) (i:Int)=some (((s+hQ p (l.drop i):Nat):Int),(l.length:Int)):=by
 intro m
 induction m with
 | zero =>
  intro i f s hi hf hs
  obtain ⟨f,rfl⟩:∃ g,f=g+1:=⟨f-1,by omega⟩
  obtain rfl:i=l.length:=by omega
  rw [dN,dge (by omega),cond_false,List.drop_length];rfl
 | succ m ih =>
  intro i f s hi hf hs
  obtain ⟨f,rfl⟩:∃ g,f=g+1:=⟨f-1,by omega⟩
  have h:i<l.length:=by omega
  have e:hQ p (l.drop i)=(if l[i].take p.length=p then 1 else 0)+hQ p (l.drop (i+1)):=by
   rw [du h]
   unfold hQ
   rw [List.filter_cons]
   by_cases q:l[i].take p.length=p
   ·rw [decide_eq_true q,if_pos rfl,if_pos q,List.length_cons,Nat.add_comm]
   ·rw [decide_eq_false q,if_neg (by decide),if_neg q,Nat.zero_add]
  rw [dN,dlt h,cond_true,aM h,bs,vQ hN hp,bs,e]
  by_cases q:l[i].take p.length=p
  ·rw [decide_eq_true q,cond_true,if_pos q,ad1 (by omega),bs,ad1 (by omega),bs,ih (i+1) f (s+1) (by omega) (by omega) (by omega),Nat.add_assoc]
  ·rw [decide_eq_false q,cond_false,if_neg q,ad1 (by omega),bs,ih (i+1) f s (by omega) (by omega) (by omega),Nat.zero_add]
theorem qK {N:Nat} (hM:1073742848≤N) {x0:List Int} (_:(kG (fun _=>True) 9223372036854775807) x0) (g0:∀ v∈x0,0≤v∧v≤255):iF N x0=some true:=by
 have hN:1073741824≤N:=by omega
 unfold iF oh
 rw [bs]
 by_cases hb:(1048576:Int)<(x0.length:Int)
 ·rw [decide_eq_true hb];rfl
 ·rw [decide_eq_false hb,cond_false]
  have hc:dP x0:=⟨by omega,fun v hv=>g0 v hv⟩
  obtain ⟨o,ns,vs,n,e1,hf,hvs,hn⟩:=lT hM hc
  obtain ⟨o2,ns2,p,e2,hf2,hp⟩:=kN hM hc
  have a1:=hf.o;have a2:=hf.n;have a3:=hf2.o;have a4:=hf2.n
  rw [e1,bs]
  dsimp only
  rw [l8 hN a1 a2 hvs,bs,lY hN a1 a2 hvs,bs,bne_self_eq_false,cond_false]
  have key:((gm o ns vs n).length:Int)≤imx 0 n∧fV (gm o ns vs n)∧(∀ r∈gm o ns vs n,¬ bt r vs<0)∧eb (gm o ns vs n):=by
   rcases xk hf (vs:=vs) (n:=n) with h | ⟨hv,hl,h⟩
   ·rw [h]
    exact ⟨by unfold imx;split <;> simp <;> omega,⟨by simp,by simp⟩,by simp,List.Pairwise.nil⟩
   ·rw [h]
    obtain ⟨r1,r2⟩:=tm hf hv
    have hsub:(((fq ns).drop (iV vs (fq ns))).take n.toNat).Sublist (fq ns):=(List.take_sublist _ _).trans (List.drop_sublist _ _)
    have ho:=hf.1
    refine ⟨?_,⟨by rw [List.length_take];omega,fun r hr=>⟨by rw [r2 r (hsub.subset hr)];omega,fun _ _=>trivial⟩⟩,fun r hr=>?_,List.Pairwise.sublist hsub r1⟩
    ·rw [List.length_take];unfold imx;split <;> omega
    ·obtain ⟨i,hi,rfl⟩:=List.getElem_of_mem (List.mem_of_mem_take hr)
     rw [List.getElem_drop]
     exact tJ r1 (by omega) _
  obtain ⟨q1,q2,q3,q4⟩:=key
  rw [decide_eq_false (by omega),cond_false,oX hN q2 hvs q3 q4,bs,vo,e2,bs]
  dsimp only
  rw [lc hN a3 a4 hp,bs,lP hN a3 a4,bs]
  cases he:(jg o2 ns2).2 with
  | false =>
   rw [cond_false,lb hN a3 a4 hp,bs,beq_self_eq_true]
  | true =>
   have hv2:b9 o2 ns2=true:=by
    cases hv2:b9 o2 ns2 with
    | true=>rfl
    | false=>unfold jg at he;rw [hv2] at he;cases he
   obtain ⟨far,V⟩:=jo hv2
   have hok:=(w5 (order:=o2) a4).1
   rw [xx hv2 V.pos he] at hok ⊢
   have:=oZ hN (p:=p) (c:=jz o2 ns2 p) (n:=(jg o2 ns2).1.1) hok hp.1 (fq ns2).length 0 N 0 (by omega) (by omega) (by omega)
   rw [show ((0:Nat):Int)=0 from rfl] at this
   rw [cond_true,this,bs,lpB]
   dsimp only
   rw [Nat.zero_add,List.drop_zero,BB hf2 hv2,beq_self_eq_true]
section
variable {P:Program} {n:Nat} {Q Q':Exit→Env→World→Prop} {K:Env→World→Prop} {KQ:Env→Prop} {e:Env} {w w0:World} {c y:Code} {x:Exit} {ops:Array Oper} {rest:List Oper}
variable {d:Nat} {op:Op} {ty:TypeId} {pos:String} {af:Array Edge} {o z1 z2 z3:Operand} {v:Value} {q1:Oper}
theorem rO {α:Type} {R:Rep α} {w:World}:∀ {xs:List α} {ccs:List Value} {f:List Nat},d7 R w ccs xs f→∀ (k:Nat) (hk:k<xs.length),
  ∃ c1 ec c3 f1 f2 f3,ccs=c1++(ec++c3)∧f=f1++(f2++f3)∧c1.length=k*R.sz∧R.own w ec xs[k] f2∧(∀ b∈f1++f3,b<w.heap.size) ∧
   ∀ w' y f' ec',(∀ b∈f1++f3,w'.heap[b]? = w.heap[b]?)→R.own w' ec' y f'→d7 R w' (c1++(ec'++c3)) (xs.set k y) (f1++(f'++f3))
 | [],_,_,_,k,hk=>absurd hk (by simp)
 | x :: xs,_,_,h,k,hk=>by
  obtain ⟨ec,rest,f1,f2,rfl,rfl,h1,h2⟩:=h
  cases k with
  | zero =>
   exact ⟨[],ec,rest,[],f1,f2,rfl,rfl,by simp,h1,fun b hb=>ic h2 b (by simpa using hb),fun w' y f' ec' he ho=>⟨ec',rest,f',f2,rfl,rfl,ho,gX h2 (by simpa using he)⟩⟩
  | succ k =>
   have hl:=R.rd_len (R.own_rd h1)
   obtain ⟨c1,e2,c3,g1,g2,g3,rfl,rfl,k3,k4,k5,k6⟩:=rO h2 k (by simpa using hk)
   refine ⟨ec++c1,e2,c3,f1++g1,g2,g3,by simp,by simp,by rw [List.length_append,k3,Nat.succ_mul];omega,k4,fun b hb=>?_,fun w' y f' ec' he ho=>?_⟩
   ·rw [List.append_assoc] at hb
    rcases List.mem_append.1 hb with hb | hb
    ·exact R.own_lt h1 b hb
    ·exact k5 b hb
   ·rw [List.append_assoc,List.append_assoc]
    exact ⟨ec,_,f1,_,rfl,rfl,R.own_ext h1 (fun b hb=>he b (by simp [hb])),k6 w' y f' ec' (fun b hb=>he b (by rw [List.append_assoc];exact List.mem_append_right _ hb)) ho⟩
def mq {α:Type} (R:Rep α) (E:TypeId) (v:Value) (xs:List α) (i:Nat) (ec:List Value) (g m:Nat):Asn where
 holds w fp:=∃ cap cur c1 c3 f1 f3,v=.slice (some ⟨g,0,none⟩) xs.length cap∧w.heap[g]? = some (.cells cur E (0,0))∧xs.length≤cap∧cap≤maxLen∧cur.size=cap*R.sz∧cur.toList.take (xs.length*R.sz)=c1++(ec++c3)∧c1.length=i*R.sz∧ec.length=R.sz∧m=R.sz∧i<xs.length ∧
  (∀ b∈f1++f3,b<w.heap.size)∧(∀ w' y f' ec',(∀ b∈f1++f3,w'.heap[b]? = w.heap[b]?)→R.own w' ec' y f'→d7 R w' (c1++(ec'++c3)) (xs.set i y) (f1++(f'++f3)))∧fp=g :: (f1++f3)
 ext h he:=by
  obtain ⟨cap,cur,c1,c3,f1,f3,h1,h2,h3,h4,h5,h6,h7,h8,h9,h10,h11,h12,rfl⟩:=h
  refine ⟨cap,cur,c1,c3,f1,f3,h1,by rw [he _ List.mem_cons_self];exact h2,h3,h4,h5,h6,h7,h8,h9,h10,fun b hb=>?_,fun w'' y f' ec' he' ho=>h12 w'' y f' ec' (fun b hb=>(he' b hb).trans (he b (List.mem_cons_of_mem _ hb))) ho,rfl⟩
  have k1:=h11 b hb
  have k2:=he b (List.mem_cons_of_mem _ hb)
  rw [Array.getElem?_eq_getElem k1] at k2
  exact (Array.getElem?_eq_some_iff.1 k2).1
 lt h:=by
  obtain ⟨cap,cur,c1,c3,f1,f3,h1,h2,h3,h4,h5,h6,h7,h8,h9,h10,h11,h12,rfl⟩:=h
  intro b hb
  rcases List.mem_cons.1 hb with rfl | hb
  ·exact (Array.getElem?_eq_some_iff.1 h2).1
  ·exact h11 b hb
section
variable {α:Type} {R:Rep α} {Γ:List Asn} {E:TypeId} {v:Value}
theorem Sat.holeDCells (a:Nat) {xs:List α} {i g m:Nat} {ec:List Value} (hS:Sat w0 w Γ) (hi:Γ[a]? = some (mq R E v xs i ec g m)):∀ j c,ec[j]? = some c→w.cell? ⟨g,i*m+j,none⟩=some c:=by
 obtain ⟨fp,ho,_⟩:=(hS.top a hi).head
 obtain ⟨cap,cur,c1,c3,f1,f3,h1,h2,h3,h4,h5,h6,h7,h8,h9,h10,_⟩:=ho
 intro j c hj
 subst h9
 rw [cell_of_row w g _ cur E (0,0) h2,← Array.getElem?_toList]
 have hjl:=(List.getElem?_eq_some_iff.1 hj).1
 have e:(cur.toList.take (xs.length*R.sz))[i*R.sz+j]? = some c:=by
  rw [h6,List.getElem?_append_right (by omega),show i*R.sz+j-c1.length=j by omega,List.getElem?_append_left hjl,hj]
 rw [List.getElem?_take] at e
 split at e
 ·exact e
 ·cases e
theorem Sat.takeOutD {xs:List α} {m:Nat} {i:Int} {u:α} (hS:Sat w0 w (Own (aD R E) [v] xs :: Γ)) (h:ix xs i=some u) (hn:R.sz=m) :
  ∃ g cap ec,v=.slice (some ⟨g,0,none⟩) xs.length cap∧R.rd w ec u∧Sat w0 w (Own R ec u :: mq R E v xs i.toNat ec g m :: Γ):=by
 obtain ⟨g,cap,ec,hv,hr,hS'⟩:=hS.takeOutC h hn
 refine ⟨g,cap,ec,hv,hr,?_⟩
 obtain ⟨k,rfl,hk,rfl⟩:=gU h
 subst hn
 have hrl:=R.rd_len hr
 have hcl:=hS'.holeCells 1 rfl
 subst hv
 refine hS.splitp fun f hf=>?_
 rcases hf with ⟨_,h2,_⟩ | ⟨g',cap',cur,ccs,fe,hv,hg,h1,h2,h3,h4,h5,rfl⟩
 ·subst h2;simp at hk
 obtain ⟨rfl,rfl⟩:g=g'∧cap=cap':=by simpa using hv
 obtain ⟨c1,ec',c3,f1,f2,f3,k1,rfl,k3,k4,k5,k6⟩:=rO h5 k hk
 have hrl2:=R.rd_len (R.own_rd k4)
 have hec:ec=ec':=by
  refine List.ext_getElem (by rw [hrl,hrl2]) fun j hj1 hj2=>?_
  have e1:=hcl j ec[j] (List.getElem?_eq_getElem hj1)
  simp only [Int.toNat_natCast] at e1
  rw [cell_of_row w g _ cur E (0,0) hg,← Array.getElem?_toList] at e1
  have e2:(cur.toList.take (xs.length*R.sz))[k*R.sz+j]? = some ec'[j]:=by
   rw [h4,k1,List.getElem?_append_right (by omega),show k*R.sz+j-c1.length=j by omega,List.getElem?_append_left hj2,List.getElem?_eq_getElem hj2]
  rw [List.getElem?_take] at e2
  split at e2
  ·rw [e1] at e2;exact Option.some.inj e2
  ·cases e2
 subst hec
 refine ⟨f2,g :: (f1++f3),?_,k4,cap,cur,c1,c3,f1,f3,by simp,hg,by simpa using h1,h2,h3,by rw [h4,k1],by simpa using k3,hrl,rfl,by simpa using hk,k5,by simpa using k6,rfl⟩
 refine List.perm_middle.trans (.cons _ ?_)
 rw [← List.append_assoc,← List.append_assoc]
 exact List.Perm.append_right _ List.perm_append_comm
theorem Sat.putBackD {xs ys:List α} {i:Int} {y:α} {ec:List Value} {g m:Nat} (hS:Sat w0 w (Own R ec y :: mq R E v xs i.toNat ec g m :: Γ)) (h:sto xs i y=some ys):Sat w0 w (Own (aD R E) [v] ys :: Γ):=by
 have e:ys=xs.set i.toNat y:=by
  unfold sto at h;split at h
  ·exact (Option.some.inj h).symm
  ·cases h
 subst e
 refine hS.joinp fun f fh h1 h2=>?_
 obtain ⟨cap,cur,c1,c3,f1,f3,rfl,k2,k3,k4,k5,k6,k7,k8,k9,k10,k11,k12,rfl⟩:=h2
 refine ⟨g :: (f1++(f++f3)),?_,.inr ⟨g,cap,cur,_,_,by simp,k2,by simpa using k3,k4,k5,by rw [List.length_set];exact k6,k12 w y f ec (fun _ _=>rfl) h1,rfl⟩⟩
 refine .trans (.cons _ ?_) List.perm_middle.symm
 rw [← List.append_assoc,← List.append_assoc]
 exact List.Perm.append_right _ List.perm_append_comm
theorem yM {e:Env} {K:Env→World→Prop} {x y:Operand} {t:TypeId} {z:List Value} {bytes:Nat} [hz:ElemT P t z 1 bytes] {xs:List α} {g o i j m:Nat} {ec ec':List Value} {c:Value}
  (hS:Sat w0 w (mq R E v xs i ec g m :: Γ)) (ho:o=i*m+j) (hj:j<m) (hx:ev e x=.pointer (some ⟨g,o,none⟩)) (hy:(ev e y).cells=[c].toArray) (h1:c.oneCell'=true) (hec:ec.set j c=ec')
  (hK:∀ w',Sat w0 w' (mq R E v xs i ec' g m :: Γ)→EL P n ops K rest e w'):EL P n ops K (⟨none,.store t x y,ty,pos,af,none⟩ :: rest) e w:=by
 intro a ha
 refine wpList_plain rfl fun K' hK'=>?_
 subst ho hec
 have hz:=hz.h
 cases hi:P.info? t with
 | none=>simp [hi] at hz
 | some inf =>
  simp [hi] at hz
  obtain ⟨fp,⟨cap,cur,c1,c3,f1,f3,k1,k2,k3,k4,k5,k6,k7,k8,k9,k10,k11,k12,k13⟩,hnd,_⟩:=hS.head
  subst k9
  have hl6:=congrArg List.length k6
  simp only [List.length_take,List.length_append,Array.length_toList] at hl6
  have hin:i*R.sz+j+1≤cur.size:=by omega
  have hh':w.heap[g]? = some (.cells cur.toList.toArray E (0,0)):=by simpa using k2
  obtain ⟨w',hr,hnew,hc⟩:=fv (P:=P) [c] (i*R.sz+j) 0 cur.toList w hh' (by simp;omega) (by simpa using h1)
  have hsz:¬ ([c].toArray.size≠inf.size):=by simp;omega
  unfold Oper.wp execOp
  simp only [ha.eval,hx,Instr.storeAt,Instr.sureAddr,storeVar,sizeOf,typeInfo,hi,hy,Sem.run_bind,Sem.run_pure,run_program,Result.andThen_ok,hsz,if_false,Sem.run_ite,List.toList_toArray,hr,Oper.upon_skip]
  refine hK' _ _ (hK w' ?_ _ ha)
  refine hS.upd ?_
  intro fp2 hv2 hnd2
  obtain ⟨cap,cur',c1,c3,f1,f3,k1,k2',k3,k4,k5,k6,k7,k8,_,k10,k11,k12,rfl⟩:=hv2
  obtain ⟨rfl⟩:cur'=cur:=by rw [k2] at k2';simpa using k2'.symm
  have hoth:∀ x,x≠g→x<w.heap.size→w'.heap[x]? = w.heap[x]?:=fun x hx hlt=>hc.block x hlt (by simpa using hx)
  have hgn:g∉f1++f3:=(List.nodup_cons.1 hnd2).1
  have hf:∀ b∈f1++f3,w'.heap[b]? = w.heap[b]?:=fun b hb=>hoth b (fun e=>hgn (e ▸ hb)) (k11 b hb)
  refine ⟨g :: (f1++f3),⟨cap,_,c1,c3,f1,f3,k1,hnew,k3,k4,?_,?_,k7,by rw [List.length_set];exact k8,rfl,k10,fun b hb=>?_,fun w'' y' f' ec' he hq=>k12 w'' y' f' ec' (fun b hb=>(he b hb).trans (hf b hb)) hq,rfl⟩,hnd2,hc.mono (by simp),fun b hb=>.inl hb⟩
  ·simp only [List.size_toArray,List.length_append,List.length_take,List.length_drop,Array.length_toList,List.length_singleton,Nat.add_zero]
   omega
  ·have hmul:=Nat.mul_le_mul_right R.sz k10
   rw [Nat.succ_mul] at hmul
   have:=lz cur.toList [c] (i*R.sz+j) 1 (xs.length*R.sz) (by omega) (by simp;have:=Nat.mul_le_mul_right R.sz k3;omega) rfl
   simp only [Nat.add_zero,List.length_singleton] at this ⊢
   rw [this,k6,List.take_append,List.drop_append,List.take_of_length_le (by omega),List.drop_of_length_le (by omega),show i*R.sz+j-c1.length=j by omega,show i*R.sz+j+1-c1.length=j+1 by omega,
    List.take_append_of_le_length (by omega),List.drop_append_of_le_length (by omega),List.set_eq_take_append_cons_drop,if_pos (by omega)]
   simp
  ·have k1:=k11 b hb
   have k2:=hf b hb
   rw [Array.getElem?_eq_getElem k1] at k2
   exact (Array.getElem?_eq_some_iff.1 k2).1
end
theorem Bf {α:Type} {x:Operand} {t E':TypeId} [ht:SliceT P t E'] {v:Value} {xs:List α} {g:Nat} {cap:Nat} (hx:ev e x=v) (hv:v=.slice (some ⟨g,0,none⟩) xs.length cap) :
  PV P ⟨d,.call ⟨.builtin .len,#[x],#[t]⟩,ty,pos,af,none⟩ e w (.int .i64 xs.length):=fun w' _=>by
 subst hv
 unfold execOp;simp [resolve,invoke,builtin,hx,Builtin.len_,run_underlying ht.h,goInt]
theorem dt {p:Prop} [Decidable p] (h:decide p=true:=by rfl):p:=of_decide_eq_true h
theorem oB {α β:Type} {C:Prop} {o:Option α} {f:α→Option β} {r:β} (h:o.bind f=some r) (k:∀ x,o=some x→f x=some r→C):C:=by
 obtain ⟨x,h1,h2⟩:=ob h
 exact k x h1 h2
theorem oF {α:Type} {C:Prop} {c:Bool} {x y:Option α} {r:α} (h:(bif c then x else y)=some r) (k1:c=true→x=some r→C) (k2:c=false→y=some r→C):C:=by
 rcases oif h with ⟨h1,h2⟩ | ⟨h1,h2⟩
 ·exact k1 h1 h2
 ·exact k2 h1 h2
theorem oI {α:Type} {a b:α} (h:some a=some b):a=b:=Option.some.inj h
theorem nn {α:Type} {x:α} (h:none=some x):False:=nomatch h
theorem cR {α:Type} {a b:α} (h:a=b) (f:α→Value):Ending.returned (f a)=Ending.returned (f b):=by rw [h]
theorem sP {α:Type} {a b:α} (h:a=b) (f:α→List Asn) (S:Sat w0 w (f a)):Sat w0 w (f b):=by rw [← h];exact S
abbrev pt (b o:Nat):Value:=.pointer (some ⟨b,o,none⟩)
theorem sg (h:∀ Q':Exit→Env→World→Prop,(∀ x e w,thn (fun e w=>CW P n y Q e w) Q x e w→Q' x e w)→CW P n c Q' e w):CW P n (.seq c y) Q e w:=za (rA h)
theorem sR {id:Nat} {l:List Oper} (h:∀ Q':Exit→Env→World→Prop,(∀ x e w,thn (fun e w=>CW P n y Q e w) Q x e w→Q' x e w)→EL P n l.toArray (fun e w=>Q' .normal e w) l e w):CW P n (.seq (.region id l.toArray false) y) Q e w:=za (rA fun Q' q=>ah (h Q' q))
theorem gn (h:∀ Q':Exit→Env→World→Prop,(∀ x e w,Q x e w→Q' x e w)→CW P n c Q' e w):CW P n c Q e w:=rA h
theorem bg {i:Nat} (h:∀ Q':Exit→Env→World→Prop,(∀ x e w,inb i Q x e w→Q' x e w)→CW P n c Q' e w):CW P n (.block i c) Q e w:=zH (rA h)
theorem hq {f:Exit→Env→World→Prop} (h:∀ x e w,f x e w→Q' x e w) (k:f x e w):Q' x e w:=h _ _ _ k
theorem tn (h:∀ x e w,thn K Q x e w→Q' x e w) (k:K e w):Q' .normal e w:=h _ _ _ k
theorem tr (h:∀ x e w,thn K Q x e w→Q' x e w) (k:Q .ret e w):Q' .ret e w:=h _ _ _ k
theorem tx {i:Nat} (h:∀ x e w,thn K Q x e w→Q' x e w) (k:Q (.exit i) e w):Q' (.exit i) e w:=h _ _ _ k
theorem bn {i:Nat} (h:∀ x e w,inb i Q x e w→Q' x e w) (k:Q .normal e w):Q' .normal e w:=h _ _ _ k
theorem br {i:Nat} (h:∀ x e w,inb i Q x e w→Q' x e w) (k:Q .ret e w):Q' .ret e w:=h _ _ _ k
theorem bS {i:Nat} (h:∀ x e w,inb i Q x e w→Q' x e w) (k:Q .normal e w):Q' (.exit i) e w:=h _ _ _ (CT k)
theorem en (h:∀ x e w,thn K Q x e w→Q' x e w) (k:K e w):EL P n ops (fun e w=>Q' .normal e w) [] e w:=ag (h _ _ _ k)
theorem sn (h:∀ x e w,thn K Q x e w→Q' x e w) (k:K e w):CW P n .skip Q' e w:=aY (h _ _ _ k)
theorem pa (v:Value) (hK:EL P n ops K rest (upd e d v) w) (hx:ev e o=v:=by exact rfl) (hd:d<n:=by decide):EL P n ops K (⟨some d,.assign o,ty,pos,af,none⟩ :: rest) e w:=mQ (b5 hx) hd hK
theorem pm (v:Value) (hK:EL P n ops K rest (upd e d v) w) (hx:ev e o=v:=by exact rfl) (hd:d<n:=by decide):EL P n ops K (⟨some d,.move o,ty,pos,af,none⟩ :: rest) e w:=mQ (aK hx) hd hK
theorem pM (v:Value) (hx:ev e o=v) (hK:EL P n ops K rest (upd e d v) w) (hd:d<n:=by decide):EL P n ops K (⟨some d,.move o,ty,pos,af,none⟩ :: rest) e w:=mQ (aK hx) hd hK
theorem pe (v:Value) (hp:PV P ⟨some d,op,ty,pos,af,none⟩ e w v) (hK:EL P n ops K rest (upd e d v) w) (hd:d<n:=by decide):EL P n ops K (⟨some d,op,ty,pos,af,none⟩ :: rest) e w:=mQ hp hd hK
theorem qe (v:Value) (hp:PV P ⟨some d,op,ty,pos,af,none⟩ e w v) (hK:QL P n ops w KQ rest (upd e d v)) (hd:d<n:=by decide):QL P n ops w KQ (⟨some d,op,ty,pos,af,none⟩ :: rest) e:=pY hp hd hK
theorem qm (v:Value) (hK:QL P n ops w KQ rest (upd e d v)) (hx:ev e o=v:=by exact rfl) (hd:d<n:=by decide):QL P n ops w KQ (⟨some d,.move o,ty,pos,af,none⟩ :: rest) e:=pY (aK hx) hd hK
theorem qM (v:Value) (hx:ev e o=v) (hK:QL P n ops w KQ rest (upd e d v)) (hd:d<n:=by decide):QL P n ops w KQ (⟨some d,.move o,ty,pos,af,none⟩ :: rest) e:=pY (aK hx) hd hK
theorem eo {j:Nat} {b b' c:Bool} (hc:c=b) (hK:EL P n ops K rest (upd e d undef) w) (h:yld ops e j=some c:=by exact rfl) (hb:(b == b')=false:=by exact rfl) (hd:d<n:=by decide):EL P n ops K (⟨some d,op,ty,pos,af,some (j,b')⟩ :: rest) e w:=B7 h hc hb hd hK
theorem qo {j:Nat} {b b' c:Bool} (hc:c=b) (hK:QL P n ops w KQ rest (upd e d undef)) (h:yld ops e j=some c:=by exact rfl) (hb:(b == b')=false:=by exact rfl) (hd:d<n:=by decide):QL P n ops w KQ (⟨some d,op,ty,pos,af,some (j,b')⟩ :: rest) e:=CC h hc hb hd hK
theorem ei {j:Nat} {b c:Bool} {dst:Option Nat} (hc:c=b) (hK:EL P n ops K (⟨dst,op,ty,pos,af,none⟩ :: rest) e w) (h:yld ops e j=some c:=by exact rfl):EL P n ops K (⟨dst,op,ty,pos,af,some (j,b)⟩ :: rest) e w:=CU h hc hK
theorem qi {j:Nat} {b c:Bool} {dst:Option Nat} (hc:c=b) (hK:QL P n ops w KQ (⟨dst,op,ty,pos,af,none⟩ :: rest) e) (h:yld ops e j=some c:=by exact rfl):QL P n ops w KQ (⟨dst,op,ty,pos,af,some (j,b)⟩ :: rest) e:=CV h hc hK
theorem ct {b:Bool} (hb:b=true) (h:CW P n c Q e w) (hc:ev e o=.bool b:=by exact rfl):CW P n (.cond o c y) Q e w:=yQ hc hb h
theorem cf {b:Bool} (hb:b=false) (h:CW P n y Q e w) (hc:ev e o=.bool b:=by exact rfl):CW P n (.cond o c y) Q e w:=xZ hc hb h
theorem rB {a b:Bool} {Γ:List Asn} (h:some a=some b) (hS:Sat w0 w Γ):Ending.returned (.bool a)=.returned (.bool b)∧Ext w0 w:=⟨by rw [Option.some.inj h],hS.below⟩
theorem rI {a b:Int} {Γ:List Asn} (h:some a=some b) (hS:Sat w0 w Γ):Ending.returned (.int .i64 a)=.returned (.int .i64 b)∧Ext w0 w:=⟨by rw [Option.some.inj h],hS.below⟩
abbrev i_ (x:Int):Value:=.int .i64 x
abbrev n_:Value:=.slice none 0 0
theorem ec0 {f:FuncId} {args:Array Operand} {tys:Array TypeId} {vals:Array Value} {Γ:List Asn} (hg:Goes P f) (hc:Calls P f vals w fun x w'=>x=.returned v∧Ext w w') (hv:(args.toList.map (ev e)).toArray=vals) (S:Sat w0 w Γ)
  (hK:∀ w',Ext w w'→Sat w0 w' Γ→EL P n ops K rest (upd e d v) w') (hd:d<n:=by decide):EL P n ops K (⟨some d,.call ⟨.value (.func f),args,tys⟩,ty,pos,af,none⟩ :: rest) e w :=
 aQ hg hc hv hd (by rintro _ w' ⟨rfl,hx⟩;exact ⟨_,rfl,hK w' hx (S.ext hx)⟩)
theorem ec1 {f:FuncId} {args:Array Operand} {tys:Array TypeId} {vals:Array Value} {Γ:List Asn} {G:Value→Value} {A:Value→Asn} (hg:Goes P f) (hc:Calls P f vals w fun x w'=>∃ v,x=.returned (G v)∧Sat w w' [A v]) (hv:(args.toList.map (ev e)).toArray=vals) (S:Sat w0 w Γ)
  (hK:∀ w' v,Ext w w'→Sat w0 w' (A v :: Γ)→EL P n ops K rest (upd e d (G v)) w') (hd:d<n:=by decide):EL P n ops K (⟨some d,.call ⟨.value (.func f),args,tys⟩,ty,pos,af,none⟩ :: rest) e w :=
 aQ hg hc hv hd (by rintro _ w' ⟨v,rfl,S'⟩;exact ⟨_,rfl,hK w' v S'.below (S.call1 S')⟩)
theorem aO {X:List Nat} {C:World→Prop} (i:Nat) {f:Nat} {L:Array Bool} (ho:ops[i]? = some q1)
  (h:EL P n ops (fun e' w'=>(X.contains i=true→C w')∧AL P n ops X C K f (L.setIfInBounds i true) e' w') [q1] e w) (hr:Region.ready .any ops L=[i]:=by kernel_rfl):AL P n ops X C K (f+1) L e w:=B9 i hr ho h
theorem aP {X:List Nat} {C:World→Prop} (v:Value) (i:Nat) {f:Nat} {L:Array Bool} (hi:ops[i]? = some q1) (hdst:q1.dst=some d) (hC:C w)
  (hy:SV P n ops C q1 e v) (hK:AL P n ops X C K f (L.setIfInBounds i true) (upd e d v) w) (hsel:lD ops=true:=by kernel_rfl) (hdn:d<n:=by decide) (hf:nx ops X L i q1=true:=by kernel_rfl) (hr:(Region.ready .any ops L).contains i=true:=by kernel_rfl):AL P n ops X C K (f+1) L e w:=xS hsel i hi hdst hdn hC hf hr hy hK
theorem ca {α β:Type} {f:α→β} {l:List α} {m:List β} (h:l.map f=m):(l.map f).toArray=m.toArray:=congrArg List.toArray h
theorem Sat.t1 {a0 a1:Asn} {Γ:List Asn} (h:Sat w0 w (a0 :: a1 :: Γ)):Sat w0 w (a1 :: a0 :: Γ):=h.top 1 rfl
theorem Sat.t2 {a0 a1 a2:Asn} {Γ:List Asn} (h:Sat w0 w (a0 :: a1 :: a2 :: Γ)):Sat w0 w (a2 :: a0 :: a1 :: Γ):=h.top 2 rfl
theorem Sat.t3 {a0 a1 a2 a3:Asn} {Γ:List Asn} (h:Sat w0 w (a0 :: a1 :: a2 :: a3 :: Γ)):Sat w0 w (a3 :: a0 :: a1 :: a2 :: Γ):=h.top 3 rfl
theorem Sat.t4 {a0 a1 a2 a3 a4:Asn} {Γ:List Asn} (h:Sat w0 w (a0 :: a1 :: a2 :: a3 :: a4 :: Γ)):Sat w0 w (a4 :: a0 :: a1 :: a2 :: a3 :: Γ):=h.top 4 rfl
theorem Sat.t5 {a0 a1 a2 a3 a4 a5:Asn} {Γ:List Asn} (h:Sat w0 w (a0 :: a1 :: a2 :: a3 :: a4 :: a5 :: Γ)):Sat w0 w (a5 :: a0 :: a1 :: a2 :: a3 :: a4 :: Γ):=h.top 5 rfl
theorem Sat.t6 {a0 a1 a2 a3 a4 a5 a6:Asn} {Γ:List Asn} (h:Sat w0 w (a0 :: a1 :: a2 :: a3 :: a4 :: a5 :: a6 :: Γ)):Sat w0 w (a6 :: a0 :: a1 :: a2 :: a3 :: a4 :: a5 :: Γ):=h.top 6 rfl
theorem Sat.t7 {a0 a1 a2 a3 a4 a5 a6 a7:Asn} {Γ:List Asn} (h:Sat w0 w (a0 :: a1 :: a2 :: a3 :: a4 :: a5 :: a6 :: a7 :: Γ)):Sat w0 w (a7 :: a0 :: a1 :: a2 :: a3 :: a4 :: a5 :: a6 :: Γ):=h.top 7 rfl
theorem Sat.t8 {a0 a1 a2 a3 a4 a5 a6 a7 a8:Asn} {Γ:List Asn} (h:Sat w0 w (a0 :: a1 :: a2 :: a3 :: a4 :: a5 :: a6 :: a7 :: a8 :: Γ)):Sat w0 w (a8 :: a0 :: a1 :: a2 :: a3 :: a4 :: a5 :: a6 :: a7 :: Γ):=h.top 8 rfl
theorem Sat.t10 {a0 a1 a2 a3 a4 a5 a6 a7 a8 a9 a10:Asn} {Γ:List Asn} (h:Sat w0 w (a0 :: a1 :: a2 :: a3 :: a4 :: a5 :: a6 :: a7 :: a8 :: a9 :: a10 :: Γ)):Sat w0 w (a10 :: a0 :: a1 :: a2 :: a3 :: a4 :: a5 :: a6 :: a7 :: a8 :: a9 :: Γ):=h.top 10 rfl
theorem Sat.r0 {a0:Asn} {Γ:List Asn} (h:Sat w0 w (a0 :: Γ)):Sat w0 w (Γ):=h.rem 0 rfl
theorem Sat.r1 {a0 a1:Asn} {Γ:List Asn} (h:Sat w0 w (a0 :: a1 :: Γ)):Sat w0 w (a0 :: Γ):=h.rem 1 rfl
theorem Sat.r2 {a0 a1 a2:Asn} {Γ:List Asn} (h:Sat w0 w (a0 :: a1 :: a2 :: Γ)):Sat w0 w (a0 :: a1 :: Γ):=h.rem 2 rfl
theorem Sat.r3 {a0 a1 a2 a3:Asn} {Γ:List Asn} (h:Sat w0 w (a0 :: a1 :: a2 :: a3 :: Γ)):Sat w0 w (a0 :: a1 :: a2 :: Γ):=h.rem 3 rfl
theorem Sat.r4 {a0 a1 a2 a3 a4:Asn} {Γ:List Asn} (h:Sat w0 w (a0 :: a1 :: a2 :: a3 :: a4 :: Γ)):Sat w0 w (a0 :: a1 :: a2 :: a3 :: Γ):=h.rem 4 rfl
theorem Sat.r5 {a0 a1 a2 a3 a4 a5:Asn} {Γ:List Asn} (h:Sat w0 w (a0 :: a1 :: a2 :: a3 :: a4 :: a5 :: Γ)):Sat w0 w (a0 :: a1 :: a2 :: a3 :: a4 :: Γ):=h.rem 5 rfl
theorem Sat.r6 {a0 a1 a2 a3 a4 a5 a6:Asn} {Γ:List Asn} (h:Sat w0 w (a0 :: a1 :: a2 :: a3 :: a4 :: a5 :: a6 :: Γ)):Sat w0 w (a0 :: a1 :: a2 :: a3 :: a4 :: a5 :: Γ):=h.rem 6 rfl
theorem Sat.r7 {a0 a1 a2 a3 a4 a5 a6 a7:Asn} {Γ:List Asn} (h:Sat w0 w (a0 :: a1 :: a2 :: a3 :: a4 :: a5 :: a6 :: a7 :: Γ)):Sat w0 w (a0 :: a1 :: a2 :: a3 :: a4 :: a5 :: a6 :: Γ):=h.rem 7 rfl
theorem Sat.r8 {a0 a1 a2 a3 a4 a5 a6 a7 a8:Asn} {Γ:List Asn} (h:Sat w0 w (a0 :: a1 :: a2 :: a3 :: a4 :: a5 :: a6 :: a7 :: a8 :: Γ)):Sat w0 w (a0 :: a1 :: a2 :: a3 :: a4 :: a5 :: a6 :: a7 :: Γ):=h.rem 8 rfl
theorem Sat.r9 {a0 a1 a2 a3 a4 a5 a6 a7 a8 a9:Asn} {Γ:List Asn} (h:Sat w0 w (a0 :: a1 :: a2 :: a3 :: a4 :: a5 :: a6 :: a7 :: a8 :: a9 :: Γ)):Sat w0 w (a0 :: a1 :: a2 :: a3 :: a4 :: a5 :: a6 :: a7 :: a8 :: Γ):=h.rem 9 rfl
theorem Sat.r10 {a0 a1 a2 a3 a4 a5 a6 a7 a8 a9 a10:Asn} {Γ:List Asn} (h:Sat w0 w (a0 :: a1 :: a2 :: a3 :: a4 :: a5 :: a6 :: a7 :: a8 :: a9 :: a10 :: Γ)):Sat w0 w (a0 :: a1 :: a2 :: a3 :: a4 :: a5 :: a6 :: a7 :: a8 :: a9 :: Γ):=h.rem 10 rfl
end
abbrev R0_:=aD bH 3
abbrev R1_:=aD jm 9
abbrev R2_:=aD R0_ 24
abbrev R3_:=m4 jm R0_
abbrev R4_:=m4 R0_ R0_
abbrev R5_:=m4 bH R2_
abbrev R6_:=aD R3_ 106
abbrev R7_:=aD R4_ 70
abbrev R8_:=m4 jm R5_
abbrev R9_:=aD R5_ 124
abbrev bL:=aD R8_ 133
abbrev T0_:=List Int
abbrev T1_:=List T0_
abbrev T2_:=List Int × List Int
abbrev T3_:=ByteArray × List Int
abbrev T4_:=Int × List T0_
abbrev T5_:=List T2_
abbrev T6_:=ByteArray × T4_
abbrev T7_:=List Int × List T2_
abbrev T8_:=List T6_
abbrev T9_:=Int × List T3_ × List Int
section
set_option maxRecDepth 100000
set_option maxHeartbeats 4000000
theorem vT {w0:World} {u0:Value} {a0:List Int} (ha0:(aD u8R 5).rd w0 [u0] a0) {N:Nat} {r:Bool} (F:oh N a0=some r): Calls Tryz.prog 5 #[u0] w0 fun e w'=>e=.returned (.bool r)∧Ext w0 w' := by
 unfold oh at F;refine aN Tryz.func5 rfl rfl dt ?_;have S:=Sat.start w0;refine sR fun _ J=>pa (.bool false) (en J (sR fun _ U=>pm u0 (pe (i_ (a0.length:Int)) (au rfl ha0) (pe (.bool (decide (1048576 < (a0.length:Int)))) (bN rfl rfl) (pa (.bool (decide (1048576 < (a0.length:Int)))) (en U (ak (aL rfl rfl ?_))))))));exact rB F S
theorem oT {w0:World} {u0:Value} {a0:List Int} (ha0:(aD u8R 5).rd w0 [u0] a0) {N:Nat} {r:Int × Int} (F:jP N a0=some r): Calls Tryz.prog 24 #[u0] w0 fun e w'=>∃ (q0:Nat),e=.returned (pt q0 0)∧Sat w0 w' [Box q0 88 [u0,i_ r.1,i_ r.2]] := by
 unfold jP at F;refine aN Tryz.func24 rfl rfl dt ?_;have S:=Sat.start w0;refine sR fun _ DB=>pa (.pointer none) (en DB (sR fun _ DC=>pm u0 (pe (i_ (a0.length:Int)) (au rfl ha0) (oB F fun Dk Dt F=>pe (i_ Dk) (aE rfl rfl Dt) (pa (i_ Dk) (en DC (sg fun _ Dp=>sR fun _ DD=>pa (i_ 0) (en DD (bg fun _ Dq=>?_)))))))));obtain ⟨DE,hL,Do⟩:=ob F;refine aI (fun k e w=>∃ (J:Int),∃ (U:Int),e 0=u0∧e 3=i_ J∧e 4=i_ U∧Sat w0 w []∧gz N k a0 J U=some DE) N ?_ ?_ ?_
 ·exact ⟨Dk,0,rfl,rfl,rfl,S,hL⟩
 ·rintro e w ⟨_,_,_,_,_,_,hz⟩; exact nn hz
 rintro k DO DP ⟨J,U,Z,Df,De,S,F⟩;refine gn fun _ Dl=>sg fun _ Dm=>sR fun _ Dr=>pM (i_ U) De (pM u0 Z (pe (i_ (a0.length:Int)) (au rfl ha0) (pe (.bool (decide (U < (a0.length:Int)))) (aS rfl rfl) (pm (.bool (decide (U < (a0.length:Int)))) (oF F (fun Y F=>?_) fun Y F=>?_)))))
 ·refine ei Y (pM (i_ U) De (ei Y (pe (.bool (decide (U < 4000))) (aS rfl rfl) (pe (.bool (decide (U < 4000))) (aA rfl Y rfl) (en Dr (oF F (fun Dg F=>?_) fun Dg F=>?_))))))
  ·refine ct Dg (sn Dm (sg fun _ DF=>bg fun _ DG=>ah (pM (i_ J) Df (oB F fun DH Du F=>pe (i_ DH) (rV rfl rfl Du) (pM u0 Z (pM (i_ U) De (oB F fun Ds Dv F=>?_)))))));refine aB (wA:=w0) rfl ha0 rfl dt rfl Dv dt ?_;intro DQ DL DR Dw Dx;obtain rfl:=Dw;refine pe (.int .u8 Ds) (ae rfl ((aj S.below Dx) 0 _ rfl)) (pe (i_ (IntKind.i64.wrap Ds)) (ut Tryz.underlying5 Tryz.underlying3 rfl) (oB F fun DI Dy F=>pe (i_ DI) (aE rfl rfl Dy) (oB F fun Dh Dz F=>pe (i_ Dh) (aE rfl rfl Dz) (pe (i_ (f8 Dh 1073741823)) (uT rfl rfl) (pa (i_ (f8 Dh 1073741823)) (ag (bn DG (tn DF (ah (pM (i_ U) De (oB F fun Dn DA F=>pe (i_ Dn) (aE rfl rfl DA) (pa (i_ Dn) (en Dl ?_)))))))))))));replace S:=S.keep 0;exact ⟨(f8 Dh 1073741823),Dn,Z,rfl,rfl,S,F⟩
  refine cf Dg (aH (tx Dm (tx Dl ?_)));replace F:=exB F Do;refine bS Dq (tn Dp (sR fun _ DJ=>pM u0 Z (pM (i_ J) Df (pe (.agg #[u0,i_ 0,i_ J]) (bo [(0,[u0]),(2,[i_ J])] [u0,i_ 0,i_ J] (cS (aV rfl (oc ha0)) (cS rfl rfl)) rfl) ?_))));refine bA [u0,i_ 0,i_ J] rfl S dt ?_;intro DS Di S DM;refine pa (pt Di 0) (en DJ (ak (aL rfl rfl ?_)));have hr:=oI F;exact ⟨Di,cR hr fun r=>.pointer (some ⟨Di,0,none⟩),sP hr (fun r=>[Box Di 88 [u0,i_ r.1,i_ r.2]]) (S.keep 1)⟩
 refine eo Y (eo Y (pe (.bool false) (aC rfl Y rfl) (en Dr (cf rfl (aH (tx Dm (tx Dl ?_)))))));replace F:=exB F Do;refine bS Dq (tn Dp (sR fun _ DK=>pM u0 Z (pM (i_ J) Df (pe (.agg #[u0,i_ 0,i_ J]) (bo [(0,[u0]),(2,[i_ J])] [u0,i_ 0,i_ J] (cS (aV rfl (oc ha0)) (cS rfl rfl)) rfl) ?_))));refine bA [u0,i_ 0,i_ J] rfl S dt ?_;intro DT Dj S DN;refine pa (pt Dj 0) (en DK (ak (aL rfl rfl ?_)));have hr:=oI F;exact ⟨Dj,cR hr fun r=>.pointer (some ⟨Dj,0,none⟩),sP hr (fun r=>[Box Dj 88 [u0,i_ r.1,i_ r.2]]) (S.keep 1)⟩
theorem iL {w0:World} {Z:World} {G0:List Asn} {b0:Nat} {u0:Value} {a0:List Int} {a1:Int} {a2:Int} (ha0:(aD u8R 5).rd Z [u0] a0) (S:Sat Z w0 (Box b0 88 [u0,i_ a1,i_ a2] :: G0)) {N:Nat} {r:Int × Int × Int} (F:gg N a0 a1 a2=some r): Calls Tryz.prog 63 #[.pointer (some ⟨b0,0,none⟩)] w0 fun e w'=>e=.returned (i_ r.1)∧Sat Z w' (Box b0 88 [u0,i_ r.2.1,i_ r.2.2] :: G0) := by
 unfold gg at F;refine aN Tryz.func63 rfl rfl dt ?_;refine sR fun _ Dp=>pa (i_ 0) (en Dp (sR fun _ Dq=>pm (pt b0 0) (pm (pt b0 0) (pe (pt b0 0) (da rfl) (pe (pt b0 (0 + 2)) (ac rfl) (pe (i_ a2) (ae rfl ((S.boxAt 0 rfl) 2 _ rfl)) (pe (i_ (IntKind.i64.wrap (a2 * 6364136223846793005))) (A1 rfl rfl) (pe (i_ (IntKind.i64.wrap ((IntKind.i64.wrap (a2 * 6364136223846793005)) + 1442695040888963407))) (sI rfl rfl) (pe (pt b0 0) (da rfl) (pe (pt b0 (0 + 2)) (ac rfl) ?_))))))))));refine ap (S.top 0 rfl) rfl [i_ (IntKind.i64.wrap ((IntKind.i64.wrap (a2 * 6364136223846793005)) + 1442695040888963407))] rfl rfl dt (all_cons rfl rfl) ?_;intro Dr S;replace S:Sat Z Dr (Box b0 88 [u0,i_ a1,i_ (IntKind.i64.wrap ((IntKind.i64.wrap (a2 * 6364136223846793005)) + 1442695040888963407))] :: G0):=S;refine en Dq (sg fun _ Ds=>?_);refine bv (by kernel_rfl) (by kernel_rfl) ?_;refine qm (pt b0 0) (qe (pt b0 0) (da rfl) (qe (pt b0 (0 + 2)) (ac rfl) (qe (i_ (IntKind.i64.wrap ((IntKind.i64.wrap (a2 * 6364136223846793005)) + 1442695040888963407))) (ae rfl ((S.boxAt 0 rfl) 2 _ rfl)) (oB F fun J Dh F=>qe (i_ J) (yZ rfl rfl Dh) (qm (pt b0 0) (qe (pt b0 0) (da rfl) (qe (pt b0 (0 + 2)) (ac rfl) (qe (i_ (IntKind.i64.wrap ((IntKind.i64.wrap (a2 * 6364136223846793005)) + 1442695040888963407))) (ae rfl ((S.boxAt 0 rfl) 2 _ rfl)) (oB F fun U Di F=>qe (i_ U) (yZ rfl rfl Di) (qe (i_ (jC J U)) (CH rfl rfl) (qe (i_ (f8 (jC J U) 255)) (uT rfl rfl) (qe (i_ (f8 (jC J U) 255)) (b5 rfl) (aZ ?_)))))))))))));intro Dz Dj;replace S:=S.ext Dj;refine tn Ds (sg fun _ Df=>sg fun _ Dt=>?_);refine bv (by kernel_rfl) (by kernel_rfl) ?_;refine qm (pt b0 0) (qe (pt b0 0) (da rfl) (qe (pt b0 (0 + 1)) (ac rfl) (qe (i_ a1) (ae rfl ((S.boxAt 0 rfl) 1 _ rfl)) (qm (pt b0 0) (qe (pt b0 0) (da rfl) (qe (pt b0 (0 + 0)) (ac rfl) (qe u0 (ae rfl ((S.boxAt 0 rfl) 0 _ rfl)) (qe (i_ (a0.length:Int)) (au rfl ha0) (qe (.bool (decide (a1 < (a0.length:Int)))) (aS rfl rfl) (aZ ?_))))))))));intro Du Dk;replace S:=S.ext Dk;refine tn Dt (oF F (fun De F=>?_) fun De F=>?_)
 ·refine ct De (sg fun _ Dv=>?_);refine bv (by kernel_rfl) (by kernel_rfl) ?_;refine qm (i_ (f8 (jC J U) 255)) (qm (pt b0 0) (qe (pt b0 0) (da rfl) (qe (pt b0 (0 + 0)) (ac rfl) (qe u0 (ae rfl ((S.boxAt 0 rfl) 0 _ rfl)) (qm (pt b0 0) (qe (pt b0 0) (da rfl) (qe (pt b0 (0 + 1)) (ac rfl) (qe (i_ a1) (ae rfl ((S.boxAt 0 rfl) 1 _ rfl)) (oB F fun Y Dl F=>?_)))))))));refine aR (wA:=Z) rfl ha0 rfl dt rfl Dl dt ?_;intro DA Dy DB Dm Dn;obtain rfl:=Dm;refine qe (.int .u8 Y) (ae rfl ((aj S.below Dn) 0 _ rfl)) (qe (i_ (IntKind.i64.wrap Y)) (ut Tryz.underlying5 Tryz.underlying3 rfl) (qe (i_ (IntKind.i64.wrap ((f8 (jC J U) 255) + (IntKind.i64.wrap Y)))) (sI rfl rfl) (qe (i_ (f8 (IntKind.i64.wrap ((f8 (jC J U) 255) + (IntKind.i64.wrap Y))) 255)) (uT rfl rfl) (qe (i_ (f8 (IntKind.i64.wrap ((f8 (jC J U) 255) + (IntKind.i64.wrap Y))) 255)) (b5 rfl) (aZ ?_)))));intro DC Do;replace S:=S.ext Do;refine tn Dv (ah (pm (pt b0 0) (pm (pt b0 0) (pe (pt b0 0) (da rfl) (pe (pt b0 (0 + 1)) (ac rfl) (pe (i_ a1) (ae rfl ((S.boxAt 0 rfl) 1 _ rfl)) (pe (i_ (IntKind.i64.wrap (a1 + 1))) (sI rfl rfl) (pe (pt b0 0) (da rfl) (pe (pt b0 (0 + 1)) (ac rfl) ?_)))))))));refine ap (S.top 0 rfl) rfl [i_ (IntKind.i64.wrap (a1 + 1))] rfl rfl dt (all_cons rfl rfl) ?_;intro Dg S;replace S:Sat Z Dg (Box b0 88 [u0,i_ (IntKind.i64.wrap (a1 + 1)),i_ (IntKind.i64.wrap ((IntKind.i64.wrap (a2 * 6364136223846793005)) + 1442695040888963407))] :: G0):=S;refine en Df (sR fun _ Dw=>pm (i_ (f8 (IntKind.i64.wrap ((f8 (jC J U) 255) + (IntKind.i64.wrap Y))) 255)) (pa (i_ (f8 (IntKind.i64.wrap ((f8 (jC J U) 255) + (IntKind.i64.wrap Y))) 255)) (en Dw (ak (aL rfl rfl ?_)))));have hr:=oI F;exact ⟨(cR hr fun r=>i_ r.1 :),Eq.mp (congrArg (fun (r:Int × Int × Int)=>Sat Z Dg (Box b0 88 [u0,i_ r.2.1,i_ r.2.2] :: G0)) hr :) S⟩
 refine cf De (sn Df (sR fun _ Dx=>pm (i_ (f8 (jC J U) 255)) (pa (i_ (f8 (jC J U) 255)) (en Dx (ak (aL rfl rfl ?_))))));have hr:=oI F;exact ⟨(cR hr fun r=>i_ r.1 :),Eq.mp (congrArg (fun (r:Int × Int × Int)=>Sat Z Du (Box b0 88 [u0,i_ r.2.1,i_ r.2.2] :: G0)) hr :) S⟩
theorem bf {w0:World} {J:World} {G0:List Asn} {b0:Nat} {u0:Value} {a0:List Int} {a1:Int} {a2:Int} {a3:Int} (ha0:(aD u8R 5).rd J [u0] a0) (S:Sat J w0 (Box b0 88 [u0,i_ a1,i_ a2] :: G0)) {N:Nat} {r:Int × Int × Int} (F:bu N a0 a1 a2 a3=some r): Calls Tryz.prog 27 #[.pointer (some ⟨b0,0,none⟩),i_ a3] w0 fun e w'=>e=.returned (i_ r.1)∧Sat J w' (Box b0 88 [u0,i_ r.2.1,i_ r.2.2] :: G0) := by
 unfold bu at F;refine aN Tryz.func27 rfl rfl dt ?_;refine sR fun _ DB=>pa (i_ 0) (en DB (sg fun _ Dh=>sR fun _ DC=>pm (i_ a3) (pe (.bool (decide (a3 ≤ 0))) (lO rfl rfl) (en DC (oF F (fun U F=>?_) fun U F=>?_)))))
 ·refine ct U (sR fun _ DD=>pa (i_ 0) (en DD (ak (tr Dh (aL rfl rfl ?_)))));have hr:=oI F;exact ⟨(cR hr fun r=>i_ r.1 :),Eq.mp (congrArg (fun (r:Int × Int × Int)=>Sat J w0 (Box b0 88 [u0,i_ r.2.1,i_ r.2.2] :: G0)) hr :) S⟩
 refine cf U (sn Dh (sg fun _ Di=>sR fun _ DE=>pm (i_ a3) (pe (.bool (decide (a3 ≤ 256))) (lO rfl rfl) (en DE (oF F (fun Y F=>?_) fun Y F=>?_)))))
 ·refine ct Y (sR fun _ DF=>pm (pt b0 0) (oB F fun Dj Do F=>?_));refine aQ o5 (iL ha0 S Do) (ca (ai rfl rfl)) dt ?_;rintro _ Dk ⟨rfl,S⟩;refine ⟨_,rfl,?_⟩;replace S:Sat J Dk (Box b0 88 [u0,i_ Dj.2.1,i_ Dj.2.2] :: G0):=S;refine pm (i_ a3) (oB F fun Dl Dp F=>pe (i_ Dl) (pc rfl rfl Dp) (pa (i_ Dl) (en DF (ak (tr Di (aL rfl rfl ?_))))));have hr:=oI F;exact ⟨(cR hr fun r=>i_ r.1 :),Eq.mp (congrArg (fun (r:Int × Int × Int)=>Sat J Dk (Box b0 88 [u0,i_ r.2.1,i_ r.2.2] :: G0)) hr :) S⟩
 refine cf Y (sn Di (sR fun _ DG=>pm (pt b0 0) (oB F fun Z Dq F=>?_)));refine aQ o5 (iL ha0 S Dq) (ca (ai rfl rfl)) dt ?_;rintro _ DH ⟨rfl,S⟩;refine ⟨_,rfl,?_⟩;replace S:Sat J DH (Box b0 88 [u0,i_ Z.2.1,i_ Z.2.2] :: G0):=S;refine pa (i_ Z.1) (en DG (sR fun _ DI=>pm (pt b0 0) (oB F fun De Dr F=>?_)));refine aQ o5 (iL ha0 S Dr) (ca (ai rfl rfl)) dt ?_;rintro _ DJ ⟨rfl,S⟩;refine ⟨_,rfl,?_⟩;replace S:Sat J DJ (Box b0 88 [u0,i_ De.2.1,i_ De.2.2] :: G0):=S;refine pa (i_ De.1) (en DI (sR fun _ DK=>pm (pt b0 0) (oB F fun Df Ds F=>?_)));refine aQ o5 (iL ha0 S Ds) (ca (ai rfl rfl)) dt ?_;rintro _ DL ⟨rfl,S⟩;refine ⟨_,rfl,?_⟩;replace S:Sat J DL (Box b0 88 [u0,i_ Df.2.1,i_ Df.2.2] :: G0):=S;refine pa (i_ Df.1) (en DK (sR fun _ DM=>pm (pt b0 0) (oB F fun Dg Dt F=>?_)));refine aQ o5 (iL ha0 S Dt) (ca (ai rfl rfl)) dt ?_;rintro _ Dm ⟨rfl,S⟩;refine ⟨_,rfl,?_⟩;replace S:Sat J Dm (Box b0 88 [u0,i_ Dg.2.1,i_ Dg.2.2] :: G0):=S;refine pa (i_ Dg.1) (en DM (sR fun _ DN=>pm (i_ Z.1) (oB F fun DO Du F=>pe (i_ DO) (rV rfl rfl Du) (pm (i_ De.1) (oB F fun DP Dv F=>pe (i_ DP) (rV rfl rfl Dv) (oB F fun DQ Dw F=>pe (i_ DQ) (aE rfl rfl Dw) (pm (i_ Df.1) (oB F fun DR Dx F=>pe (i_ DR) (rV rfl rfl Dx) (oB F fun DS Dy F=>pe (i_ DS) (aE rfl rfl Dy) (pm (i_ Dg.1) (oB F fun DT Dz F=>pe (i_ DT) (aE rfl rfl Dz) (pm (i_ a3) (oB F fun Dn DA F=>pe (i_ Dn) (pc rfl rfl DA) (pa (i_ Dn) (en DN (ak (aL rfl rfl ?_)))))))))))))))));have hr:=oI F;exact ⟨(cR hr fun r=>i_ r.1 :),Eq.mp (congrArg (fun (r:Int × Int × Int)=>Sat J Dm (Box b0 88 [u0,i_ r.2.1,i_ r.2.2] :: G0)) hr :) S⟩
theorem rN {w0:World} {u0:Value} {a0:List Int} {u1:Value} {a1:List T2_} (ha0:R0_.rd w0 [u0] a0) (ha1:R7_.rd w0 [u1] a1) {N:Nat} {r:T7_} (F:jy N a0 a1=some r): Calls Tryz.prog 59 #[.agg #[u0,u1]] w0 fun e w'=>∃ (q0:Value) (q1:Value),e=.returned (.agg #[q0,q1])∧Sat w0 w' [Own R0_ [q0] r.1,Own R7_ [q1] r.2] := by
 unfold jy at F;refine aN Tryz.func59 rfl rfl dt ?_;have S:=Sat.start w0;refine sR fun _ Ei=>?_;refine bA [u0,u1] rfl S dt ?_;intro EG Dg S EB;refine aW S dt ?_;intro EH Dl S EC;refine en Ei (sR fun _ Ej=>?_);refine aJ bH S dt ?_;intro EI EJ S ED;refine pe (pt Dg (0 + 0)) (ac rfl) (pe u0 (ae rfl ((S.boxAt 2 rfl) 0 _ rfl)) (oB F fun Dn DX F=>?_));obtain ⟨EE,EK,DY,DZ,DM⟩:=ci (S.up ha0);replace S:=S.ints (xs:=a0);refine az rfl dt rfl dt S rfl (rfl.trans DY) rfl DZ DM DX dt ?_;intro EM J S;refine pe (.agg #[J,n_]) (bo [(0,[J])] [J,n_] (cS (aV rfl (oc (S.rdAt (R:=R0_) 0 rfl))) rfl) rfl) ?_;refine aW S dt ?_;intro EN Df S EF;refine ap (S.top 0 rfl) rfl [J,n_] rfl rfl dt (all_cons (oc (S.rdAt (R:=R0_) 1 rfl)) (all_cons rfl rfl)) ?_;intro Ek S;replace S:Sat w0 Ek [Box Df 27 [J,n_],Own R0_ [J] Dn,Box Dl 27 [n_,n_],Box Dg 27 [u0,u1]]:=S;refine en Ej (sg fun _ El=>sR fun _ Em=>pa (i_ 0) (en Em (bg fun _ En=>?_)));replace S:=S.nil R4_ 70;obtain ⟨Eo,hL,D0⟩:=ob F;refine aI (fun k e w=>∃ (De:Value),∃ (DA:List T2_),∃ (Dm:Int),e 1=pt Dg 0∧e 2=pt Dl 0∧e 3=pt Df 0∧e 4=i_ Dm∧Sat w0 w [Own R7_ [De] DA,Box Df 27 [J,De],Own R0_ [J] Dn,Box Dl 27 [n_,n_],Box Dg 27 [u0,u1]]∧gq N k a0 a1 [] [] Dn DA Dm=some Eo) N ?_ ?_ ?_
 ·exact ⟨n_,[],0,rfl,rfl,rfl,rfl,S,hL⟩
 ·rintro e w ⟨_,_,_,_,_,_,_,_,hz⟩; exact nn hz
 rintro k EO EP ⟨De,DA,Dm,Do,Dq,Dh,Dp,S,F⟩;refine gn fun _ DN=>sg fun _ DO=>sR fun _ Ep=>pM (i_ Dm) Dp (pe (pt Dg (0 + 1)) (ac Do) (pe u1 (ae rfl ((S.boxAt 4 rfl) 1 _ rfl)) (pe (i_ (a1.length:Int)) (au rfl ha1) (pe (.bool (decide (Dm < (a1.length:Int)))) (aS rfl rfl) (en Ep (oF F (fun DB F=>?_) fun DB F=>?_))))))
 ·refine ct DB (sn DO (sg fun _ Er=>bg fun _ Es=>oB F fun DF D1 F=>oB F fun DG D2 F=>oB F fun EQ DC F=>oB F fun ER DD F=>oB F fun Dx DE F=>?_));refine kT (fun e w=>∃ (U:Value),e 1=pt Dg 0∧e 2=pt Dl 0∧e 3=pt Df 0∧e 4=i_ Dm∧Sat w0 w [Box Df 27 [J,U],Box Dl 27 [n_,n_],Box Dg 27 [u0,u1],Own R0_ [J] Dn,Own R7_ [U] Dx]) ?_ ?_
  ·obtain ⟨C,hCd⟩:∃ C:World → Prop,∀ w,C w ↔ ∃ G,Sat w0 w ([Box Df 27 [J,De],Box Dg 27 [u0,u1]] ++ G):=⟨_,fun _=>Iff.rfl⟩;refine bF [0,1,2,3,4,5,6,7,8,9,10,11,12,13,14,15,16,17,18,19,20,21] C (by kernel_rfl) ?_;intro ES D3;replace S:=S.ext D3;replace S:=S.t4.t2;have hC:=(hCd _).2 ⟨_,S⟩;refine aP (pt Df (0 + 1)) 0 rfl rfl hC (av rfl (fun w' hw'=>by obtain ⟨_,S⟩:=(hCd _).1 hw'; exact (ac Dh))) ?_;refine aP De 1 rfl rfl hC (av rfl (fun w' hw'=>by obtain ⟨_,S⟩:=(hCd _).1 hw'; exact (ae rfl ((S.boxAt 0 rfl) 1 _ rfl)))) ?_;refine aP (pt Dg (0 + 1)) 3 rfl rfl hC (av rfl (fun w' hw'=>by obtain ⟨_,S⟩:=(hCd _).1 hw'; exact (ac Do))) ?_;refine aP u1 4 rfl rfl hC (av rfl (fun w' hw'=>by obtain ⟨_,S⟩:=(hCd _).1 hw'; exact (ae rfl ((S.boxAt 1 rfl) 1 _ rfl)))) ?_;refine aP (i_ Dm) 5 rfl rfl hC (av rfl (fun w' hw'=>by obtain ⟨_,S⟩:=(hCd _).1 hw'; exact (aK Dp))) ?_;refine ep (wA:=w0) (by kernel_rfl) 6 rfl hC (by kernel_rfl) (by kernel_rfl) rfl ha1 rfl dt rfl D1 dt ?_;intro Et D4 ET D5 D6;obtain ⟨_,_,rfl,Dv,D7⟩:=D5;obtain ⟨Eu,rfl⟩:=aq Dv;obtain ⟨EU,rfl⟩:=aq D7;refine aP (pt Et (D4 + 0)) 7 rfl rfl hC (av rfl (fun w' hw'=>by obtain ⟨_,S⟩:=(hCd _).1 hw'; exact (ac rfl))) ?_;refine aP Eu 8 rfl rfl hC (av rfl (fun w' hw'=>by obtain ⟨_,S⟩:=(hCd _).1 hw'; exact (ae rfl ((aj S.below D6) 0 _ rfl)))) ?_;refine aP (pt Dg (0 + 1)) 11 rfl rfl hC (av rfl (fun w' hw'=>by obtain ⟨_,S⟩:=(hCd _).1 hw'; exact (ac Do))) ?_;refine aP u1 12 rfl rfl hC (av rfl (fun w' hw'=>by obtain ⟨_,S⟩:=(hCd _).1 hw'; exact (ae rfl ((S.boxAt 1 rfl) 1 _ rfl)))) ?_;refine aP (i_ Dm) 13 rfl rfl hC (av rfl (fun w' hw'=>by obtain ⟨_,S⟩:=(hCd _).1 hw'; exact (aK Dp))) ?_;refine ep (wA:=w0) (by kernel_rfl) 14 rfl hC (by kernel_rfl) (by kernel_rfl) rfl ha1 rfl dt rfl D2 dt ?_;intro Ev D8 EV D9 Ea;obtain ⟨_,_,rfl,Eb,Dw⟩:=D9;obtain ⟨EW,rfl⟩:=aq Eb;obtain ⟨Ew,rfl⟩:=aq Dw;refine aP (pt Ev (D8 + 1)) 15 rfl rfl hC (av rfl (fun w' hw'=>by obtain ⟨_,S⟩:=(hCd _).1 hw'; exact (ac rfl))) ?_;refine aP Ew 16 rfl rfl hC (av rfl (fun w' hw'=>by obtain ⟨_,S⟩:=(hCd _).1 hw'; exact (ae rfl ((aj S.below Ea) 1 _ rfl)))) ?_;refine f6 2 10 (by kernel_rfl) rfl rfl ?_ ?_
   ·refine aJ bH S dt ?_;intro Ex Ey S Ec;refine ag ?_;replace S:=S.t2.t2;have hC:=(hCd _).2 ⟨_,S⟩;refine ⟨fun _=>hC,?_⟩;refine f6 9 10 (by kernel_rfl) rfl rfl ?_ ?_
    ·obtain ⟨DI,DP,Dr,Ds,Di⟩:=ci (S.up Dv);replace S:=S.t2;replace S:=S.ints (xs:=DF.1);refine az rfl dt rfl dt S rfl (rfl.trans Dr) rfl Ds Di DC dt ?_;intro DQ Y S;refine ag ?_;replace S:=S.t2.t2;have hC:=(hCd _).2 ⟨_,S⟩;refine ⟨fun _=>hC,?_⟩;refine aO 10 rfl ?_;refine aJ bH S dt ?_;intro DR DS S DJ;refine ag ?_;replace S:=S.t2.t2;have hC:=(hCd _).2 ⟨_,S⟩;refine ⟨fun _=>hC,?_⟩;refine aO 17 rfl ?_;obtain ⟨DK,DT,Dt,Du,Dj⟩:=ci (S.up Dw);replace S:=S.t2;replace S:=S.ints (xs:=DG.2);refine az rfl dt rfl dt S rfl (rfl.trans Dt) rfl Du Dj DD dt ?_;intro DU Z S;refine ag ?_;replace S:=S.t2.t2;have hC:=(hCd _).2 ⟨_,S⟩;refine ⟨fun _=>hC,?_⟩;refine aO 18 rfl ?_;refine pe (.agg #[Y,Z]) (bo [(0,[Y]),(1,[Z])] [Y,Z] (cS (aV rfl (oc (S.rdAt (R:=R0_) 3 rfl))) (cS (aV rfl (oc (S.rdAt (R:=R0_) 2 rfl))) rfl)) rfl) (ag ?_);refine ⟨fun _=>hC,?_⟩;refine aO 19 rfl ?_;refine aw [Y,Z] rfl (by rfl) dt rfl dt S dt ?_;intro DV Dy S DL;refine ag ?_;replace S:=S.t2.t2;have hC:=(hCd _).2 ⟨_,S⟩;refine ⟨fun _=>hC,?_⟩;refine aO 20 rfl ?_;have Dk:=S.boxRow 2 rfl;replace S:=S.t5;replace S:=S.t4;replace S:=S.t5;replace S:=S.pair;replace S:=S.one;refine az rfl dt rfl dt S rfl rfl rfl (by simp) Dk DE dt ?_;intro DW U S;refine ag ?_;replace S:=S.t2.t2;have hC:=(hCd _).2 ⟨_,S⟩;refine ⟨fun _=>hC,?_⟩;refine aO 21 rfl ?_;refine pe (pt Df (0 + 1)) (ac Dh) (ag ?_);refine ⟨fun _=>hC,?_⟩;refine aO 22 rfl ?_;refine ap (S.top 0 rfl) rfl [U] (aV rfl (oc (S.rdAt (R:=R7_) 2 rfl))) rfl dt (all_cons (oc (S.rdAt (R:=R7_) 2 rfl)) rfl) ?_;intro Dz S;replace S:Sat w0 Dz [Box Df 27 [J,U],Box Dg 27 [u0,u1],Own R7_ [U] Dx,Box Dy 70 [Y,Z],Own R0_ [J] Dn,Box Dl 27 [n_,n_]]:=S;refine ag ?_;refine ⟨fun h=>(nomatch (show false=true from h)),?_⟩;refine bq (by kernel_rfl) ?_;replace S:=S.t2.t4.t3.t5.t4;replace S:=S.r5;exact ⟨rfl,U,Do,Dq,Dh,Dp,S⟩
    refine aJ bH S dt ?_;intro DR DS S DJ;refine ag ?_;replace S:=S.t2.t2;have hC:=(hCd _).2 ⟨_,S⟩;refine ⟨fun _=>hC,?_⟩;refine aO 9 rfl ?_;obtain ⟨DI,DP,Dr,Ds,Di⟩:=ci (S.up Dv);replace S:=S.t3;replace S:=S.ints (xs:=DF.1);refine az rfl dt rfl dt S rfl (rfl.trans Dr) rfl Ds Di DC dt ?_;intro DQ Y S;refine ag ?_;replace S:=S.t2.t2;have hC:=(hCd _).2 ⟨_,S⟩;refine ⟨fun _=>hC,?_⟩;refine aO 17 rfl ?_;obtain ⟨DK,DT,Dt,Du,Dj⟩:=ci (S.up Dw);replace S:=S.t3;replace S:=S.ints (xs:=DG.2);refine az rfl dt rfl dt S rfl (rfl.trans Dt) rfl Du Dj DD dt ?_;intro DU Z S;refine ag ?_;replace S:=S.t2.t2;have hC:=(hCd _).2 ⟨_,S⟩;refine ⟨fun _=>hC,?_⟩;refine aO 18 rfl ?_;refine pe (.agg #[Y,Z]) (bo [(0,[Y]),(1,[Z])] [Y,Z] (cS (aV rfl (oc (S.rdAt (R:=R0_) 3 rfl))) (cS (aV rfl (oc (S.rdAt (R:=R0_) 2 rfl))) rfl)) rfl) (ag ?_);refine ⟨fun _=>hC,?_⟩;refine aO 19 rfl ?_;refine aw [Y,Z] rfl (by rfl) dt rfl dt S dt ?_;intro DV Dy S DL;refine ag ?_;replace S:=S.t2.t2;have hC:=(hCd _).2 ⟨_,S⟩;refine ⟨fun _=>hC,?_⟩;refine aO 20 rfl ?_;have Dk:=S.boxRow 2 rfl;replace S:=S.t5;replace S:=S.t4;replace S:=S.t5;replace S:=S.pair;replace S:=S.one;refine az rfl dt rfl dt S rfl rfl rfl (by simp) Dk DE dt ?_;intro DW U S;refine ag ?_;replace S:=S.t2.t2;have hC:=(hCd _).2 ⟨_,S⟩;refine ⟨fun _=>hC,?_⟩;refine aO 21 rfl ?_;refine pe (pt Df (0 + 1)) (ac Dh) (ag ?_);refine ⟨fun _=>hC,?_⟩;refine aO 22 rfl ?_;refine ap (S.top 0 rfl) rfl [U] (aV rfl (oc (S.rdAt (R:=R7_) 2 rfl))) rfl dt (all_cons (oc (S.rdAt (R:=R7_) 2 rfl)) rfl) ?_;intro Dz S;replace S:Sat w0 Dz [Box Df 27 [J,U],Box Dg 27 [u0,u1],Own R7_ [U] Dx,Box Dy 70 [Y,Z],Own R0_ [J] Dn,Box Dl 27 [n_,n_]]:=S;refine ag ?_;refine ⟨fun h=>(nomatch (show false=true from h)),?_⟩;refine bq (by kernel_rfl) ?_;replace S:=S.t2.t4.t3.t5.t4;replace S:=S.r5;exact ⟨rfl,U,Do,Dq,Dh,Dp,S⟩
   refine aJ bH S dt ?_;intro DR DS S DJ;refine ag ?_;replace S:=S.t2.t2;have hC:=(hCd _).2 ⟨_,S⟩;refine ⟨fun _=>hC,?_⟩;refine aO 2 rfl ?_;refine aJ bH S dt ?_;intro Ex Ey S Ec;refine ag ?_;replace S:=S.t2.t2;have hC:=(hCd _).2 ⟨_,S⟩;refine ⟨fun _=>hC,?_⟩;refine aO 9 rfl ?_;obtain ⟨DI,DP,Dr,Ds,Di⟩:=ci (S.up Dv);replace S:=S.t2;replace S:=S.ints (xs:=DF.1);refine az rfl dt rfl dt S rfl (rfl.trans Dr) rfl Ds Di DC dt ?_;intro DQ Y S;refine ag ?_;replace S:=S.t2.t2;have hC:=(hCd _).2 ⟨_,S⟩;refine ⟨fun _=>hC,?_⟩;refine aO 17 rfl ?_;obtain ⟨DK,DT,Dt,Du,Dj⟩:=ci (S.up Dw);replace S:=S.t3;replace S:=S.ints (xs:=DG.2);refine az rfl dt rfl dt S rfl (rfl.trans Dt) rfl Du Dj DD dt ?_;intro DU Z S;refine ag ?_;replace S:=S.t2.t2;have hC:=(hCd _).2 ⟨_,S⟩;refine ⟨fun _=>hC,?_⟩;refine aO 18 rfl ?_;refine pe (.agg #[Y,Z]) (bo [(0,[Y]),(1,[Z])] [Y,Z] (cS (aV rfl (oc (S.rdAt (R:=R0_) 3 rfl))) (cS (aV rfl (oc (S.rdAt (R:=R0_) 2 rfl))) rfl)) rfl) (ag ?_);refine ⟨fun _=>hC,?_⟩;refine aO 19 rfl ?_;refine aw [Y,Z] rfl (by rfl) dt rfl dt S dt ?_;intro DV Dy S DL;refine ag ?_;replace S:=S.t2.t2;have hC:=(hCd _).2 ⟨_,S⟩;refine ⟨fun _=>hC,?_⟩;refine aO 20 rfl ?_;have Dk:=S.boxRow 2 rfl;replace S:=S.t5;replace S:=S.t4;replace S:=S.t5;replace S:=S.pair;replace S:=S.one;refine az rfl dt rfl dt S rfl rfl rfl (by simp) Dk DE dt ?_;intro DW U S;refine ag ?_;replace S:=S.t2.t2;have hC:=(hCd _).2 ⟨_,S⟩;refine ⟨fun _=>hC,?_⟩;refine aO 21 rfl ?_;refine pe (pt Df (0 + 1)) (ac Dh) (ag ?_);refine ⟨fun _=>hC,?_⟩;refine aO 22 rfl ?_;refine ap (S.top 0 rfl) rfl [U] (aV rfl (oc (S.rdAt (R:=R7_) 2 rfl))) rfl dt (all_cons (oc (S.rdAt (R:=R7_) 2 rfl)) rfl) ?_;intro Dz S;replace S:Sat w0 Dz [Box Df 27 [J,U],Box Dg 27 [u0,u1],Own R7_ [U] Dx,Box Dy 70 [Y,Z],Own R0_ [J] Dn,Box Dl 27 [n_,n_]]:=S;refine ag ?_;refine ⟨fun h=>(nomatch (show false=true from h)),?_⟩;refine bq (by kernel_rfl) ?_;replace S:=S.t2.t4.t3.t5.t4;replace S:=S.r5;exact ⟨rfl,U,Do,Dq,Dh,Dp,S⟩
  rintro EX EY ⟨U,Ed,Ee,Ef,Eg,S⟩;refine bn Es (tn Er (ah (pM (i_ Dm) Eg (oB F fun DH Eh F=>pe (i_ DH) (aE rfl rfl Eh) (pa (i_ DH) (en DN ?_))))));replace S:=S.t2.t2.t3.t3.t4;replace S:=S.keep 5;exact ⟨U,Dx,DH,Ed,Ee,Ef,rfl,S,F⟩
 refine cf DB (aH (tx DO (tx DN ?_)));replace F:=exB F D0;refine bS En (tn El (sg fun _ Ez=>?_));replace S:=S.r4;refine ah (pe (.agg #[J,De]) (ax (cs:=[J,De]) Dh rfl (ay (S.boxAt 1 rfl))) ?_);refine ap (S.top 3 rfl) Dq [J,De] rfl rfl dt (all_cons (oc (S.rdAt (R:=R0_) 2 rfl)) (all_cons (oc (S.rdAt (R:=R7_) 0 rfl)) rfl)) ?_;intro EA S;replace S:Sat w0 EA [Box Dl 27 [J,De],Own R7_ [De] DA,Box Df 27 [J,De],Own R0_ [J] Dn]:=S;refine en Ez (ak ?_);refine dl (cs:=[J,De]) rfl Dq rfl (ay (S.boxAt 0 rfl))  ?_;replace S:=S.t1.t3;have hr:=oI F;exact ⟨J,De,cR hr fun r=>.agg #[J,De],sP hr (fun r=>[Own R0_ [J] r.1,Own R7_ [De] r.2]) (S.keep 2)⟩
theorem dE {w0:World} {a0:Int} {a1:Int} {a2:Int}  {N:Nat} {r:Bool} (F:dK N a0 a1 a2=some r): Calls Tryz.prog 52 #[i_ a0,i_ a1,i_ a2] w0 fun e w'=>e=.returned (.bool r)∧Ext w0 w' := by
 unfold dK at F;refine aN Tryz.func52 rfl rfl dt ?_;have S:=Sat.start w0;refine sR fun _ Y=>pa (.bool false) (en Y (sR fun _ U=>pm (i_ a0) (pm (i_ a1) (pe (.bool (decide (a1 ≤ a0))) (iu rfl rfl) (pm (.bool (decide (a1 ≤ a0))) (oF F (fun J F=>?_) fun J F=>?_))))))
 ·refine ei J (pm (i_ a0) (ei J (pm (i_ a2) (ei J (pe (.bool (decide (a0 ≤ a2))) (lO rfl rfl) (pe (.bool (decide (a0 ≤ a2))) (aA rfl J rfl) (pa (.bool (decide (a0 ≤ a2))) (en U (ak (aL rfl rfl ?_))))))))));exact rB F S
 refine eo J (eo J (eo J (pe (.bool false) (aC rfl J rfl) (pa (.bool false) (en U (ak (aL rfl rfl ?_)))))));exact rB F S
theorem iA {w0:World} {u0:Value} {a0:List Int} (ha0:R0_.rd w0 [u0] a0) {N:Nat} {r:Bool} (F:d5 N a0=some r): Calls Tryz.prog 70 #[u0] w0 fun e w'=>e=.returned (.bool r)∧Ext w0 w' := by
 unfold d5 at F;refine aN Tryz.func70 rfl rfl dt ?_;have S:=Sat.start w0;refine sR fun _ Ds=>pa (.bool false) (en Ds (sg fun _ Di=>sR fun _ Dt=>pa (i_ 0) (en Dt (bg fun _ Dj=>?_))));obtain ⟨Du,hL,Dh⟩:=ob F;refine aI (fun k e w=>∃ (J:Int),e 0=u0∧e 3=i_ J∧Sat w0 w []∧cW N k a0 J=some Du) N ?_ ?_ ?_
 ·exact ⟨0,rfl,rfl,S,hL⟩
 ·rintro e w ⟨_,_,_,_,hz⟩; exact nn hz
 rintro k DD DE ⟨J,U,Y,S,F⟩;refine gn fun _ Df=>sg fun _ Dk=>sR fun _ Dv=>pM (i_ J) Y (pM u0 U (pe (i_ (a0.length:Int)) (au rfl ha0) (pe (.bool (decide (J < (a0.length:Int)))) (aS rfl rfl) (en Dv (oF F (fun Z F=>?_) fun Z F=>?_)))))
 ·refine ct Z (sn Dk (sg fun _ Dl=>bg fun _ Dm=>sR fun _ Dw=>pM u0 U (pM (i_ J) Y (oB F fun Dx Dn F=>?_))));refine aB (wA:=w0) rfl ha0 rfl dt rfl Dn dt ?_;intro DF DB DG Do Dp;obtain rfl:=Do;refine pe (i_ Dx) (ae rfl ((aj S.below Dp) 0 _ rfl)) (oB F fun Dy Dq F=>?_);refine ec0 iT (dE Dq) (ca (ai rfl (ai rfl (ai rfl rfl)))) S fun DH DC S=>?_;refine pe (.bool (!Dy)) (bm rfl) (en Dw (oF F (fun De F=>?_) fun De F=>?_))
  ·refine cf (am De) (aY (bn Dm (tn Dl (ah (pM (i_ J) Y (oB F fun Dg Dr F=>pe (i_ Dg) (aE rfl rfl Dr) (pa (i_ Dg) (en Df ?_))))))));replace S:=S.keep 0;exact ⟨Dg,U,rfl,S,F⟩
  refine ct (an De) (sR fun _ Dz=>pa (.bool false) (en Dz (ak (br Dm (tr Dl (tr Df (br Dj (tr Di ?_))))))));replace F:=exL F Dh;refine aL rfl rfl ?_;exact rB F S
 refine cf Z (aH (tx Dk (tx Df ?_)));replace F:=exA F Dh;refine bS Dj (tn Di (sR fun _ DA=>pa (.bool true) (en DA (ak (aL rfl rfl ?_)))));exact rB F S
theorem nQ {w0:World} {a0:Int} {u1:Value} {a1:List T0_} (ha1:R2_.rd w0 [u1] a1) {N:Nat} {r:Int × List T0_} (F:jj N a0 a1=some r): Calls Tryz.prog 80 #[.agg #[i_ a0,u1]] w0 fun e w'=>∃ (q0:Value),e=.returned (.agg #[i_ r.1,q0])∧Sat w0 w' [Own R2_ [q0] r.2] := by
 unfold jj at F;refine aN Tryz.func80 rfl rfl dt ?_;have S:=Sat.start w0;refine sR fun _ DD=>?_;refine bA [i_ a0,u1] rfl S dt ?_;intro D0 U S DT;refine aW S dt ?_;intro D1 Df S DU;refine en DD (sR fun _ DE=>pe (pt U (0 + 0)) (ac rfl) (pe (i_ a0) (ae rfl ((S.boxAt 1 rfl) 0 _ rfl)) (pe (.agg #[i_ a0,n_]) (bo [(0,[i_ a0])] [i_ a0,n_] (cS rfl rfl) rfl) ?_)));refine aW S dt ?_;intro D2 Y S DV;refine ap (S.top 0 rfl) rfl [i_ a0,n_] rfl rfl dt (all_cons rfl (all_cons rfl rfl)) ?_;intro DF S;replace S:Sat w0 DF [Box Y 38 [i_ a0,n_],Box Df 38 [i_ 0,n_],Box U 38 [i_ a0,u1]]:=S;refine en DE (sg fun _ DG=>sR fun _ DH=>pa (i_ 0) (en DH (bg fun _ DI=>?_)));replace S:=S.nil R0_ 24;obtain ⟨DJ,hL,Du⟩:=ob F;refine aI (fun k e w=>∃ (J:Value),∃ (Dg:List T0_),∃ (Z:Int),e 1=pt U 0∧e 2=pt Df 0∧e 3=pt Y 0∧e 4=i_ Z∧Sat w0 w [Own R2_ [J] Dg,Box Y 38 [i_ a0,J],Box Df 38 [i_ 0,n_],Box U 38 [i_ a0,u1]]∧eC N k a0 a1 0 [] a0 Dg Z=some DJ) N ?_ ?_ ?_
 ·exact ⟨n_,[],0,rfl,rfl,rfl,rfl,S,hL⟩
 ·rintro e w ⟨_,_,_,_,_,_,_,_,hz⟩; exact nn hz
 rintro k D3 D4 ⟨J,Dg,Z,Dh,Di,De,Dj,S,F⟩;refine gn fun _ Dq=>sg fun _ Dr=>sR fun _ DK=>pM (i_ Z) Dj (pe (pt U (0 + 1)) (ac Dh) (pe u1 (ae rfl ((S.boxAt 3 rfl) 1 _ rfl)) (pe (i_ (a1.length:Int)) (au rfl ha1) (pe (.bool (decide (Z < (a1.length:Int)))) (aS rfl rfl) (en DK (oF F (fun Dk F=>?_) fun Dk F=>?_))))))
 ·refine ct Dk (sn Dr (sg fun _ DL=>bg fun _ DM=>?_));obtain ⟨C,hCd⟩:∃ C:World → Prop,∀ w,C w ↔ ∃ G,Sat w0 w ([Box Y 38 [i_ a0,J],Box U 38 [i_ a0,u1]] ++ G):=⟨_,fun _=>Iff.rfl⟩;refine bF [0,1,2,3,4,5,6,7,8,9,10,11] C (by kernel_rfl) ?_;intro D5 Dv;replace S:=S.ext Dv;replace S:=S.t3.t2;have hC:=(hCd _).2 ⟨_,S⟩;refine aP (pt Y (0 + 1)) 0 rfl rfl hC (av rfl (fun w' hw'=>by obtain ⟨_,S⟩:=(hCd _).1 hw'; exact (ac De))) ?_;refine aP J 1 rfl rfl hC (av rfl (fun w' hw'=>by obtain ⟨_,S⟩:=(hCd _).1 hw'; exact (ae rfl ((S.boxAt 0 rfl) 1 _ rfl)))) ?_;refine aP (pt U (0 + 1)) 3 rfl rfl hC (av rfl (fun w' hw'=>by obtain ⟨_,S⟩:=(hCd _).1 hw'; exact (ac Dh))) ?_;refine aP u1 4 rfl rfl hC (av rfl (fun w' hw'=>by obtain ⟨_,S⟩:=(hCd _).1 hw'; exact (ae rfl ((S.boxAt 1 rfl) 1 _ rfl)))) ?_;refine aP (i_ Z) 5 rfl rfl hC (av rfl (fun w' hw'=>by obtain ⟨_,S⟩:=(hCd _).1 hw'; exact (aK Dj))) ?_;refine oB F fun DN Dw F=>?_;refine ep (wA:=w0) (by kernel_rfl) 6 rfl hC (by kernel_rfl) (by kernel_rfl) rfl ha1 rfl dt rfl Dw dt ?_;intro D6 DW D7 Dn Dx;obtain ⟨DO,rfl⟩:=aq Dn;refine aP DO 7 rfl rfl hC (av rfl (fun w' hw'=>by obtain ⟨_,S⟩:=(hCd _).1 hw'; exact (ae rfl ((aj S.below Dx) 0 _ rfl)))) ?_;refine aO 2 rfl ?_;refine aJ bH S dt ?_;intro D8 D9 S DX;refine ag ?_;replace S:=S.t2.t2;have hC:=(hCd _).2 ⟨_,S⟩;refine ⟨fun _=>hC,?_⟩;refine aO 8 rfl ?_;refine oB F fun Ea Dy F=>?_;obtain ⟨DY,Eb,Dz,DA,Do⟩:=ci (S.up Dn);replace S:=S.t2;replace S:=S.ints (xs:=DN);refine az rfl dt rfl dt S rfl (rfl.trans Dz) rfl DA Do Dy dt ?_;intro Ec Ds S;refine ag ?_;replace S:=S.t2.t2;have hC:=(hCd _).2 ⟨_,S⟩;refine ⟨fun _=>hC,?_⟩;refine aO 9 rfl ?_;refine aw [Ds] (aV rfl (oc (S.rdAt (R:=R0_) 2 rfl))) (by rfl) dt rfl dt S dt ?_;intro Ed DP S DZ;refine ag ?_;replace S:=S.t2.t2;have hC:=(hCd _).2 ⟨_,S⟩;refine ⟨fun _=>hC,?_⟩;refine aO 10 rfl ?_;refine oB F fun Dt DB F=>?_;have Dp:=S.boxRow 2 rfl;replace S:=S.t4;replace S:=S.t4;replace S:=S.one;refine az rfl dt rfl dt S rfl rfl rfl (by simp) Dp DB dt ?_;intro Ee Dl S;refine ag ?_;replace S:=S.t2.t2;have hC:=(hCd _).2 ⟨_,S⟩;refine ⟨fun _=>hC,?_⟩;refine aO 11 rfl ?_;refine pe (pt Y (0 + 1)) (ac De) (ag ?_);refine ⟨fun _=>hC,?_⟩;refine aO 12 rfl ?_;refine ap (S.top 0 rfl) rfl [Dl] (aV rfl (oc (S.rdAt (R:=R2_) 2 rfl))) rfl dt (all_cons (oc (S.rdAt (R:=R2_) 2 rfl)) rfl) ?_;intro DQ S;replace S:Sat w0 DQ [Box Y 38 [i_ a0,Dl],Box U 38 [i_ a0,u1],Own R2_ [Dl] Dt,Box DP 24 [Ds],Box Df 38 [i_ 0,n_]]:=S;refine ag ?_;refine ⟨fun h=>(nomatch (show false=true from h)),?_⟩;refine bq (by kernel_rfl) ?_;refine bn DM (tn DL ?_);replace S:=S.r3;refine ah (pM (i_ Z) Dj (oB F fun Dm DC F=>pe (i_ Dm) (aE rfl rfl DC) (pa (i_ Dm) (en Dq ?_))));replace S:=S.t1.t3.t2.t3;replace S:=S.keep 4;exact ⟨Dl,Dt,Dm,Dh,Di,De,rfl,S,F⟩
 refine cf Dk (aH (tx Dr (tx Dq ?_)));replace F:=exB F Du;refine bS DI (tn DG (sg fun _ DR=>?_));replace S:=S.r3;refine ah (pe (.agg #[i_ a0,J]) (ax (cs:=[i_ a0,J]) De rfl (ay (S.boxAt 1 rfl))) ?_);refine ap (S.top 2 rfl) Di [i_ a0,J] rfl rfl dt (all_cons rfl (all_cons (oc (S.rdAt (R:=R2_) 0 rfl)) rfl)) ?_;intro DS S;replace S:Sat w0 DS [Box Df 38 [i_ a0,J],Own R2_ [J] Dg,Box Y 38 [i_ a0,J]]:=S;refine en DR (ak ?_);refine dl (cs:=[i_ a0,J]) rfl Di rfl (ay (S.boxAt 0 rfl))  ?_;replace S:=S.t1;have hr:=oI F;exact ⟨J,cR hr fun r=>.agg #[i_ r.1,J],sP hr (fun r=>[Own R2_ [J] r.2]) (S.keep 1)⟩
theorem bl {w0:World} {u0:Value} {a0:List Int} {u1:Value} {a1:List Int} (ha0:R0_.rd w0 [u0] a0) (ha1:R0_.rd w0 [u1] a1) {N:Nat} {r:Int} (F:bj N a0 a1=some r): Calls Tryz.prog 71 #[u0,u1] w0 fun e w'=>e=.returned (i_ r)∧Ext w0 w' := by
 unfold bj at F;refine aN Tryz.func71 rfl rfl dt ?_;have S:=Sat.start w0;refine sR fun _ DT=>pa (i_ 0) (en DT (sg fun _ Dh=>sR fun _ DU=>pa (i_ 0) (en DU (bg fun _ Di=>?_))));obtain ⟨DV,hL,Df⟩:=ob F;refine aI (fun k e w=>∃ (J:Int),e 0=u0∧e 1=u1∧e 5=i_ J∧Sat w0 w []∧f7 N k a0 a1 J=some DV) N ?_ ?_ ?_
 ·exact ⟨0,rfl,rfl,rfl,S,hL⟩
 ·rintro e w ⟨_,_,_,_,_,hz⟩; exact nn hz
 rintro k Ee Ef ⟨J,Y,Z,De,S,F⟩;refine gn fun _ Dg=>sg fun _ Dq=>sR fun _ Du=>pM (i_ J) De (pM u0 Y (pe (i_ (a0.length:Int)) (au rfl ha0) (pe (.bool (decide (J < (a0.length:Int)))) (aS rfl rfl) (pm (.bool (decide (J < (a0.length:Int)))) (oF F (fun U F=>?_) fun U F=>?_)))))
 ·refine ei U (pM (i_ J) De (ei U (pM u1 Z (ei U (pe (i_ (a1.length:Int)) (au rfl ha1) (ei U (pe (.bool (decide (J < (a1.length:Int)))) (aS rfl rfl) (pe (.bool (decide (J < (a1.length:Int)))) (aA rfl U rfl) (en Du (oF F (fun Dj F=>?_) fun Dj F=>?_))))))))))
  ·refine ct Dj (sn Dq (sg fun _ Dr=>bg fun _ Ds=>sg fun _ Dv=>sg fun _ DW=>?_));refine bv (by kernel_rfl) (by kernel_rfl) ?_;refine qM u0 Y (qM (i_ J) De (oB F fun Dw DE F=>?_));refine aR (wA:=w0) rfl ha0 rfl dt rfl DE dt ?_;intro Eg Ea Eh DF DG;obtain rfl:=DF;refine qe (i_ Dw) (ae rfl ((aj S.below DG) 0 _ rfl)) (qM u1 Z (qM (i_ J) De (oB F fun Dx DH F=>?_)));refine aR (wA:=w0) rfl ha1 rfl dt rfl DH dt ?_;intro Ei Eb Ej DI DJ;obtain rfl:=DI;refine qe (i_ Dx) (ae rfl ((aj S.below DJ) 0 _ rfl)) (qe (.bool (decide (Dw < Dx))) (aS rfl rfl) (aZ ?_));intro Ek DK;replace S:=S.ext DK;refine tn DW (oF F (fun Dk F=>?_) fun Dk F=>?_)
   ·refine ct Dk (sR fun _ DX=>pa (i_ (-1)) (en DX (ak (tr Dv (br Ds (tr Dr (tr Dg (br Di (tr Dh ?_)))))))));replace F:=exL F Df;refine aL rfl rfl ?_;exact rI F S
   refine cf Dk (sn Dv (sg fun _ DY=>?_));refine bv (by kernel_rfl) (by kernel_rfl) ?_;refine qM u0 Y (qM (i_ J) De (oB F fun Dy DL F=>?_));refine aR (wA:=w0) rfl ha0 rfl dt rfl DL dt ?_;intro El Ec Em DM DN;obtain rfl:=DM;refine qe (i_ Dy) (ae rfl ((aj S.below DN) 0 _ rfl)) (qM u1 Z (qM (i_ J) De (oB F fun Dz DO F=>?_)));refine aR (wA:=w0) rfl ha1 rfl dt rfl DO dt ?_;intro En Ed Eo DP DQ;obtain rfl:=DP;refine qe (i_ Dz) (ae rfl ((aj S.below DQ) 0 _ rfl)) (qe (.bool (decide (Dz < Dy))) (bN rfl rfl) (aZ ?_));intro Ep DR;replace S:=S.ext DR;refine tn DY (oF F (fun Dl F=>?_) fun Dl F=>?_)
   ·refine ct Dl (sR fun _ DZ=>pa (i_ 1) (en DZ (ak (br Ds (tr Dr (tr Dg (br Di (tr Dh ?_))))))));replace F:=exL F Df;refine aL rfl rfl ?_;exact rI F S
   refine cf Dl (aY (bn Ds (tn Dr (ah (pM (i_ J) De (oB F fun Dt DS F=>pe (i_ Dt) (aE rfl rfl DS) (pa (i_ Dt) (en Dg ?_))))))));replace S:=S.keep 0;exact ⟨Dt,Y,Z,rfl,S,F⟩
  refine cf Dj (aH (tx Dq (tx Dg ?_)));replace F:=exA F Df;refine bS Di (tn Dh (sg fun _ DA=>sR fun _ D0=>pM u0 Y (pe (i_ (a0.length:Int)) (au rfl ha0) (pM u1 Z (pe (i_ (a1.length:Int)) (au rfl ha1) (pe (.bool (decide ((a0.length:Int) < (a1.length:Int)))) (aS rfl rfl) (en D0 (oF F (fun Dm F=>?_) fun Dm F=>?_))))))))
  ·refine ct Dm (sR fun _ D1=>pa (i_ (-1)) (en D1 (ak (tr DA (aL rfl rfl ?_)))));exact rI F S
  refine cf Dm (sn DA (sg fun _ DB=>sR fun _ D2=>pM u0 Y (pe (i_ (a0.length:Int)) (au rfl ha0) (pM u1 Z (pe (i_ (a1.length:Int)) (au rfl ha1) (pe (.bool (decide ((a1.length:Int) < (a0.length:Int)))) (bN rfl rfl) (en D2 (oF F (fun Dn F=>?_) fun Dn F=>?_))))))))
  ·refine ct Dn (sR fun _ D3=>pa (i_ 1) (en D3 (ak (tr DB (aL rfl rfl ?_)))));exact rI F S
  refine cf Dn (sn DB (sR fun _ D4=>pa (i_ 0) (en D4 (ak (aL rfl rfl ?_)))));exact rI F S
 refine eo U (eo U (eo U (eo U (pe (.bool false) (aC rfl U rfl) (en Du (cf rfl (aH (tx Dq (tx Dg ?_)))))))));replace F:=exA F Df;refine bS Di (tn Dh (sg fun _ DC=>sR fun _ D5=>pM u0 Y (pe (i_ (a0.length:Int)) (au rfl ha0) (pM u1 Z (pe (i_ (a1.length:Int)) (au rfl ha1) (pe (.bool (decide ((a0.length:Int) < (a1.length:Int)))) (aS rfl rfl) (en D5 (oF F (fun Do F=>?_) fun Do F=>?_))))))))
 ·refine ct Do (sR fun _ D6=>pa (i_ (-1)) (en D6 (ak (tr DC (aL rfl rfl ?_)))));exact rI F S
 refine cf Do (sn DC (sg fun _ DD=>sR fun _ D7=>pM u0 Y (pe (i_ (a0.length:Int)) (au rfl ha0) (pM u1 Z (pe (i_ (a1.length:Int)) (au rfl ha1) (pe (.bool (decide ((a1.length:Int) < (a0.length:Int)))) (bN rfl rfl) (en D7 (oF F (fun Dp F=>?_) fun Dp F=>?_))))))))
 ·refine ct Dp (sR fun _ D8=>pa (i_ 1) (en D8 (ak (tr DD (aL rfl rfl ?_)))));exact rI F S
 refine cf Dp (sn DD (sR fun _ D9=>pa (i_ 0) (en D9 (ak (aL rfl rfl ?_)))));exact rI F S
theorem rF (N:Nat):∀ {w0:World} {u0:Value} {a0:List T0_} (_:R2_.rd w0 [u0] a0) {r:T1_} (_:fJ N a0=some r), Calls Tryz.prog 81 #[u0] w0 fun e w'=>∃ (q0:Value),e=.returned (q0)∧Ext w0 w'∧R2_.rd w' [q0] r := by
 induction N with
 | zero=>intros; exact nomatch (show none=some _ by assumption)
 | succ N ih=>
  intro w0 u0 a0 ha0 r F;refine aN Tryz.func81 rfl rfl dt ?_;have S:=Sat.start w0;refine sR fun _ IG=>pa n_ (en IG (sg fun _ FE=>sR fun _ IH=>pm u0 (pe (i_ (a0.length:Int)) (au rfl ha0) (pe (.bool (decide ((a0.length:Int) < 2))) (aS rfl rfl) (en IH (oF F (fun Ef F=>?_) fun Ef F=>?_))))))
  ·refine ct Ef (sR fun _ II=>pm u0 (pa u0 (en II (ak (tr FE (aL rfl rfl ?_))))));have hr:=oI F;exact ⟨u0,cR hr fun r=>u0,S.below,Eq.mp (congrArg (fun (r:T1_)=>R2_.rd w0 [u0] r) hr :) (S.up ha0)⟩
  refine cf Ef (sn FE (sR fun _ IJ=>pm u0 (pe (i_ (a0.length:Int)) (au rfl ha0) (oB F fun Eg GE F=>pe (i_ Eg) (yL rfl rfl GE) (pa (i_ Eg) (en IJ (sR fun _ IK=>pm u0 (pm (i_ Eg) (oB F fun KS GF F=>?_)))))))));refine eu (wA:=w0) rfl rfl ha0 (.inr ⟨rfl,rfl⟩) (.inl (congrArg some rfl)) GF dt ?_;intro KT Fe;refine oB F fun IL GG F=>?_;refine aQ uU (ih (S.up Fe) GG) (ca (ai rfl rfl)) dt ?_;rintro _ EY ⟨FF,rfl,GH,GI⟩;refine ⟨_,rfl,?_⟩;replace S:=S.ext GH;have GJ:Ext w0 EY:=S.below;have Eh:=S.up ha0;have J8:=S.up ha0;have J9:=S.up Fe;replace S:=Sat.start EY;refine pa FF (en IK (sR fun _ IM=>pm u0 (pm (i_ Eg) (oB F fun KU GK F=>?_))));refine eu (wA:=EY) rfl rfl Eh (.inl (congrArg some rfl)) (.inr ⟨rfl,rfl⟩) GK dt ?_;intro KV Ff;refine oB F fun IN GL F=>?_;refine aQ uU (ih (S.up Ff) GL) (ca (ai rfl rfl)) dt ?_;rintro _ J ⟨FG,rfl,GM,GN⟩;refine ⟨_,rfl,?_⟩;replace S:=S.ext GM;have GO:Ext w0 J:=(S.rebase GJ).below;have Ka:=S.up Eh;have GP:=S.up GI;have Kb:=S.up Eh;have Kc:=S.up Ff;replace S:=Sat.start J;refine pa FG (en IM (sR fun _ IP=>?_));refine aJ (roR J R0_) S dt ?_;intro KW FH S Kd;refine pa FH (en IP (sg fun _ IQ=>bg fun _ IR=>?_));obtain ⟨IS,hL,GQ⟩:=ob F;refine aI (fun k e w=>∃ (Di:Value),∃ (Dl:List T0_),∃ (Dj:Value),∃ (Dm:List T0_),∃ (Y:Value),∃ (Z:List T0_),e 4=Di∧e 5=Dj∧e 6=Y∧Sat J w [Own (aD (roR J R0_) 24) [Y] Z]∧R2_.rd J [Di] Dl∧R2_.rd J [Dj] Dm∧aU (fJ N) N k Dl Dm Z=some IS) N ?_ ?_ ?_
  ·exact ⟨FF,IL,FG,IN,FH,[],rfl,rfl,rfl,S,GP,GN,hL⟩
  ·rintro e w ⟨_,_,_,_,_,_,_,_,_,_,_,_,hz⟩; exact nn hz
  rintro k KX IT ⟨Di,Dl,Dj,Dm,Y,Z,De,Df,U,S,Dg,Dh,F⟩;refine gn fun _ Dk=>sg fun _ EZ=>sR fun _ FI=>pM Di De (pe (i_ (Dl.length:Int)) (au rfl Dg) (pe (.bool (decide (0 < (Dl.length:Int)))) (bN rfl rfl) (pm (.bool (decide (0 < (Dl.length:Int)))) (oF F (fun Dz F=>?_) fun Dz F=>?_))))
  ·refine eo Dz (eo Dz (eo Dz (pe (.bool true) (aA rfl Dz rfl) (en FI (ct rfl (sn EZ (bg fun _ Dx=>sR fun _ IU=>pa (i_ 0) (en IU (sg fun _ E0=>bg fun _ E1=>sR fun _ IV=>pM Di De (pe (i_ (Dl.length:Int)) (au rfl Dg) (pe (.bool ((Dl.length:Int) == 0)) (ba rfl rfl) (pa (.bool ((Dl.length:Int) == 0)) (en IV (oF F (fun Ei F=>?_) fun Ei F=>?_))))))))))))))
   ·refine ct Ei (ah (pa (i_ 1) (ag (bn E1 (tn E0 (sR fun _ IW=>?_))))));refine aJ bH S dt ?_;intro FJ IX S Ke;refine pa IX (en IW (sg fun _ FK=>sg fun _ IY=>?_));replace S:=S.r0;refine ah (pm (i_ 1) (pe (.bool (decide (0 < (1:Int)))) (bN rfl rfl) (en IY (oF F (fun Ej F=>?_) fun Ej F=>?_))))
    ·refine ct Ej (sR fun _ IZ=>pM Dj Df (oB F fun KY GR F=>?_));refine aB (wA:=J) rfl Dh rfl dt rfl GR dt ?_;intro KZ Kf K0 DA GS;obtain ⟨DK,rfl⟩:=aq DA;refine pe DK (ae rfl ((aj S.below GS) 0 _ rfl)) (pa DK (en IZ (ah (pM Dj Df (oB F fun E2 GT F=>?_)))));refine eu (wA:=J) rfl rfl Dh (.inl (congrArg some rfl)) (.inr ⟨rfl,rfl⟩) GT dt ?_;intro Ek El;refine pa Ek (en FK (sR fun _ FL=>pM Y U (pe (i_ (Z.length:Int)) (au rfl (S.rdAt (R:=(aD (roR J R0_) 24)) 0 rfl)) (pe (.bool ((Z.length:Int) == 0)) (ba rfl rfl) (pm (.bool ((Z.length:Int) == 0)) (oF F (fun Dn F=>?_) fun Dn F=>?_))))))
     ·refine eo Dn (eo Dn (eo Dn (eo Dn (eo Dn (eo Dn (eo Dn (eo Dn (eo Dn (pe (.bool true) (aA rfl Dn rfl) (en FL (ct rfl (ah (pM Y U (pm DK ?_))))))))))))));refine aw [DK] (aV rfl (oc DA)) (by rfl) dt rfl dt S dt ?_;intro K3 K4 S Kg;refine oB F fun I0 GU F=>?_;have Fk:=S.boxRow 0 rfl;replace S:=S.t1;replace S:=S.roOne (R:=R0_) (W:=J) DA;replace S:=S.one;refine az rfl dt rfl dt S rfl rfl rfl (by simp) Fk GU dt ?_;intro K5 FM S;refine pa FM (ag (bn Dx (tn Dk ?_)));replace S:=S.keep 1;exact ⟨Di,Dl,Ek,E2,FM,I0,De,rfl,rfl,S,Dg,El,F⟩
     refine ei Dn (pM Y U (ei Dn (pM Y U (ei Dn (pe (i_ (Z.length:Int)) (au rfl (S.rdAt (R:=(aD (roR J R0_) 24)) 0 rfl)) (ei Dn (oB F fun I1 GV F=>pe (i_ I1) (bG rfl rfl GV) (ei Dn (oB F fun K6 GW F=>?_)))))))));refine aB (wA:=FJ) rfl (S.rdAt (R:=(aD (roR J R0_) 24)) 0 rfl) rfl dt rfl GW dt ?_;intro K7 Kh K8 D4 DU;replace D4:R0_.rd J _ _:=D4;obtain ⟨I2,rfl⟩:=aq D4;refine ei Dn (pe I2 (ae rfl (DU 0 _ rfl)) (ei Dn (pm DK (ei Dn (oB F fun FN GX F=>?_)))));refine ec0 fw (bl (S.up D4) (S.up DA) GX) (ca (ai rfl (ai rfl rfl))) S fun K9 GY S=>?_;have DU:=aj GY DU;refine ei Dn (pe (.bool (FN != 0)) (cV rfl rfl) (pe (.bool (FN != 0)) (aC rfl Dn rfl) (en FL (oF F (fun Em F=>?_) fun Em F=>?_))))
     ·refine ct Em (ah (pM Y U (pm DK ?_)));refine aw [DK] (aV rfl (oc DA)) (by rfl) dt rfl dt S dt ?_;intro La Lb S GZ;have DU:=aj GZ DU;refine oB F fun I3 G1 F=>?_;have Fl:=S.boxRow 0 rfl;replace S:=S.t1;replace S:=S.roOne (R:=R0_) (W:=J) DA;replace S:=S.one;refine az rfl dt rfl dt S rfl rfl rfl (by simp) Fl G1 dt ?_;intro Lc FO S;refine pa FO (ag (bn Dx (tn Dk ?_)));replace S:=S.keep 1;exact ⟨Di,Dl,Ek,E2,FO,I3,De,rfl,rfl,S,Dg,El,F⟩
     refine cf Em (aY (bn Dx (tn Dk ?_)));replace S:=S.keep 1;exact ⟨Di,Dl,Ek,E2,Y,Z,De,rfl,U,S,Dg,El,F⟩
    refine cf Ej (sR fun _ I4=>pM Di De (oB F fun Ld G2 F=>?_));refine aB (wA:=J) rfl Dg rfl dt rfl G2 dt ?_;intro Le Ki Lg DB G3;obtain ⟨DL,rfl⟩:=aq DB;refine pe DL (ae rfl ((aj S.below G3) 0 _ rfl)) (pa DL (en I4 (ah (pM Di De (oB F fun E5 G4 F=>?_)))));refine eu (wA:=J) rfl rfl Dg (.inl (congrArg some rfl)) (.inr ⟨rfl,rfl⟩) G4 dt ?_;intro En Eo;refine pa En (en FK (sR fun _ FP=>pM Y U (pe (i_ (Z.length:Int)) (au rfl (S.rdAt (R:=(aD (roR J R0_) 24)) 0 rfl)) (pe (.bool ((Z.length:Int) == 0)) (ba rfl rfl) (pm (.bool ((Z.length:Int) == 0)) (oF F (fun Do F=>?_) fun Do F=>?_))))))
    ·refine eo Do (eo Do (eo Do (eo Do (eo Do (eo Do (eo Do (eo Do (eo Do (pe (.bool true) (aA rfl Do rfl) (en FP (ct rfl (ah (pM Y U (pm DL ?_))))))))))))));refine aw [DL] (aV rfl (oc DB)) (by rfl) dt rfl dt S dt ?_;intro Lh Li S Kj;refine oB F fun I5 G5 F=>?_;have Fm:=S.boxRow 0 rfl;replace S:=S.t1;replace S:=S.roOne (R:=R0_) (W:=J) DB;replace S:=S.one;refine az rfl dt rfl dt S rfl rfl rfl (by simp) Fm G5 dt ?_;intro Lj FQ S;refine pa FQ (ag (bn Dx (tn Dk ?_)));replace S:=S.keep 1;exact ⟨En,E5,Dj,Dm,FQ,I5,rfl,Df,rfl,S,Eo,Dh,F⟩
    refine ei Do (pM Y U (ei Do (pM Y U (ei Do (pe (i_ (Z.length:Int)) (au rfl (S.rdAt (R:=(aD (roR J R0_) 24)) 0 rfl)) (ei Do (oB F fun I6 G6 F=>pe (i_ I6) (bG rfl rfl G6) (ei Do (oB F fun Lk G7 F=>?_)))))))));refine aB (wA:=FJ) rfl (S.rdAt (R:=(aD (roR J R0_) 24)) 0 rfl) rfl dt rfl G7 dt ?_;intro Ll Kk Lm D5 DV;replace D5:R0_.rd J _ _:=D5;obtain ⟨I7,rfl⟩:=aq D5;refine ei Do (pe I7 (ae rfl (DV 0 _ rfl)) (ei Do (pm DL (ei Do (oB F fun FR G8 F=>?_)))));refine ec0 fw (bl (S.up D5) (S.up DB) G8) (ca (ai rfl (ai rfl rfl))) S fun Ln G9 S=>?_;have DV:=aj G9 DV;refine ei Do (pe (.bool (FR != 0)) (cV rfl rfl) (pe (.bool (FR != 0)) (aC rfl Do rfl) (en FP (oF F (fun Ep F=>?_) fun Ep F=>?_))))
    ·refine ct Ep (ah (pM Y U (pm DL ?_)));refine aw [DL] (aV rfl (oc DB)) (by rfl) dt rfl dt S dt ?_;intro Lo Lp S Ha;have DV:=aj Ha DV;refine oB F fun I8 Hb F=>?_;have Fn:=S.boxRow 0 rfl;replace S:=S.t1;replace S:=S.roOne (R:=R0_) (W:=J) DB;replace S:=S.one;refine az rfl dt rfl dt S rfl rfl rfl (by simp) Fn Hb dt ?_;intro Lq FS S;refine pa FS (ag (bn Dx (tn Dk ?_)));replace S:=S.keep 1;exact ⟨En,E5,Dj,Dm,FS,I8,rfl,Df,rfl,S,Eo,Dh,F⟩
    refine cf Ep (aY (bn Dx (tn Dk ?_)));replace S:=S.keep 1;exact ⟨En,E5,Dj,Dm,Y,Z,rfl,Df,U,S,Eo,Dh,F⟩
   refine cf Ei (sR fun _ I9=>pM Dj Df (pe (i_ (Dm.length:Int)) (au rfl Dh) (pe (.bool (decide (0 < (Dm.length:Int)))) (bN rfl rfl) (pa (.bool (decide (0 < (Dm.length:Int)))) (en I9 (oF F (fun Er F=>?_) fun Er F=>?_))))))
   ·refine ct Er ?_;refine bv (by kernel_rfl) (by kernel_rfl) ?_;refine qM Di De (oB F fun Lr Hc F=>?_);refine aR (wA:=J) rfl Dg rfl dt rfl Hc dt ?_;intro Lt Kl Lu Fg Hd;obtain ⟨Ja,rfl⟩:=aq Fg;refine qe Ja (ae rfl ((aj S.below Hd) 0 _ rfl)) (qM Dj Df (oB F fun Lv He F=>?_));refine aR (wA:=J) rfl Dh rfl dt rfl He dt ?_;intro Lw Km Lx Fh Hf;obtain ⟨Jb,rfl⟩:=aq Fh;refine qe Jb (ae rfl ((aj S.below Hf) 0 _ rfl)) (oB F fun Es Hg F=>?_);refine cv (i_ Es) fw (fun w' hw'=>bl (bz (S.up Fg) hw') (bz (S.up Fh) hw') Hg) (ca (ai rfl (ai rfl rfl))) dt ?_;refine qe (i_ Es) (b5 rfl) (aZ ?_);intro Ly Hh;replace S:=S.ext Hh;refine bn E1 (tn E0 (sR fun _ Jc=>?_));refine aJ bH S dt ?_;intro FT Jd S Kn;refine pa Jd (en Jc (sg fun _ FU=>sg fun _ Je=>?_));replace S:=S.r0;refine ah (pm (i_ Es) (pe (.bool (decide (0 < Es))) (bN rfl rfl) (en Je (oF F (fun Et F=>?_) fun Et F=>?_))))
    ·refine ct Et (sR fun _ Jf=>pM Dj Df (oB F fun Lz Hi F=>?_));refine aB (wA:=J) rfl Dh rfl dt rfl Hi dt ?_;intro LA Ko LB DC Hj;obtain ⟨DM,rfl⟩:=aq DC;refine pe DM (ae rfl ((aj S.below Hj) 0 _ rfl)) (pa DM (en Jf (ah (pM Dj Df (oB F fun E6 Hk F=>?_)))));refine eu (wA:=J) rfl rfl Dh (.inl (congrArg some rfl)) (.inr ⟨rfl,rfl⟩) Hk dt ?_;intro Eu Ev;refine pa Eu (en FU (sR fun _ FV=>pM Y U (pe (i_ (Z.length:Int)) (au rfl (S.rdAt (R:=(aD (roR J R0_) 24)) 0 rfl)) (pe (.bool ((Z.length:Int) == 0)) (ba rfl rfl) (pm (.bool ((Z.length:Int) == 0)) (oF F (fun Dp F=>?_) fun Dp F=>?_))))))
     ·refine eo Dp (eo Dp (eo Dp (eo Dp (eo Dp (eo Dp (eo Dp (eo Dp (eo Dp (pe (.bool true) (aA rfl Dp rfl) (en FV (ct rfl (ah (pM Y U (pm DM ?_))))))))))))));refine aw [DM] (aV rfl (oc DC)) (by rfl) dt rfl dt S dt ?_;intro LC LD S Kp;refine oB F fun Jg Hl F=>?_;have Fo:=S.boxRow 0 rfl;replace S:=S.t1;replace S:=S.roOne (R:=R0_) (W:=J) DC;replace S:=S.one;refine az rfl dt rfl dt S rfl rfl rfl (by simp) Fo Hl dt ?_;intro LE FW S;refine pa FW (ag (bn Dx (tn Dk ?_)));replace S:=S.keep 1;exact ⟨Di,Dl,Eu,E6,FW,Jg,De,rfl,rfl,S,Dg,Ev,F⟩
     refine ei Dp (pM Y U (ei Dp (pM Y U (ei Dp (pe (i_ (Z.length:Int)) (au rfl (S.rdAt (R:=(aD (roR J R0_) 24)) 0 rfl)) (ei Dp (oB F fun Jh Hm F=>pe (i_ Jh) (bG rfl rfl Hm) (ei Dp (oB F fun LF Hn F=>?_)))))))));refine aB (wA:=FT) rfl (S.rdAt (R:=(aD (roR J R0_) 24)) 0 rfl) rfl dt rfl Hn dt ?_;intro LG Kq LH D6 DW;replace D6:R0_.rd J _ _:=D6;obtain ⟨Ji,rfl⟩:=aq D6;refine ei Dp (pe Ji (ae rfl (DW 0 _ rfl)) (ei Dp (pm DM (ei Dp (oB F fun FX Ho F=>?_)))));refine ec0 fw (bl (S.up D6) (S.up DC) Ho) (ca (ai rfl (ai rfl rfl))) S fun LI Hp S=>?_;have DW:=aj Hp DW;refine ei Dp (pe (.bool (FX != 0)) (cV rfl rfl) (pe (.bool (FX != 0)) (aC rfl Dp rfl) (en FV (oF F (fun Ew F=>?_) fun Ew F=>?_))))
     ·refine ct Ew (ah (pM Y U (pm DM ?_)));refine aw [DM] (aV rfl (oc DC)) (by rfl) dt rfl dt S dt ?_;intro LJ LK S Hq;have DW:=aj Hq DW;refine oB F fun Jj Hr F=>?_;have Fp:=S.boxRow 0 rfl;replace S:=S.t1;replace S:=S.roOne (R:=R0_) (W:=J) DC;replace S:=S.one;refine az rfl dt rfl dt S rfl rfl rfl (by simp) Fp Hr dt ?_;intro LL FY S;refine pa FY (ag (bn Dx (tn Dk ?_)));replace S:=S.keep 1;exact ⟨Di,Dl,Eu,E6,FY,Jj,De,rfl,rfl,S,Dg,Ev,F⟩
     refine cf Ew (aY (bn Dx (tn Dk ?_)));replace S:=S.keep 1;exact ⟨Di,Dl,Eu,E6,Y,Z,De,rfl,U,S,Dg,Ev,F⟩
    refine cf Et (sR fun _ Jk=>pM Di De (oB F fun LM Hs F=>?_));refine aB (wA:=J) rfl Dg rfl dt rfl Hs dt ?_;intro LN Kr LO DD Ht;obtain ⟨DN,rfl⟩:=aq DD;refine pe DN (ae rfl ((aj S.below Ht) 0 _ rfl)) (pa DN (en Jk (ah (pM Di De (oB F fun E7 Hu F=>?_)))));refine eu (wA:=J) rfl rfl Dg (.inl (congrArg some rfl)) (.inr ⟨rfl,rfl⟩) Hu dt ?_;intro Ex Ey;refine pa Ex (en FU (sR fun _ FZ=>pM Y U (pe (i_ (Z.length:Int)) (au rfl (S.rdAt (R:=(aD (roR J R0_) 24)) 0 rfl)) (pe (.bool ((Z.length:Int) == 0)) (ba rfl rfl) (pm (.bool ((Z.length:Int) == 0)) (oF F (fun Dq F=>?_) fun Dq F=>?_))))))
    ·refine eo Dq (eo Dq (eo Dq (eo Dq (eo Dq (eo Dq (eo Dq (eo Dq (eo Dq (pe (.bool true) (aA rfl Dq rfl) (en FZ (ct rfl (ah (pM Y U (pm DN ?_))))))))))))));refine aw [DN] (aV rfl (oc DD)) (by rfl) dt rfl dt S dt ?_;intro LP LQ S Ks;refine oB F fun Jl Hv F=>?_;have Fq:=S.boxRow 0 rfl;replace S:=S.t1;replace S:=S.roOne (R:=R0_) (W:=J) DD;replace S:=S.one;refine az rfl dt rfl dt S rfl rfl rfl (by simp) Fq Hv dt ?_;intro LR F0 S;refine pa F0 (ag (bn Dx (tn Dk ?_)));replace S:=S.keep 1;exact ⟨Ex,E7,Dj,Dm,F0,Jl,rfl,Df,rfl,S,Ey,Dh,F⟩
    refine ei Dq (pM Y U (ei Dq (pM Y U (ei Dq (pe (i_ (Z.length:Int)) (au rfl (S.rdAt (R:=(aD (roR J R0_) 24)) 0 rfl)) (ei Dq (oB F fun Jm Hw F=>pe (i_ Jm) (bG rfl rfl Hw) (ei Dq (oB F fun LS Hx F=>?_)))))))));refine aB (wA:=FT) rfl (S.rdAt (R:=(aD (roR J R0_) 24)) 0 rfl) rfl dt rfl Hx dt ?_;intro LT Kt LU D7 DX;replace D7:R0_.rd J _ _:=D7;obtain ⟨Jn,rfl⟩:=aq D7;refine ei Dq (pe Jn (ae rfl (DX 0 _ rfl)) (ei Dq (pm DN (ei Dq (oB F fun F5 Hy F=>?_)))));refine ec0 fw (bl (S.up D7) (S.up DD) Hy) (ca (ai rfl (ai rfl rfl))) S fun LV Hz S=>?_;have DX:=aj Hz DX;refine ei Dq (pe (.bool (F5 != 0)) (cV rfl rfl) (pe (.bool (F5 != 0)) (aC rfl Dq rfl) (en FZ (oF F (fun Ez F=>?_) fun Ez F=>?_))))
    ·refine ct Ez (ah (pM Y U (pm DN ?_)));refine aw [DN] (aV rfl (oc DD)) (by rfl) dt rfl dt S dt ?_;intro LW LX S HA;have DX:=aj HA DX;refine oB F fun Jo HB F=>?_;have Fr:=S.boxRow 0 rfl;replace S:=S.t1;replace S:=S.roOne (R:=R0_) (W:=J) DD;replace S:=S.one;refine az rfl dt rfl dt S rfl rfl rfl (by simp) Fr HB dt ?_;intro LY F6 S;refine pa F6 (ag (bn Dx (tn Dk ?_)));replace S:=S.keep 1;exact ⟨Ex,E7,Dj,Dm,F6,Jo,rfl,Df,rfl,S,Ey,Dh,F⟩
    refine cf Ez (aY (bn Dx (tn Dk ?_)));replace S:=S.keep 1;exact ⟨Ex,E7,Dj,Dm,Y,Z,rfl,Df,U,S,Ey,Dh,F⟩
   refine cf Er (ah (pa (i_ (-1)) (ag (bn E1 (tn E0 (sR fun _ Jp=>?_))))));refine aJ bH S dt ?_;intro F7 Jq S Ku;refine pa Jq (en Jp (sg fun _ F8=>sg fun _ Jr=>?_));replace S:=S.r0;refine ah (pm (i_ (-1)) (pe (.bool (decide (0 < ((-1):Int)))) (bN rfl rfl) (en Jr (oF F (fun EA F=>?_) fun EA F=>?_))))
   ·refine ct EA (sR fun _ Js=>pM Dj Df (oB F fun LZ HC F=>?_));refine aB (wA:=J) rfl Dh rfl dt rfl HC dt ?_;intro L0 Kv L1 DE HD;obtain ⟨DO,rfl⟩:=aq DE;refine pe DO (ae rfl ((aj S.below HD) 0 _ rfl)) (pa DO (en Js (ah (pM Dj Df (oB F fun E8 HE F=>?_)))));refine eu (wA:=J) rfl rfl Dh (.inl (congrArg some rfl)) (.inr ⟨rfl,rfl⟩) HE dt ?_;intro EB EC;refine pa EB (en F8 (sR fun _ F9=>pM Y U (pe (i_ (Z.length:Int)) (au rfl (S.rdAt (R:=(aD (roR J R0_) 24)) 0 rfl)) (pe (.bool ((Z.length:Int) == 0)) (ba rfl rfl) (pm (.bool ((Z.length:Int) == 0)) (oF F (fun Dr F=>?_) fun Dr F=>?_))))))
    ·refine eo Dr (eo Dr (eo Dr (eo Dr (eo Dr (eo Dr (eo Dr (eo Dr (eo Dr (pe (.bool true) (aA rfl Dr rfl) (en F9 (ct rfl (ah (pM Y U (pm DO ?_))))))))))))));refine aw [DO] (aV rfl (oc DE)) (by rfl) dt rfl dt S dt ?_;intro L2 L3 S Kw;refine oB F fun Jt HF F=>?_;have Fs:=S.boxRow 0 rfl;replace S:=S.t1;replace S:=S.roOne (R:=R0_) (W:=J) DE;replace S:=S.one;refine az rfl dt rfl dt S rfl rfl rfl (by simp) Fs HF dt ?_;intro L4 Ga S;refine pa Ga (ag (bn Dx (tn Dk ?_)));replace S:=S.keep 1;exact ⟨Di,Dl,EB,E8,Ga,Jt,De,rfl,rfl,S,Dg,EC,F⟩
    refine ei Dr (pM Y U (ei Dr (pM Y U (ei Dr (pe (i_ (Z.length:Int)) (au rfl (S.rdAt (R:=(aD (roR J R0_) 24)) 0 rfl)) (ei Dr (oB F fun Ju HG F=>pe (i_ Ju) (bG rfl rfl HG) (ei Dr (oB F fun L5 HH F=>?_)))))))));refine aB (wA:=F7) rfl (S.rdAt (R:=(aD (roR J R0_) 24)) 0 rfl) rfl dt rfl HH dt ?_;intro L6 Kx L7 D8 DY;replace D8:R0_.rd J _ _:=D8;obtain ⟨Jv,rfl⟩:=aq D8;refine ei Dr (pe Jv (ae rfl (DY 0 _ rfl)) (ei Dr (pm DO (ei Dr (oB F fun Gb HI F=>?_)))));refine ec0 fw (bl (S.up D8) (S.up DE) HI) (ca (ai rfl (ai rfl rfl))) S fun L8 HJ S=>?_;have DY:=aj HJ DY;refine ei Dr (pe (.bool (Gb != 0)) (cV rfl rfl) (pe (.bool (Gb != 0)) (aC rfl Dr rfl) (en F9 (oF F (fun ED F=>?_) fun ED F=>?_))))
    ·refine ct ED (ah (pM Y U (pm DO ?_)));refine aw [DO] (aV rfl (oc DE)) (by rfl) dt rfl dt S dt ?_;intro L9 Ma S HK;have DY:=aj HK DY;refine oB F fun Jw HL F=>?_;have Ft:=S.boxRow 0 rfl;replace S:=S.t1;replace S:=S.roOne (R:=R0_) (W:=J) DE;replace S:=S.one;refine az rfl dt rfl dt S rfl rfl rfl (by simp) Ft HL dt ?_;intro Mb Gc S;refine pa Gc (ag (bn Dx (tn Dk ?_)));replace S:=S.keep 1;exact ⟨Di,Dl,EB,E8,Gc,Jw,De,rfl,rfl,S,Dg,EC,F⟩
    refine cf ED (aY (bn Dx (tn Dk ?_)));replace S:=S.keep 1;exact ⟨Di,Dl,EB,E8,Y,Z,De,rfl,U,S,Dg,EC,F⟩
   refine cf EA (sR fun _ Jx=>pM Di De (oB F fun Mc HM F=>?_));refine aB (wA:=J) rfl Dg rfl dt rfl HM dt ?_;intro Md Ky Me DF HN;obtain ⟨DP,rfl⟩:=aq DF;refine pe DP (ae rfl ((aj S.below HN) 0 _ rfl)) (pa DP (en Jx (ah (pM Di De (oB F fun E9 HO F=>?_)))));refine eu (wA:=J) rfl rfl Dg (.inl (congrArg some rfl)) (.inr ⟨rfl,rfl⟩) HO dt ?_;intro EE EF;refine pa EE (en F8 (sR fun _ Gd=>pM Y U (pe (i_ (Z.length:Int)) (au rfl (S.rdAt (R:=(aD (roR J R0_) 24)) 0 rfl)) (pe (.bool ((Z.length:Int) == 0)) (ba rfl rfl) (pm (.bool ((Z.length:Int) == 0)) (oF F (fun Ds F=>?_) fun Ds F=>?_))))))
   ·refine eo Ds (eo Ds (eo Ds (eo Ds (eo Ds (eo Ds (eo Ds (eo Ds (eo Ds (pe (.bool true) (aA rfl Ds rfl) (en Gd (ct rfl (ah (pM Y U (pm DP ?_))))))))))))));refine aw [DP] (aV rfl (oc DF)) (by rfl) dt rfl dt S dt ?_;intro Mf Mg S Kz;refine oB F fun Jy HP F=>?_;have Fu:=S.boxRow 0 rfl;replace S:=S.t1;replace S:=S.roOne (R:=R0_) (W:=J) DF;replace S:=S.one;refine az rfl dt rfl dt S rfl rfl rfl (by simp) Fu HP dt ?_;intro Mh Ge S;refine pa Ge (ag (bn Dx (tn Dk ?_)));replace S:=S.keep 1;exact ⟨EE,E9,Dj,Dm,Ge,Jy,rfl,Df,rfl,S,EF,Dh,F⟩
   refine ei Ds (pM Y U (ei Ds (pM Y U (ei Ds (pe (i_ (Z.length:Int)) (au rfl (S.rdAt (R:=(aD (roR J R0_) 24)) 0 rfl)) (ei Ds (oB F fun Jz HQ F=>pe (i_ Jz) (bG rfl rfl HQ) (ei Ds (oB F fun Mi HR F=>?_)))))))));refine aB (wA:=F7) rfl (S.rdAt (R:=(aD (roR J R0_) 24)) 0 rfl) rfl dt rfl HR dt ?_;intro Mj KA Mk D9 DZ;replace D9:R0_.rd J _ _:=D9;obtain ⟨JA,rfl⟩:=aq D9;refine ei Ds (pe JA (ae rfl (DZ 0 _ rfl)) (ei Ds (pm DP (ei Ds (oB F fun Gf HS F=>?_)))));refine ec0 fw (bl (S.up D9) (S.up DF) HS) (ca (ai rfl (ai rfl rfl))) S fun Ml HT S=>?_;have DZ:=aj HT DZ;refine ei Ds (pe (.bool (Gf != 0)) (cV rfl rfl) (pe (.bool (Gf != 0)) (aC rfl Ds rfl) (en Gd (oF F (fun EG F=>?_) fun EG F=>?_))))
   ·refine ct EG (ah (pM Y U (pm DP ?_)));refine aw [DP] (aV rfl (oc DF)) (by rfl) dt rfl dt S dt ?_;intro Mm Mn S HU;have DZ:=aj HU DZ;refine oB F fun JB HV F=>?_;have Fv:=S.boxRow 0 rfl;replace S:=S.t1;replace S:=S.roOne (R:=R0_) (W:=J) DF;replace S:=S.one;refine az rfl dt rfl dt S rfl rfl rfl (by simp) Fv HV dt ?_;intro Mo Gg S;refine pa Gg (ag (bn Dx (tn Dk ?_)));replace S:=S.keep 1;exact ⟨EE,E9,Dj,Dm,Gg,JB,rfl,Df,rfl,S,EF,Dh,F⟩
   refine cf EG (aY (bn Dx (tn Dk ?_)));replace S:=S.keep 1;exact ⟨EE,E9,Dj,Dm,Y,Z,rfl,Df,U,S,EF,Dh,F⟩
  refine ei Dz (pM Dj Df (ei Dz (pe (i_ (Dm.length:Int)) (au rfl Dh) (ei Dz (pe (.bool (decide (0 < (Dm.length:Int)))) (bN rfl rfl) (pe (.bool (decide (0 < (Dm.length:Int)))) (aC rfl Dz rfl) (en FI (oF F (fun Ea F=>?_) fun Ea F=>?_))))))))
  ·refine ct Ea (sn EZ (bg fun _ Dy=>sR fun _ JC=>pa (i_ 0) (en JC (sg fun _ Gh=>bg fun _ Gi=>sR fun _ JD=>pM Di De (pe (i_ (Dl.length:Int)) (au rfl Dg) (pe (.bool ((Dl.length:Int) == 0)) (ba rfl rfl) (pa (.bool ((Dl.length:Int) == 0)) (en JD (oF F (fun EH F=>?_) fun EH F=>?_)))))))))
   ·refine ct EH (ah (pa (i_ 1) (ag (bn Gi (tn Gh (sR fun _ JE=>?_))))));refine aJ bH S dt ?_;intro Gj JF S KB;refine pa JF (en JE (sg fun _ Gk=>sg fun _ JG=>?_));replace S:=S.r0;refine ah (pm (i_ 1) (pe (.bool (decide (0 < (1:Int)))) (bN rfl rfl) (en JG (oF F (fun EI F=>?_) fun EI F=>?_))))
    ·refine ct EI (sR fun _ JH=>pM Dj Df (oB F fun Mp HW F=>?_));refine aB (wA:=J) rfl Dh rfl dt rfl HW dt ?_;intro Mq KC Mr DG HX;obtain ⟨DQ,rfl⟩:=aq DG;refine pe DQ (ae rfl ((aj S.below HX) 0 _ rfl)) (pa DQ (en JH (ah (pM Dj Df (oB F fun Fa HY F=>?_)))));refine eu (wA:=J) rfl rfl Dh (.inl (congrArg some rfl)) (.inr ⟨rfl,rfl⟩) HY dt ?_;intro EJ EK;refine pa EJ (en Gk (sR fun _ Gl=>pM Y U (pe (i_ (Z.length:Int)) (au rfl (S.rdAt (R:=(aD (roR J R0_) 24)) 0 rfl)) (pe (.bool ((Z.length:Int) == 0)) (ba rfl rfl) (pm (.bool ((Z.length:Int) == 0)) (oF F (fun Dt F=>?_) fun Dt F=>?_))))))
     ·refine eo Dt (eo Dt (eo Dt (eo Dt (eo Dt (eo Dt (eo Dt (eo Dt (eo Dt (pe (.bool true) (aA rfl Dt rfl) (en Gl (ct rfl (ah (pM Y U (pm DQ ?_))))))))))))));refine aw [DQ] (aV rfl (oc DG)) (by rfl) dt rfl dt S dt ?_;intro Ms Mu S KD;refine oB F fun JI HZ F=>?_;have Fw:=S.boxRow 0 rfl;replace S:=S.t1;replace S:=S.roOne (R:=R0_) (W:=J) DG;replace S:=S.one;refine az rfl dt rfl dt S rfl rfl rfl (by simp) Fw HZ dt ?_;intro Mv Gm S;refine pa Gm (ag (bn Dy (tn Dk ?_)));replace S:=S.keep 1;exact ⟨Di,Dl,EJ,Fa,Gm,JI,De,rfl,rfl,S,Dg,EK,F⟩
     refine ei Dt (pM Y U (ei Dt (pM Y U (ei Dt (pe (i_ (Z.length:Int)) (au rfl (S.rdAt (R:=(aD (roR J R0_) 24)) 0 rfl)) (ei Dt (oB F fun JJ H0 F=>pe (i_ JJ) (bG rfl rfl H0) (ei Dt (oB F fun Mw H1 F=>?_)))))))));refine aB (wA:=Gj) rfl (S.rdAt (R:=(aD (roR J R0_) 24)) 0 rfl) rfl dt rfl H1 dt ?_;intro Mx KE My Eb D0;replace Eb:R0_.rd J _ _:=Eb;obtain ⟨JK,rfl⟩:=aq Eb;refine ei Dt (pe JK (ae rfl (D0 0 _ rfl)) (ei Dt (pm DQ (ei Dt (oB F fun Gn H2 F=>?_)))));refine ec0 fw (bl (S.up Eb) (S.up DG) H2) (ca (ai rfl (ai rfl rfl))) S fun Mz H3 S=>?_;have D0:=aj H3 D0;refine ei Dt (pe (.bool (Gn != 0)) (cV rfl rfl) (pe (.bool (Gn != 0)) (aC rfl Dt rfl) (en Gl (oF F (fun EM F=>?_) fun EM F=>?_))))
     ·refine ct EM (ah (pM Y U (pm DQ ?_)));refine aw [DQ] (aV rfl (oc DG)) (by rfl) dt rfl dt S dt ?_;intro MA MB S H4;have D0:=aj H4 D0;refine oB F fun JL H5 F=>?_;have Fx:=S.boxRow 0 rfl;replace S:=S.t1;replace S:=S.roOne (R:=R0_) (W:=J) DG;replace S:=S.one;refine az rfl dt rfl dt S rfl rfl rfl (by simp) Fx H5 dt ?_;intro MC Gp S;refine pa Gp (ag (bn Dy (tn Dk ?_)));replace S:=S.keep 1;exact ⟨Di,Dl,EJ,Fa,Gp,JL,De,rfl,rfl,S,Dg,EK,F⟩
     refine cf EM (aY (bn Dy (tn Dk ?_)));replace S:=S.keep 1;exact ⟨Di,Dl,EJ,Fa,Y,Z,De,rfl,U,S,Dg,EK,F⟩
    refine cf EI (sR fun _ JM=>pM Di De (oB F fun MD H6 F=>?_));refine aB (wA:=J) rfl Dg rfl dt rfl H6 dt ?_;intro ME KF MF DH H7;obtain ⟨DR,rfl⟩:=aq DH;refine pe DR (ae rfl ((aj S.below H7) 0 _ rfl)) (pa DR (en JM (ah (pM Di De (oB F fun Fb H8 F=>?_)))));refine eu (wA:=J) rfl rfl Dg (.inl (congrArg some rfl)) (.inr ⟨rfl,rfl⟩) H8 dt ?_;intro EN EO;refine pa EN (en Gk (sR fun _ Gq=>pM Y U (pe (i_ (Z.length:Int)) (au rfl (S.rdAt (R:=(aD (roR J R0_) 24)) 0 rfl)) (pe (.bool ((Z.length:Int) == 0)) (ba rfl rfl) (pm (.bool ((Z.length:Int) == 0)) (oF F (fun Du F=>?_) fun Du F=>?_))))))
    ·refine eo Du (eo Du (eo Du (eo Du (eo Du (eo Du (eo Du (eo Du (eo Du (pe (.bool true) (aA rfl Du rfl) (en Gq (ct rfl (ah (pM Y U (pm DR ?_))))))))))))));refine aw [DR] (aV rfl (oc DH)) (by rfl) dt rfl dt S dt ?_;intro MG MH S KG;refine oB F fun JN H9 F=>?_;have Fy:=S.boxRow 0 rfl;replace S:=S.t1;replace S:=S.roOne (R:=R0_) (W:=J) DH;replace S:=S.one;refine az rfl dt rfl dt S rfl rfl rfl (by simp) Fy H9 dt ?_;intro MI Gr S;refine pa Gr (ag (bn Dy (tn Dk ?_)));replace S:=S.keep 1;exact ⟨EN,Fb,Dj,Dm,Gr,JN,rfl,Df,rfl,S,EO,Dh,F⟩
    refine ei Du (pM Y U (ei Du (pM Y U (ei Du (pe (i_ (Z.length:Int)) (au rfl (S.rdAt (R:=(aD (roR J R0_) 24)) 0 rfl)) (ei Du (oB F fun JO Ia F=>pe (i_ JO) (bG rfl rfl Ia) (ei Du (oB F fun MJ Ib F=>?_)))))))));refine aB (wA:=Gj) rfl (S.rdAt (R:=(aD (roR J R0_) 24)) 0 rfl) rfl dt rfl Ib dt ?_;intro MK KH ML Ec D1;replace Ec:R0_.rd J _ _:=Ec;obtain ⟨JP,rfl⟩:=aq Ec;refine ei Du (pe JP (ae rfl (D1 0 _ rfl)) (ei Du (pm DR (ei Du (oB F fun Gs Ic F=>?_)))));refine ec0 fw (bl (S.up Ec) (S.up DH) Ic) (ca (ai rfl (ai rfl rfl))) S fun MM Id S=>?_;have D1:=aj Id D1;refine ei Du (pe (.bool (Gs != 0)) (cV rfl rfl) (pe (.bool (Gs != 0)) (aC rfl Du rfl) (en Gq (oF F (fun EP F=>?_) fun EP F=>?_))))
    ·refine ct EP (ah (pM Y U (pm DR ?_)));refine aw [DR] (aV rfl (oc DH)) (by rfl) dt rfl dt S dt ?_;intro MN MO S Ie;have D1:=aj Ie D1;refine oB F fun JQ If F=>?_;have Fz:=S.boxRow 0 rfl;replace S:=S.t1;replace S:=S.roOne (R:=R0_) (W:=J) DH;replace S:=S.one;refine az rfl dt rfl dt S rfl rfl rfl (by simp) Fz If dt ?_;intro MP Gt S;refine pa Gt (ag (bn Dy (tn Dk ?_)));replace S:=S.keep 1;exact ⟨EN,Fb,Dj,Dm,Gt,JQ,rfl,Df,rfl,S,EO,Dh,F⟩
    refine cf EP (aY (bn Dy (tn Dk ?_)));replace S:=S.keep 1;exact ⟨EN,Fb,Dj,Dm,Y,Z,rfl,Df,U,S,EO,Dh,F⟩
   refine cf EH (sR fun _ JR=>pM Dj Df (pe (i_ (Dm.length:Int)) (au rfl Dh) (pe (.bool (decide (0 < (Dm.length:Int)))) (bN rfl rfl) (pa (.bool (decide (0 < (Dm.length:Int)))) (en JR (ct Ea ?_))))));refine bv (by kernel_rfl) (by kernel_rfl) ?_;refine qM Di De (oB F fun MQ Ig F=>?_);refine aR (wA:=J) rfl Dg rfl dt rfl Ig dt ?_;intro MR KI MS Fi Ih;obtain ⟨JS,rfl⟩:=aq Fi;refine qe JS (ae rfl ((aj S.below Ih) 0 _ rfl)) (qM Dj Df (oB F fun MT Ii F=>?_));refine aR (wA:=J) rfl Dh rfl dt rfl Ii dt ?_;intro MU KJ MV Fj Ij;obtain ⟨JT,rfl⟩:=aq Fj;refine qe JT (ae rfl ((aj S.below Ij) 0 _ rfl)) (oB F fun EQ Ik F=>?_);refine cv (i_ EQ) fw (fun w' hw'=>bl (bz (S.up Fi) hw') (bz (S.up Fj) hw') Ik) (ca (ai rfl (ai rfl rfl))) dt ?_;refine qe (i_ EQ) (b5 rfl) (aZ ?_);intro MW Il;replace S:=S.ext Il;refine bn Gi (tn Gh (sR fun _ JU=>?_));refine aJ bH S dt ?_;intro Gu JV S KK;refine pa JV (en JU (sg fun _ Gv=>sg fun _ JW=>?_));replace S:=S.r0;refine ah (pm (i_ EQ) (pe (.bool (decide (0 < EQ))) (bN rfl rfl) (en JW (oF F (fun ER F=>?_) fun ER F=>?_))))
   ·refine ct ER (sR fun _ JX=>pM Dj Df (oB F fun MX Im F=>?_));refine aB (wA:=J) rfl Dh rfl dt rfl Im dt ?_;intro MY KL MZ DI In;obtain ⟨DS,rfl⟩:=aq DI;refine pe DS (ae rfl ((aj S.below In) 0 _ rfl)) (pa DS (en JX (ah (pM Dj Df (oB F fun Fc Io F=>?_)))));refine eu (wA:=J) rfl rfl Dh (.inl (congrArg some rfl)) (.inr ⟨rfl,rfl⟩) Io dt ?_;intro ES ET;refine pa ES (en Gv (sR fun _ Gw=>pM Y U (pe (i_ (Z.length:Int)) (au rfl (S.rdAt (R:=(aD (roR J R0_) 24)) 0 rfl)) (pe (.bool ((Z.length:Int) == 0)) (ba rfl rfl) (pm (.bool ((Z.length:Int) == 0)) (oF F (fun Dv F=>?_) fun Dv F=>?_))))))
    ·refine eo Dv (eo Dv (eo Dv (eo Dv (eo Dv (eo Dv (eo Dv (eo Dv (eo Dv (pe (.bool true) (aA rfl Dv rfl) (en Gw (ct rfl (ah (pM Y U (pm DS ?_))))))))))))));refine aw [DS] (aV rfl (oc DI)) (by rfl) dt rfl dt S dt ?_;intro M0 M1 S KM;refine oB F fun JY Ip F=>?_;have FA:=S.boxRow 0 rfl;replace S:=S.t1;replace S:=S.roOne (R:=R0_) (W:=J) DI;replace S:=S.one;refine az rfl dt rfl dt S rfl rfl rfl (by simp) FA Ip dt ?_;intro M2 Gx S;refine pa Gx (ag (bn Dy (tn Dk ?_)));replace S:=S.keep 1;exact ⟨Di,Dl,ES,Fc,Gx,JY,De,rfl,rfl,S,Dg,ET,F⟩
    refine ei Dv (pM Y U (ei Dv (pM Y U (ei Dv (pe (i_ (Z.length:Int)) (au rfl (S.rdAt (R:=(aD (roR J R0_) 24)) 0 rfl)) (ei Dv (oB F fun JZ Iq F=>pe (i_ JZ) (bG rfl rfl Iq) (ei Dv (oB F fun M3 Ir F=>?_)))))))));refine aB (wA:=Gu) rfl (S.rdAt (R:=(aD (roR J R0_) 24)) 0 rfl) rfl dt rfl Ir dt ?_;intro M4 KN M5 Ed D2;replace Ed:R0_.rd J _ _:=Ed;obtain ⟨J0,rfl⟩:=aq Ed;refine ei Dv (pe J0 (ae rfl (D2 0 _ rfl)) (ei Dv (pm DS (ei Dv (oB F fun Gy Is F=>?_)))));refine ec0 fw (bl (S.up Ed) (S.up DI) Is) (ca (ai rfl (ai rfl rfl))) S fun M6 It S=>?_;have D2:=aj It D2;refine ei Dv (pe (.bool (Gy != 0)) (cV rfl rfl) (pe (.bool (Gy != 0)) (aC rfl Dv rfl) (en Gw (oF F (fun EU F=>?_) fun EU F=>?_))))
    ·refine ct EU (ah (pM Y U (pm DS ?_)));refine aw [DS] (aV rfl (oc DI)) (by rfl) dt rfl dt S dt ?_;intro M7 M8 S Iu;have D2:=aj Iu D2;refine oB F fun J1 Iv F=>?_;have FB:=S.boxRow 0 rfl;replace S:=S.t1;replace S:=S.roOne (R:=R0_) (W:=J) DI;replace S:=S.one;refine az rfl dt rfl dt S rfl rfl rfl (by simp) FB Iv dt ?_;intro M9 Gz S;refine pa Gz (ag (bn Dy (tn Dk ?_)));replace S:=S.keep 1;exact ⟨Di,Dl,ES,Fc,Gz,J1,De,rfl,rfl,S,Dg,ET,F⟩
    refine cf EU (aY (bn Dy (tn Dk ?_)));replace S:=S.keep 1;exact ⟨Di,Dl,ES,Fc,Y,Z,De,rfl,U,S,Dg,ET,F⟩
   refine cf ER (sR fun _ J2=>pM Di De (oB F fun Na Iw F=>?_));refine aB (wA:=J) rfl Dg rfl dt rfl Iw dt ?_;intro Nb KO Nc DJ Ix;obtain ⟨DT,rfl⟩:=aq DJ;refine pe DT (ae rfl ((aj S.below Ix) 0 _ rfl)) (pa DT (en J2 (ah (pM Di De (oB F fun Fd Iy F=>?_)))));refine eu (wA:=J) rfl rfl Dg (.inl (congrArg some rfl)) (.inr ⟨rfl,rfl⟩) Iy dt ?_;intro EV EW;refine pa EV (en Gv (sR fun _ GA=>pM Y U (pe (i_ (Z.length:Int)) (au rfl (S.rdAt (R:=(aD (roR J R0_) 24)) 0 rfl)) (pe (.bool ((Z.length:Int) == 0)) (ba rfl rfl) (pm (.bool ((Z.length:Int) == 0)) (oF F (fun Dw F=>?_) fun Dw F=>?_))))))
   ·refine eo Dw (eo Dw (eo Dw (eo Dw (eo Dw (eo Dw (eo Dw (eo Dw (eo Dw (pe (.bool true) (aA rfl Dw rfl) (en GA (ct rfl (ah (pM Y U (pm DT ?_))))))))))))));refine aw [DT] (aV rfl (oc DJ)) (by rfl) dt rfl dt S dt ?_;intro Nd Nf S KP;refine oB F fun J3 Iz F=>?_;have FC:=S.boxRow 0 rfl;replace S:=S.t1;replace S:=S.roOne (R:=R0_) (W:=J) DJ;replace S:=S.one;refine az rfl dt rfl dt S rfl rfl rfl (by simp) FC Iz dt ?_;intro Ng GB S;refine pa GB (ag (bn Dy (tn Dk ?_)));replace S:=S.keep 1;exact ⟨EV,Fd,Dj,Dm,GB,J3,rfl,Df,rfl,S,EW,Dh,F⟩
   refine ei Dw (pM Y U (ei Dw (pM Y U (ei Dw (pe (i_ (Z.length:Int)) (au rfl (S.rdAt (R:=(aD (roR J R0_) 24)) 0 rfl)) (ei Dw (oB F fun J4 IA F=>pe (i_ J4) (bG rfl rfl IA) (ei Dw (oB F fun Nh IB F=>?_)))))))));refine aB (wA:=Gu) rfl (S.rdAt (R:=(aD (roR J R0_) 24)) 0 rfl) rfl dt rfl IB dt ?_;intro Ni KR Nj Ee D3;replace Ee:R0_.rd J _ _:=Ee;obtain ⟨J5,rfl⟩:=aq Ee;refine ei Dw (pe J5 (ae rfl (D3 0 _ rfl)) (ei Dw (pm DT (ei Dw (oB F fun GC IC F=>?_)))));refine ec0 fw (bl (S.up Ee) (S.up DJ) IC) (ca (ai rfl (ai rfl rfl))) S fun Nk ID S=>?_;have D3:=aj ID D3;refine ei Dw (pe (.bool (GC != 0)) (cV rfl rfl) (pe (.bool (GC != 0)) (aC rfl Dw rfl) (en GA (oF F (fun EX F=>?_) fun EX F=>?_))))
   ·refine ct EX (ah (pM Y U (pm DT ?_)));refine aw [DT] (aV rfl (oc DJ)) (by rfl) dt rfl dt S dt ?_;intro Nl Nm S IE;have D3:=aj IE D3;refine oB F fun J6 IF F=>?_;have FD:=S.boxRow 0 rfl;replace S:=S.t1;replace S:=S.roOne (R:=R0_) (W:=J) DJ;replace S:=S.one;refine az rfl dt rfl dt S rfl rfl rfl (by simp) FD IF dt ?_;intro Nn GD S;refine pa GD (ag (bn Dy (tn Dk ?_)));replace S:=S.keep 1;exact ⟨EV,Fd,Dj,Dm,GD,J6,rfl,Df,rfl,S,EW,Dh,F⟩
   refine cf EX (aY (bn Dy (tn Dk ?_)));replace S:=S.keep 1;exact ⟨EV,Fd,Dj,Dm,Y,Z,rfl,Df,U,S,EW,Dh,F⟩
  refine cf Ea (aH (tx EZ (tx Dk ?_)));replace F:=exB F GQ;refine bS IR (tn IQ (sR fun _ J7=>pM Y U (pa Y (en J7 (ak (aL rfl rfl ?_))))));have hr:=oI F;exact ⟨Y,cR hr fun r=>Y,(S.rebase GO).below,Eq.mp (congrArg (fun (r:T1_)=>R2_.rd IT [Y] r) hr :) (CQ S.below (S.rdAt (R:=(aD (roR J R0_) 24)) 0 rfl))⟩
theorem sL {w0 : World} {u0 : Value} {a0 : List T0_} (ha0 : R2_.rd w0 [u0] a0) {N : Nat} {r : T1_} (hF : fJ N a0 = some r) :
    Calls Tryz.prog 81 #[u0] w0 fun e w' => ∃ (q0 : Value), e = .returned (q0) ∧ Ext w0 w' ∧ R2_.rd w' [q0] r := rF N ha0 hF
theorem dM {w0:World} {a0:Int} {u1:Value} {a1:List T0_} (ha1:R2_.rd w0 [u1] a1) {N:Nat} {r:Bool} (F:cn N a0 a1=some r): Calls Tryz.prog 82 #[.agg #[i_ a0,u1]] w0 fun e w'=>e=.returned (.bool r)∧Ext w0 w' := by
 unfold cn at F;refine aN Tryz.func82 rfl rfl dt ?_;have S:=Sat.start w0;refine sR fun _ DX=>?_;refine bA [i_ a0,u1] rfl S dt ?_;intro Ei Dh S Ec;refine pa (.bool false) (en DX (sg fun _ Du=>sR fun _ DC=>pe (pt Dh (0 + 0)) (ac rfl) (pe (i_ a0) (ae rfl ((S.boxAt 0 rfl) 0 _ rfl)) (oB F fun DD DF F=>?_))));refine ec0 iT (dE DF) (ca (ai rfl (ai rfl (ai rfl rfl)))) S fun Ej Ed S=>?_;refine pe (.bool (!DD)) (bm rfl) (pm (.bool (!DD)) (oF F (fun Z F=>?_) fun Z F=>?_))
 ·refine ei (am Z) (pe (pt Dh (0 + 1)) (ac rfl) (ei (am Z) (pe u1 (ae rfl ((S.boxAt 0 rfl) 1 _ rfl)) (ei (am Z) (pe (i_ (a1.length:Int)) (au rfl ha1) (ei (am Z) (pe (.bool (decide (4000 < (a1.length:Int)))) (bN rfl rfl) (pe (.bool (decide (4000 < (a1.length:Int)))) (aC rfl (am Z) rfl) (en DC (oF F (fun Dm F=>?_) fun Dm F=>?_))))))))))
  ·refine ct Dm (sg fun _ DY=>?_);replace S:=S.r0;refine ah (pa (.bool false) (en DY (ak (tr Du (aL rfl rfl ?_)))));exact rB F S
  refine cf Dm (sn Du (sg fun _ Dn=>sR fun _ DZ=>pa (i_ 0) (en DZ (bg fun _ Do=>?_))));obtain ⟨D0,hL,Dj⟩:=ob F;refine aI (fun k e w=>∃ (De:Int),e 1=pt Dh 0∧e 3=i_ De∧Sat w0 w [Box Dh 38 [i_ a0,u1]]∧cy N k a0 a1 De=some D0) N ?_ ?_ ?_
  ·exact ⟨0,rfl,rfl,S,hL⟩
  ·rintro e w ⟨_,_,_,_,hz⟩; exact nn hz
  rintro k Ek El ⟨De,Df,Dg,S,F⟩;refine gn fun _ Di=>sg fun _ DE=>sR fun _ D1=>pM (i_ De) Dg (pe (pt Dh (0 + 1)) (ac Df) (pe u1 (ae rfl ((S.boxAt 0 rfl) 1 _ rfl)) (pe (i_ (a1.length:Int)) (au rfl ha1) (pe (.bool (decide (De < (a1.length:Int)))) (aS rfl rfl) (en D1 (oF F (fun Dp F=>?_) fun Dp F=>?_))))))
  ·refine ct Dp (sn DE (sg fun _ Dk=>bg fun _ Dl=>sg fun _ Dq=>?_));refine bv (by kernel_rfl) (by kernel_rfl) ?_;refine qe (pt Dh (0 + 1)) (ac Df) (qe u1 (ae rfl ((S.boxAt 0 rfl) 1 _ rfl)) (qM (i_ De) Dg (oB F fun Dv DG F=>?_)));refine aR (wA:=w0) rfl ha1 rfl dt rfl DG dt ?_;intro Em Ee En Dy DH;obtain ⟨D2,rfl⟩:=aq Dy;refine qe D2 (ae rfl ((aj S.below DH) 0 _ rfl)) (qe (i_ (Dv.length:Int)) (au rfl Dy) (qe (pt Dh (0 + 0)) (ac Df) (qe (i_ a0) (ae rfl ((S.boxAt 0 rfl) 0 _ rfl)) (qe (.bool ((Dv.length:Int) != a0)) (cV rfl rfl) (qm (.bool ((Dv.length:Int) != a0)) (oF F (fun U F=>?_) fun U F=>?_))))))
   ·refine qo U (qo U (qo U (qo U (qo U (qo U (qo U (qe (.bool true) (aA rfl U rfl) (qm (.bool true) (qo rfl (qo rfl (qo rfl ?_)))))))))));refine bh rfl dt ?_;refine bh rfl dt ?_;refine bh rfl dt ?_;refine bh rfl dt ?_;refine bh rfl dt ?_;refine bh rfl dt ?_;refine bh rfl dt ?_;refine bh rfl dt ?_;refine bh rfl dt ?_;refine bh rfl dt ?_;refine bh rfl dt ?_;refine bh rfl dt ?_;refine bh rfl dt ?_;refine qo rfl (qe (.bool true) (aA rfl rfl rfl) (aZ ?_));intro Eo DI;replace S:=S.ext DI;refine tn Dq (ct rfl (sg fun _ D3=>?_));replace S:=S.r0;refine ah (pa (.bool false) (en D3 (ak (br Dl (tr Dk (tr Di (br Do (tr Dn ?_))))))));replace F:=exL F Dj;refine aL rfl rfl ?_;exact rB F S
   refine qi U (qe (pt Dh (0 + 1)) (ac Df) (qi U (qe u1 (ae rfl ((S.boxAt 0 rfl) 1 _ rfl)) (qi U (qM (i_ De) Dg (qi U (oB F fun Ep DJ F=>?_)))))));refine aR (wA:=w0) rfl ha1 rfl dt rfl DJ dt ?_;intro Er Ef Es Dz DK;obtain ⟨D4,rfl⟩:=aq Dz;refine qi U (qe D4 (ae rfl ((aj S.below DK) 0 _ rfl)) (qi U (oB F fun Dr DL F=>?_)));refine cv (.bool Dr) uz (fun w' hw'=>iA (bz (S.up Dz) hw') DL) (ca (ai rfl rfl)) dt ?_;refine qi U (qe (.bool (!Dr)) (bm rfl) (qe (.bool (!Dr)) (aC rfl U rfl) (qm (.bool (!Dr)) (oF F (fun Y F=>?_) fun Y F=>?_))))
   ·refine qi (am Y) (qM (i_ De) Dg (qi (am Y) (qe (.bool (decide (0 < De))) (bN rfl rfl) (qi (am Y) (qm (.bool (decide (0 < De))) (oF F (fun J F=>?_) fun J F=>?_))))))
    ·refine qi J (qe (pt Dh (0 + 1)) (ac Df) (qi J (qe u1 (ae rfl ((S.boxAt 0 rfl) 1 _ rfl)) (qi J (qM (i_ De) Dg (qi J (oB F fun D5 DM F=>qe (i_ D5) (bG rfl rfl DM) (qi J (oB F fun Et DN F=>?_)))))))));refine aR (wA:=w0) rfl ha1 rfl dt rfl DN dt ?_;intro Eu Eg Ev DA DO;obtain ⟨D6,rfl⟩:=aq DA;refine qi J (qe D6 (ae rfl ((aj S.below DO) 0 _ rfl)) (qi J (qe (pt Dh (0 + 1)) (ac Df) (qi J (qe u1 (ae rfl ((S.boxAt 0 rfl) 1 _ rfl)) (qi J (qM (i_ De) Dg (qi J (oB F fun Ew DP F=>?_)))))))));refine aR (wA:=w0) rfl ha1 rfl dt rfl DP dt ?_;intro Ex Eh Ey DB DQ;obtain ⟨D7,rfl⟩:=aq DB;refine qi J (qe D7 (ae rfl ((aj S.below DQ) 0 _ rfl)) (qi J (oB F fun Ds DR F=>?_)));refine cv (i_ Ds) fw (fun w' hw'=>bl (bz (S.up DA) hw') (bz (S.up DB) hw') DR) (ca (ai rfl (ai rfl rfl))) dt ?_;refine qi J (qe (.bool (decide (0 ≤ Ds))) (iu rfl rfl) (qi (am Y) (qe (.bool (decide (0 ≤ Ds))) (aA rfl J rfl) (qe (.bool (decide (0 ≤ Ds))) (aC rfl (am Y) rfl) (aZ ?_)))));intro Ez DS;replace S:=S.ext DS;refine tn Dq (oF F (fun Dt F=>?_) fun Dt F=>?_)
     ·refine ct Dt (sg fun _ D8=>?_);replace S:=S.r0;refine ah (pa (.bool false) (en D8 (ak (br Dl (tr Dk (tr Di (br Do (tr Dn ?_))))))));replace F:=exL F Dj;refine aL rfl rfl ?_;exact rB F S
     refine cf Dt (aY (bn Dl (tn Dk (ah (pM (i_ De) Dg (oB F fun Dw DT F=>pe (i_ Dw) (aE rfl rfl DT) (pa (i_ Dw) (en Di ?_))))))));replace S:=S.keep 1;exact ⟨Dw,Df,rfl,S,F⟩
    refine qo J (qo J (qo J (qo J (qo J (qo J (qo J (qo J (qo J (qo J (qo J (qo J (qo J (qi (am Y) (qe (.bool false) (aC rfl J rfl) (qe (.bool false) (aC rfl (am Y) rfl) (aZ ?_))))))))))))))));intro EA DU;replace S:=S.ext DU;refine tn Dq (cf rfl (aY (bn Dl (tn Dk (ah (pM (i_ De) Dg (oB F fun Dx DV F=>pe (i_ Dx) (aE rfl rfl DV) (pa (i_ Dx) (en Di ?_)))))))));replace S:=S.keep 1;exact ⟨Dx,Df,rfl,S,F⟩
   refine qo (an Y) (qo (an Y) (qo (an Y) ?_));refine bh rfl dt ?_;refine bh rfl dt ?_;refine bh rfl dt ?_;refine bh rfl dt ?_;refine bh rfl dt ?_;refine bh rfl dt ?_;refine bh rfl dt ?_;refine bh rfl dt ?_;refine bh rfl dt ?_;refine bh rfl dt ?_;refine bh rfl dt ?_;refine bh rfl dt ?_;refine bh rfl dt ?_;refine qo (an Y) (qe (.bool true) (aA rfl (an Y) rfl) (aZ ?_));intro EB DW;replace S:=S.ext DW;refine tn Dq (ct rfl (sg fun _ D9=>?_));replace S:=S.r0;refine ah (pa (.bool false) (en D9 (ak (br Dl (tr Dk (tr Di (br Do (tr Dn ?_))))))));replace F:=exL F Dj;refine aL rfl rfl ?_;exact rB F S
  refine cf Dp (aH (tx DE (tx Di ?_)));replace F:=exA F Dj;refine bS Do (tn Dn (sg fun _ Ea=>?_));replace S:=S.r0;refine ah (pa (.bool true) (en Ea (ak (aL rfl rfl ?_))));exact rB F S
 refine eo (an Z) (eo (an Z) (eo (an Z) (eo (an Z) (pe (.bool true) (aA rfl (an Z) rfl) (en DC (ct rfl (sg fun _ Eb=>?_)))))));replace S:=S.r0;refine ah (pa (.bool false) (en Eb (ak (tr Du (aL rfl rfl ?_)))));exact rB F S
theorem hH {w0:World} {a0:Int} {u1:Value} {a1:List T0_} (ha1:R2_.rd w0 [u1] a1) {N:Nat} {r:T4_ × Bool} (F:dn N a0 a1=some r): Calls Tryz.prog 47 #[i_ a0,u1] w0 fun e w'=>∃ (q0:Value),e=.returned (.tuple #[.agg #[i_ r.1.1,q0],.bool r.2])∧Sat w0 w' [Own R2_ [q0] r.1.2] := by
 unfold dn at F;refine aN Tryz.func47 rfl rfl dt ?_;have S:=Sat.start w0;refine sR fun _ DP=>?_;refine aW S dt ?_;intro Ec Dg S D7;refine pa (.bool false) (en DP (sg fun _ Dp=>sR fun _ DQ=>pa (i_ 0) (en DQ (bg fun _ Dq=>?_))));obtain ⟨DR,hL,Dj⟩:=ob F;refine aI (fun k e w=>∃ (De:Int),e 0=i_ a0∧e 1=u1∧e 4=pt Dg 0∧e 6=i_ De∧Sat w0 w [Box Dg 38 [i_ 0,n_]]∧c6 N k a0 a1 0 [] De=some DR) N ?_ ?_ ?_
 ·exact ⟨0,rfl,rfl,rfl,rfl,S,hL⟩
 ·rintro e w ⟨_,_,_,_,_,_,hz⟩; exact nn hz
 rintro k Ed Ee ⟨De,Dk,Dh,Z,Di,S,F⟩;refine gn fun _ Dl=>sg fun _ Dy=>sR fun _ DS=>pM (i_ De) Di (pM u1 Dh (pe (i_ (a1.length:Int)) (au rfl ha1) (pe (.bool (decide (De < (a1.length:Int)))) (aS rfl rfl) (en DS (oF F (fun Dm F=>?_) fun Dm F=>?_)))))
 ·refine ct Dm (sn Dy (sg fun _ Dr=>bg fun _ Ds=>sR fun _ Dz=>pM u1 Dh (pM (i_ De) Di (oB F fun Dt DD F=>?_))));refine aB (wA:=w0) rfl ha1 rfl dt rfl DD dt ?_;intro Ef D8 Eg Dw DE;obtain ⟨DT,rfl⟩:=aq Dw;refine pe DT (ae rfl ((aj S.below DE) 0 _ rfl)) (pe (i_ (Dt.length:Int)) (au rfl Dw) (pM (i_ a0) Dk (pe (.bool ((Dt.length:Int) != a0)) (cV rfl rfl) (pm (.bool ((Dt.length:Int) != a0)) (oF F (fun J F=>?_) fun J F=>?_)))))
  ·refine eo J (eo J (eo J (eo J (eo J (eo J (pe (.bool true) (aA rfl J rfl) (en Dz (ct rfl (sR fun _ DU=>pe (.agg #[i_ 0,n_]) (bo [] [i_ 0,n_] rfl rfl) ?_)))))))));refine ap (S.top 0 rfl) Z [i_ 0,n_] rfl rfl dt (all_cons rfl (all_cons rfl rfl)) ?_;intro DV S;replace S:Sat w0 DV [Box Dg 38 [i_ 0,n_]]:=S;refine pa (.bool false) (en DU (ak (br Ds (tr Dr (tr Dl (br Dq (tr Dp ?_)))))));replace F:=exL F Dj;replace S:=S.nil R0_ 24;refine eF (cs:=[i_ 0,n_]) rfl Z rfl (ay (S.boxAt 1 rfl)) rfl ?_;have hr:=oI F;exact ⟨n_,cR hr fun r=>.tuple #[.agg #[i_ r.1.1,n_],.bool r.2],sP hr (fun r=>[Own R2_ [n_] r.1.2]) (S.keep 1)⟩
  refine ei J (pM u1 Dh (ei J (pM (i_ De) Di (ei J (oB F fun Eh DF F=>?_)))));refine aB (wA:=w0) rfl ha1 rfl dt rfl DF dt ?_;intro Ei D9 Ej Dx DG;obtain ⟨DW,rfl⟩:=aq Dx;refine ei J (pe DW (ae rfl ((aj S.below DG) 0 _ rfl)) (ei J (oB F fun DA DH F=>?_)));refine ec0 uz (iA (S.up Dx) DH) (ca (ai rfl rfl)) S fun Ek Ea S=>?_;refine ei J (pe (.bool (!DA)) (bm rfl) (pe (.bool (!DA)) (aC rfl J rfl) (en Dz (oF F (fun Dn F=>?_) fun Dn F=>?_))))
  ·refine cf (am Dn) (aY (bn Ds (tn Dr (ah (pM (i_ De) Di (oB F fun Du DI F=>pe (i_ Du) (aE rfl rfl DI) (pa (i_ Du) (en Dl ?_))))))));replace S:=S.keep 1;exact ⟨Du,Dk,Dh,Z,rfl,S,F⟩
  refine ct (an Dn) (sR fun _ DX=>pe (.agg #[i_ 0,n_]) (bo [] [i_ 0,n_] rfl rfl) ?_);refine ap (S.top 0 rfl) Z [i_ 0,n_] rfl rfl dt (all_cons rfl (all_cons rfl rfl)) ?_;intro DY S;replace S:Sat w0 DY [Box Dg 38 [i_ 0,n_]]:=S;refine pa (.bool false) (en DX (ak (br Ds (tr Dr (tr Dl (br Dq (tr Dp ?_)))))));replace F:=exL F Dj;replace S:=S.nil R0_ 24;refine eF (cs:=[i_ 0,n_]) rfl Z rfl (ay (S.boxAt 1 rfl)) rfl ?_;have hr:=oI F;exact ⟨n_,cR hr fun r=>.tuple #[.agg #[i_ r.1.1,n_],.bool r.2],sP hr (fun r=>[Own R2_ [n_] r.1.2]) (S.keep 1)⟩
 refine cf Dm (aH (tx Dy (tx Dl ?_)));replace F:=exA F Dj;refine bS Dq (tn Dp (sR fun _ DZ=>pM (i_ a0) Dk (pM u1 Dh (oB F fun El DJ F=>?_))));refine aQ uU (sL (S.up ha1) DJ) (ca (ai rfl rfl)) dt ?_;rintro _ Em ⟨Dv,rfl,DK,Df⟩;refine ⟨_,rfl,?_⟩;replace S:=S.ext DK;refine pe (.agg #[i_ a0,Dv]) (bo [(0,[i_ a0]),(1,[Dv])] [i_ a0,Dv] (cS rfl (cS (aV rfl (oc Df)) rfl)) rfl) (oB F fun Y DL F=>?_);refine ec1 yn (nQ Df DL) (ca (ai rfl rfl)) S fun En U DM S=>?_;have Df:=bz Df DM;refine aW S dt ?_;intro Eo DB S DN;have Df:=bz Df DN;refine ap (S.top 0 rfl) rfl [i_ Y.1,U] rfl rfl dt (all_cons rfl (all_cons (oc (S.rdAt (R:=R2_) 1 rfl)) rfl)) ?_;intro D0 S;replace S:Sat w0 D0 [Box DB 38 [i_ Y.1,U],Own R2_ [U] Y.2,Box Dg 38 [i_ 0,n_]]:=S;refine en DZ (sg fun _ DC=>sR fun _ D1=>pe (.agg #[i_ Y.1,U]) (ax (cs:=[i_ Y.1,U]) rfl rfl (ay (S.boxAt 0 rfl))) (oB F fun D2 DO F=>?_));refine ec0 ny (dM (S.rdAt (R:=R2_) 1 rfl) DO) (ca (ai rfl rfl)) S fun Ep Eb S=>?_;refine pe (.bool (!D2)) (bm rfl) (en D1 (oF F (fun Do F=>?_) fun Do F=>?_))
 ·refine cf (am Do) (sn DC (sR fun _ D3=>pe (.agg #[i_ Y.1,U]) (ax (cs:=[i_ Y.1,U]) rfl rfl (ay (S.boxAt 0 rfl))) ?_));refine ap (S.top 2 rfl) Z [i_ Y.1,U] rfl rfl dt (all_cons rfl (all_cons (oc (S.rdAt (R:=R2_) 1 rfl)) rfl)) ?_;intro D4 S;replace S:Sat w0 D4 [Box Dg 38 [i_ Y.1,U],Box DB 38 [i_ Y.1,U],Own R2_ [U] Y.2]:=S;refine pa (.bool true) (en D3 (ak ?_));refine eF (cs:=[i_ Y.1,U]) rfl Z rfl (ay (S.boxAt 0 rfl)) rfl ?_;replace S:=S.t2;have hr:=oI F;exact ⟨U,cR hr fun r=>.tuple #[.agg #[i_ r.1.1,U],.bool r.2],sP hr (fun r=>[Own R2_ [U] r.1.2]) (S.keep 1)⟩
 refine ct (an Do) (sg fun _ D5=>?_);replace S:=S.r1.r0;refine ah (pe (.agg #[i_ 0,n_]) (bo [] [i_ 0,n_] rfl rfl) ?_);refine ap (S.top 0 rfl) Z [i_ 0,n_] rfl rfl dt (all_cons rfl (all_cons rfl rfl)) ?_;intro D6 S;replace S:Sat w0 D6 [Box Dg 38 [i_ 0,n_]]:=S;refine pa (.bool false) (en D5 (ak (tr DC ?_)));replace S:=S.nil R0_ 24;refine eF (cs:=[i_ 0,n_]) rfl Z rfl (ay (S.boxAt 1 rfl)) rfl ?_;have hr:=oI F;exact ⟨n_,cR hr fun r=>.tuple #[.agg #[i_ r.1.1,n_],.bool r.2],sP hr (fun r=>[Own R2_ [n_] r.1.2]) (S.keep 1)⟩
end
end Go.Proofs.YtdapplkijobjoaaGreat
