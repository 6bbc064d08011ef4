/- Plain laws: what a valid factorization's nodes are; how many rows lie below each node. -/
import Derived.Test.YtijmbnbnojicjaaDoorV0
namespace Go.Proofs.YtijmbnbnojicjaaDoor
open Go.RowKit
structure VF (olen:Nat) (nodes:List iu) (far:List Int):Prop where
 pos:1≤nodes.length
 le:nodes.length≤4000
 z1:(nodes.getD 0 ([],[])).1=[]
 z2:(nodes.getD 0 ([],[])).2=[]
 len:far.length=nodes.length
 f0:far.getD 0 0=0
 last:far.getD (nodes.length-1) 0=(olen:Int)
 nd:∀ i,1≤i→i<nodes.length→vn nodes olen (far.take i) i (nodes.getD i ([],[]))=some (far.getD i 0)
theorem tw {xs:List Int} {i j:Nat} (h:j<i):(xs.take i).getD j 0=xs.getD j 0:=by
 rw [List.getD_eq_getElem?_getD,List.getD_eq_getElem?_getD,List.getElem?_take,if_pos h]
theorem VF.node {olen:Nat} {nodes:List iu} {far:List Int} (V:VF olen nodes far) {i:Nat} (h1:1≤i) (h2:i<nodes.length) :
    (nodes.getD i ([],[])).1.length=(nodes.getD i ([],[])).2.length∧asc (nodes.getD i ([],[])).1=true ∧
    ((nodes.getD i ([],[])).1=[]∧i+1=nodes.length∧far.getD i 0=olen ∨
     (nodes.getD i ([],[])).1≠[]∧∀ j,j<(nodes.getD i ([],[])).2.length→0≤(nodes.getD i ([],[])).2.getD j 0∧(nodes.getD i ([],[])).2.getD j 0<i∧far.getD ((nodes.getD i ([],[])).2.getD j 0).toNat 0+1=far.getD i 0):=by
  have h:=V.nd i h1 h2
  generalize nodes.getD i ([],[])=x at *
  unfold vn at h
  cases e1:(decide (x.1.length=x.2.length)&&kP x.1&&asc x.1) with
  | false=>rw [e1] at h;cases h
  | true =>
    rw [e1,cond_true] at h
    simp only [Bool.and_eq_true,decide_eq_true_eq] at e1
    refine ⟨e1.1.1,e1.2,?_⟩
    by_cases hz:x.1.length=0
    · rw [decide_eq_true hz,cond_true] at h
      by_cases hi:i+1=nodes.length
      · rw [decide_eq_true hi,cond_true] at h
        exact .inl ⟨List.length_eq_zero_iff.1 hz,hi,(Option.some.inj h).symm⟩
      · rw [decide_eq_false hi] at h;cases h
    · rw [decide_eq_false hz,cond_false] at h
      cases ha:(List.range' 0 x.2.length).all (uh (far.take i) i x.2) with
      | false=>rw [ha] at h;cases h
      | true =>
        rw [ha,Bool.true_and] at h
        cases hb:rD nodes i x with
        | false=>rw [hb] at h;cases h
        | true =>
          rw [hb,cond_true] at h
          refine .inr ⟨fun e=>hz (by simp [e]),fun j hj=>?_⟩
          have hc:∀ j,j<x.2.length→0≤x.2.getD j 0∧x.2.getD j 0<i∧far.getD (x.2.getD j 0).toNat 0=(far.take i).getD (x.2.getD 0 0).toNat 0:=by
            intro j hj
            have:=(List.all_eq_true.1 ha) j (by simp;omega)
            unfold uh at this
            simp only [Bool.and_eq_true,decide_eq_true_eq] at this
            have g:=cz.1 this.1
            refine ⟨g.1,by omega,?_⟩
            rw [← this.2,tw (by omega)]
          obtain ⟨q1,q2,q3⟩:=hc j hj
          exact ⟨q1,q2,by rw [q3];exact Option.some.inj h⟩
theorem gW {σ V:Type} (L:Nat→σ→Int→Option V) (n:Nat) (A:Nat→σ) (v:V)
  (hstep:∀ k i,i<n→L (k+1) (A i) (i:Int)=L k (A (i+1)) ((i+1:Nat):Int)) (hend:∀ k,L (k+1) (A n) (n:Int)=some v) :
  ∀ k i,i≤n→n-i<k→L k (A i) (i:Int)=some v:=by
 intro k
 induction k with
 | zero=>intro i hi hk;omega
 | succ k ih =>
  intro i hi hk
  by_cases h:i<n
  ·rw [hstep k i h];exact ih (i+1) (by omega) (by omega)
  ·obtain rfl:i=n:=by omega
   exact hend k
theorem VF.lens {olen:Nat} {nodes:List iu} {far:List Int} (V:VF olen nodes far) {i:Nat} (h2:i<nodes.length):(nodes.getD i ([],[])).1.length=(nodes.getD i ([],[])).2.length:=by
 by_cases h1:1≤i
 ·exact (V.node h1 h2).1
 ·obtain rfl:i=0:=by omega
  rw [V.z1,V.z2]
theorem VF.asc {olen:Nat} {nodes:List iu} {far:List Int} (V:VF olen nodes far) {i:Nat} (h2:i<nodes.length):Go.Proofs.YtijmbnbnojicjaaDoor.asc (nodes.getD i ([],[])).1=true:=by
 by_cases h1:1≤i
 ·exact (V.node h1 h2).2.1
 ·obtain rfl:i=0:=by omega
  rw [V.z1];rfl
theorem uw {α R V:Type} (L:Nat→Int→Option (Sum R V)) (xs:List α) (q:α→Bool) (g:α→R) (v:V) (hl:xs.length<1099511627776)
  (hstep:∀ k i (h:i<xs.length),L (k+1) (i:Int)=bif q xs[i] then some (.inl (g xs[i])) else L k ((i+1:Nat):Int)) (hend:∀ k,L (k+1) (xs.length:Int)=some (.inr v)) :
  ∀ k i,i≤xs.length→xs.length-i<k→L k (i:Int)=some (match (xs.drop i).find? q with | some x=>.inl (g x) | none=>.inr v):=by
 intro k
 induction k with
 | zero=>intro i h1 h2;omega
 | succ k ih =>
  intro i h1 h2
  by_cases h:i<xs.length
  ·rw [hstep k i h,jq h,List.find?_cons]
   cases hq:q xs[i]
   ·rw [cond_false];exact ih (i+1) (by omega) (by omega)
   ·rfl
  ·obtain rfl:i=xs.length:=by omega
   rw [hend,List.drop_length];rfl
abbrev iD:=ByteArray × (Int × List (List Int))
abbrev zl (ts:List iD):Prop:=bP (fun x=>x.1.size≤1048576∧bP (bP (fun _=>True) 1048576) 1048576 x.2.2) 1048576 ts
def lw (s:ByteArray) (i:Nat):Int:=match s[i]? with | some b=>(b.toNat:Int) | none=>0
theorem w8 {s:ByteArray} {i:Nat} (h:i<s.size):bx s (i:Int)=some (lw s i):=by
 unfold bx lw
 rw [if_pos (by omega),Int.toNat_natCast,getElem?_pos s i h];rfl
def jM (s:ByteArray) (i:Nat):Bool:=!decide (lw s i<97)&&!decide (122<lw s i)
def j7 (s:ByteArray):Bool:=inR s.size 1 4&&(List.range' 0 s.size).all (jM s)
def y7 (ts:List iD) (i:Nat):Bool :=
 let t:=ts.getD i (ByteArray.empty,0,[])
 j7 t.1&&(Nat.beq i 0||ltS (ts.getD (i-1) (ByteArray.empty,0,[])).1 t.1)&&td t.2.1 t.2.2&&!decide (t.2.1<1)&&!decide (16<(t.2.2.length:Int))
def zk (ts:List iD):Bool:=decide ((ts.length:Int)≤6)&&(List.range' 0 ts.length).all (y7 ts)
def vg (ts:List iD) (s:ByteArray):(Int × List (List Int)) × Bool :=
 bif zk ts then (match ts.find? (fun t=>decide (t.1=s)) with | some t=>(t.2,true) | none=>((0,[]),false)) else ((0,[]),false)
section
variable {N:Nat}
theorem xC {L:Nat→Int→Option (Sum Bool Int)} {s:ByteArray} (hs:s.size≤1048576) (hN:1073741824≤N)
  (hstep:∀ k i,L (k+1) i=(bif decide (i<(s.size:Int)) then (bx s i).bind fun a=>(bif decide (a<97) then some (.inl false) else (bx s i).bind fun b=>(bif decide (122<b) then some (.inl false) else (ad i 1).bind fun j=>L k j)) else some (.inr i))) :
  L N 0=some (bif (List.range' 0 s.size).all (jM s) then .inr (s.size:Int) else .inl false):=by
 have:=mP L s.size (by omega) false (jM s) (s.size:Int)
  (fun k i h=>by
   rw [hstep,dlt h,cond_true,w8 h,bs,bs,ad1 (by omega),bs]
   unfold jM
   cases decide (lw s i<97)
   ·cases decide (122<lw s i) <;> rfl
   ·rfl)
  (fun k=>by rw [hstep,dge (by omega),cond_false]) N 0 (by omega) (by omega)
 rw [Nat.sub_zero] at this
 exact this
theorem mh (hN:1073741824≤N) {s:ByteArray} (hs:s.size≤1048576):gE N s=some (j7 s):=by
 unfold gE jb j7
 by_cases h1:(s.size:Int)<1
 ·rw [decide_eq_true h1,show inR (s.size:Int) 1 4=false by rw [← Bool.not_eq_true,cz];omega];rfl
 by_cases h4:(4:Int)<s.size
 ·rw [decide_eq_false h1,decide_eq_true h4,show inR (s.size:Int) 1 4=false by rw [← Bool.not_eq_true,cz];omega];rfl
 rw [decide_eq_false h1,decide_eq_false h4,show inR (s.size:Int) 1 4=true by rw [cz];omega,cond_false,cond_false,xC (L:=fun k i=>fx N k s i) hs hN (fun k i=>by
  show fx N (k+1) s i=_
  rw [fx]),bs]
 cases (List.range' 0 s.size).all (jM s) <;> rfl
theorem mn (hN:1073741824≤N) {s:ByteArray} (hs:s.size≤1048576):gA N s=some (j7 s):=by
 unfold gA j7
 rw [xC (L:=fun k i=>eR N k s i) hs hN (fun k i=>by
  show eR N (k+1) s i=_
  rw [eR]),bs]
 cases (List.range' 0 s.size).all (jM s)
 ·cases inR (s.size:Int) 1 4 <;> rfl
 ·simp only [cond_true,lpS,d6,bs,Bool.and_true]
end
section
variable {N:Nat}
theorem qV {α:Type} {N:Nat} (L:Nat→Int→Option (Sum Bool Int)) (xs:List α) (q:α→Bool) (hN:1073741824≤N) (hl:xs.length≤1048576)
  (hstep:∀ k i (h:i<xs.length),L (k+1) (i:Int)=bif q xs[i] then L k ((i+1:Nat):Int) else some (.inl false)) (hend:∀ k,L (k+1) (xs.length:Int)=some (.inr (xs.length:Int))) :
  L N 0=some (bif xs.all q then .inr (xs.length:Int) else .inl false):=by
 have:=mP L xs.length (by omega) false (fun i=>if h:i<xs.length then q xs[i] else true) (xs.length:Int) (fun k i h=>by rw [hstep k i h];simp only [dif_pos h]) hend N 0 (by omega) (by omega)
 rw [Nat.sub_zero,mz xs q _ (fun i hi=>by rw [dif_pos hi])] at this
 exact this
end
theorem sY {σ R V:Type} (L:Nat→σ→Int→Option (Sum R V)) (n:Nat) (b:R) (p:Nat→Bool) (A:Nat→σ) (v:V)
  (hstep:∀ k i,i<n→L (k+1) (A i) (i:Int)=bif p i then L k (A (i+1)) ((i+1:Nat):Int) else some (.inl b)) (hend:∀ k,L (k+1) (A n) (n:Int)=some (.inr v)) :
  ∀ k i,i≤n→n-i<k→L k (A i) (i:Int)=some (bif (List.range' i (n-i)).all p then .inr v else .inl b):=by
 intro k
 induction k with
 | zero=>intro i hi hk;omega
 | succ k ih =>
  intro i hi hk
  by_cases h:i<n
  ·rw [hstep k i h,show n-i=(n-(i+1))+1 by omega,List.range'_succ,List.all_cons]
   cases hp:p i with
   | true=>rw [cond_true,Bool.true_and];exact ih (i+1) (by omega) (by omega)
   | false=>rfl
  ·obtain rfl:i=n:=by omega
   rw [hend k,Nat.sub_self];rfl
theorem fQ {R V S:Type} {v:V} {f:R→Option S} {g:V→Option S}:lpS (.inr v) f g=g v:=rfl
theorem iI {R V S:Type} {v:R} {f:R→Option S} {g:V→Option S}:lpS (.inl v) f g=f v:=rfl
abbrev aX:=ByteArray × List Int
abbrev eT (xs:List aX):Prop:=bP (fun x=>x.1.size≤1048576∧(bP (fun _=>True) 1048576) x.2) 1048576 xs
def iV (n:Int) (a:aX):Bool:=j7 a.1&&inR a.2.length 1 5&&a.2.all fun v=>inR v 0 (n-1)
def jr (n:Int) (atoms:List aX):Bool:=(List.range' 0 n.toNat).all fun v=>atoms.any fun a=>decide ((v:Int)∈a.2)
def fM (n:Int) (atoms:List aX) (out:List Int):Bool:=inR n 1 5&&inR atoms.length 1 4&&i5 out n&&atoms.all (iV n)&&jr n atoms
theorem q5:∀ (n:Nat) (xs:List Int),xs.Nodup→(∀ x∈xs,0≤x∧x<n)→xs.length≤n:=by
 intro n
 induction n with
 | zero =>
  intro xs _ h
  cases xs with
  | nil=>simp
  | cons x xs=>have:=h x (by simp);omega
 | succ n ih =>
  intro xs hn h
  by_cases hm:(n:Int)∈xs
  ·have h1:=ih (xs.erase (n:Int)) (hn.erase _) (fun x hx=>by
    have h2:=h x (List.mem_of_mem_erase hx)
    have h3:x≠n:=by rintro rfl;exact (hn.mem_erase_iff.1 hx).1 rfl
    omega)
   rw [List.length_erase_of_mem hm] at h1
   omega
  ·have:=ih xs hn (fun x hx=>by
    have h2:=h x hx
    have h3:x≠n:=by rintro rfl;exact hm hx
    omega)
   omega
theorem q8 {xs:List Int} {n:Int} (h:i5 xs n=true):xs.Nodup∧∀ x∈xs,0≤x∧x≤n-1:=by
 unfold i5 at h
 rw [List.all_eq_true] at h
 have hk:∀ i (hi:i<xs.length),(0≤xs[i]∧xs[i]≤n-1)∧xs[i]∉xs.take i:=by
  intro i hi
  have:=h i (by simp;omega)
  simp only [eJ hi,Bool.and_eq_true,cz,Bool.not_eq_true',decide_eq_false_iff_not] at this
  exact this
 refine ⟨?_,fun x hx=>?_⟩
 ·rw [List.nodup_iff_pairwise_ne,List.pairwise_iff_getElem]
  intro i j hi hj hij e
  refine (hk j hj).2 ?_
  rw [← e]
  have:(xs.take j)[i]'(by simp;omega)=xs[i]:=List.getElem_take
  rw [← this];exact List.getElem_mem _
 ·obtain ⟨i,hi,rfl⟩:=List.getElem_of_mem hx
  exact (hk i hi).1
theorem sd {xs:List Int} {n:Int} (h0:0≤n) (h:i5 xs n=true):(xs.length:Int)≤n:=by
 obtain ⟨h1,h2⟩:=q8 h
 have:=q5 n.toNat xs h1 (fun x hx=>by have:=h2 x hx;omega)
 omega
def jf (m:Nat) (g:Nat→Bool):List Bool:=(List.range' 0 m).map g
theorem np (m:Nat) (g:Nat→Bool):(jf m g).length=m:=by simp [jf]
theorem vr {m:Nat} {g:Nat→Bool} {i:Nat} (h:i<m):ix (jf m g) (i:Int)=some (g i):=by
 rw [aV (by rw [np];exact h)];simp [jf]
theorem uk {m:Nat} {g:Nat→Bool} {c:Nat} (h:c<m):sto (jf m g) (c:Int) true=some (jf m fun v=>g v||decide (v=c)):=by
 rw [kr (by rw [np];exact h)]
 congr 1
 refine List.ext_getElem (by simp [jf]) fun i h1 h2=>?_
 simp only [jf,List.getElem_set,List.getElem_map,List.getElem_range']
 simp only [Nat.zero_add,Nat.one_mul]
 by_cases e:c=i
 ·subst e;simp
 ·have e2:¬ i=c:=fun h=>e h.symm
  rw [if_neg e,decide_eq_false e2,Bool.or_false]
theorem nm {m:Nat} {f g:Nat→Bool} (h:∀ v,f v=g v):jf m f=jf m g:=by rw [show f=g from funext h]
theorem vb (m:Nat) (g:Nat→Bool):(jf m g).all id=(List.range' 0 m).all g:=by simp [jf,List.all_map]
theorem me {α:Type} {p:α→Bool} {xs:List α} {i:Nat} (h:i<xs.length):(xs.take (i+1)).any p=((xs.take i).any p||p xs[i]):=by
 rw [List.take_succ_eq_append_getElem h,List.any_append];simp
theorem pQ {xs:List Int} {i:Nat} (h:i<xs.length) (v:Int):decide (v∈xs.take (i+1))=(decide (v∈xs.take i)||decide (v=xs[i])):=by
 have e:v∈xs.take (i+1)↔v∈xs.take i∨v=xs[i]:=by
  rw [List.take_succ_eq_append_getElem h,List.mem_append,List.mem_singleton]
 rw [Bool.eq_iff_iff];simp only [decide_eq_true_eq,Bool.or_eq_true];exact e
section
variable {N:Nat}
def iN (m:Nat) (atoms:List aX) (i:Nat):List Bool:=jf m fun v=>(atoms.take i).any fun a=>decide ((v:Int)∈a.2)
def jw (m:Nat) (atoms:List aX) (i:Nat) (xs:List Int) (j:Nat):List Bool:=jf m fun v=>(atoms.take i).any (fun a=>decide ((v:Int)∈a.2))||decide ((v:Int)∈xs.take j)
theorem vU (m:Nat) (atoms:List aX) (i:Nat) (xs:List Int):jw m atoms i xs 0=iN m atoms i:=nm fun v=>by simp
theorem sI (m:Nat) (atoms:List aX) {i:Nat} (h:i<atoms.length):jw m atoms i atoms[i].2 atoms[i].2.length=iN m atoms (i+1):=nm fun v=>by rw [List.take_length,me h]
theorem r7 {m:Nat} {atoms:List aX} {i:Nat} {xs:List Int} {j c:Nat} (hj:j<xs.length) (hc:xs[j]=(c:Int)) (hm:c<m):sto (jw m atoms i xs j) (c:Int) true=some (jw m atoms i xs (j+1)):=by
 unfold jw
 rw [uk hm]
 congr 1
 refine nm fun v=>?_
 rw [pQ hj,hc,Bool.or_assoc]
 congr 2
 rw [decide_eq_decide];omega
theorem uI {m:Nat} {atoms:List aX} {i:Nat} {xs:List Int} {j c:Nat} (hm:c<m):∃ b,ix (jw m atoms i xs j) (c:Int)=some b:=⟨_,vr hm⟩
theorem wk (m:Nat) (atoms:List aX):List.replicate m false=iN m atoms 0:=by
 refine List.ext_getElem (by simp [iN,jf]) fun i h1 h2=>?_
 simp [iN,jf]
theorem q9 {m:Nat} {atoms:List aX} {i:Nat} {xs:List Int} {t:List aX} {tl ti:Int} (hx:xs.length≤1048576) (hm:m≤5) (k j:Nat) (hj:j<xs.length) :
  cI N (k+1) (m:Int) (jw m atoms i xs j) t tl ti xs (xs.length:Int) (j:Int)=bif (if h:j<xs.length then inR xs[j] 0 ((m:Int)-1) else true) then cI N k (m:Int) (jw m atoms i xs (j+1)) t tl ti xs (xs.length:Int) ((j+1:Nat):Int) else some (.inl false):=by
 rw [cI,dlt hj,cond_true,aV hj,bs,fj (by omega) (by omega),bs,eH,bs,dif_pos hj]
 cases hc:inR xs[j] 0 ((m:Int)-1) with
 | false=>rw [cond_false,cond_false]
 | true =>
  have hc':=cz.1 hc
  obtain ⟨c,hcc⟩:=Int.eq_ofNat_of_zero_le hc'.1
  obtain ⟨b,hb⟩:=uI (m:=m) (atoms:=atoms) (i:=i) (xs:=xs) (j:=j) (c:=c) (by omega)
  rw [cond_true,cond_true,hcc,hb,bs,r7 hj hcc (by omega),bs,ad1 (by omega),bs]
theorem wJ (hN:1073741824≤N) {m:Nat} {atoms:List aX} {i:Nat} {xs:List Int} {t:List aX} {tl ti:Int} (hx:xs.length≤1048576) (hm:m≤5) :
  cI N N (m:Int) (iN m atoms i) t tl ti xs (xs.length:Int) 0=some (bif xs.all (fun v=>inR v 0 ((m:Int)-1)) then .inr (jw m atoms i xs xs.length,(xs.length:Int)) else .inl false):=by
 have h:=sY (fun k (s:List Bool) j=>cI N k (m:Int) s t tl ti xs (xs.length:Int) j) xs.length false (fun j=>if h:j<xs.length then inR xs[j] 0 ((m:Int)-1) else true) (jw m atoms i xs) (jw m atoms i xs xs.length,(xs.length:Int))
  (fun k j hj=>q9 hx hm k j hj)
  (fun k=>by
   show cI N (k+1) (m:Int) _ t tl ti xs _ (xs.length:Int)=_
   rw [cI,dge (by omega),cond_false]) N 0 (by omega) (by omega)
 rw [Nat.sub_zero,mz xs (fun v=>inR v 0 ((m:Int)-1)) _ (fun j hj=>by rw [dif_pos hj]),vU] at h
 exact h
theorem q4 (hN:1073741824≤N) {m:Nat} {atoms:List aX} (ha:eT atoms) (hm:m≤5) (k i:Nat) (h:i<atoms.length) :
  cE N (k+1) (m:Int) (iN m atoms i) atoms (atoms.length:Int) (i:Int)=bif (if h:i<atoms.length then iV m atoms[i] else true) then cE N k (m:Int) (iN m atoms (i+1)) atoms (atoms.length:Int) ((i+1:Nat):Int) else some (.inl false):=by
 have hl:=ha.1
 obtain ⟨g1,g2⟩:=ha.2 _ (List.getElem_mem h)
 rw [cE,dlt h,cond_true,aV h,bs,mh hN g1,bs,eH,bs,dif_pos h]
 unfold iV
 cases j7 atoms[i].1 with
 | false=>simp only [Bool.false_and,Bool.and_false,Bool.true_and,cond_false,cond_true]
 | true =>
  cases inR (atoms[i].2.length:Int) 1 5 with
  | false=>simp only [Bool.false_and,Bool.and_false,Bool.true_and,cond_false,cond_true]
  | true =>
   simp only [cond_true,Bool.true_and]
   rw [wJ hN g2.1 hm,bs]
   cases atoms[i].2.all fun v=>inR v 0 ((m:Int)-1) with
   | false=>simp only [cond_false,lpS]
   | true =>
    rw [cond_true,fQ,ad1 (by omega),bs,sI m atoms h,cond_true]
theorem xP (hN:1073741824≤N) {m:Nat} {atoms:List aX} (ha:eT atoms) (hm:m≤5) :
  cE N N (m:Int) (List.replicate m false) atoms (atoms.length:Int) 0=some (bif atoms.all (iV m) then .inr (iN m atoms atoms.length,(atoms.length:Int)) else .inl false):=by
 have hl:=ha.1
 have h:=sY (fun k (s:List Bool) i=>cE N k (m:Int) s atoms (atoms.length:Int) i) atoms.length false (fun i=>if h:i<atoms.length then iV m atoms[i] else true) (iN m atoms) (iN m atoms atoms.length,(atoms.length:Int))
  (fun k i h=>q4 hN ha hm k i h)
  (fun k=>by
   show cE N (k+1) (m:Int) _ atoms _ (atoms.length:Int)=_
   rw [cE,dge (by omega),cond_false]) N 0 (by omega) (by omega)
 rw [Nat.sub_zero,mz atoms (iV m) _ (fun i hi=>by rw [dif_pos hi]),← wk] at h
 exact h
theorem wV (hN:1073741824≤N) {xs:List Bool} (hx:xs.length≤1048576):dc N N xs (xs.length:Int) 0=some (bif xs.all id then .inr (xs.length:Int) else .inl false) :=
 qV (fun k i=>dc N k xs (xs.length:Int) i) xs id hN hx
  (fun k i h=>by
   show dc N (k+1) _ _ (i:Int)=_
   rw [dc,dlt h,cond_true,aV h,bs,ad1 (by omega),bs];rfl)
  (fun k=>by
   show dc N (k+1) _ _ (xs.length:Int)=_
   rw [dc,dge (by omega),cond_false])
theorem tj {m:Nat} {atoms:List aX}:(iN m atoms atoms.length).all id=jr m atoms:=by
 unfold iN jr
 rw [vb,Int.toNat_natCast,List.take_length]
theorem od {n:Int} {atoms:List aX} {out:List Int} (h:inR n 1 5=false):fM n atoms out=false:=by unfold fM;rw [h];rfl
theorem gm (hN:1073741824≤N) {n:Int} {atoms:List aX} {out:List Int} (ha:eT atoms) (ho:okI out):eL N n atoms out=some (fM n atoms out):=by
 have hl:=ha.1
 unfold eL
 rw [eH,bs,eH,bs]
 cases hn:inR n 1 5 with
 | false=>rw [od hn];rfl
 | true =>
  have hn':=cz.1 hn
  unfold fM
  rw [hn,cond_true,rT hN ho.1 (by omega),bs]
  cases inR (atoms.length:Int) 1 4 with
  | false=>rfl
  | true =>
   cases i5 out n with
   | false=>rfl
   | true =>
    obtain ⟨m,rfl⟩:=Int.eq_ofNat_of_zero_le (by omega:0≤n)
    simp only [cond_true,Bool.and_self,Bool.true_and]
    rw [nK (by decide) (by omega),bs,xP hN ha (by omega),bs]
    cases atoms.all (iV m) with
    | false=>rfl
    | true =>
     simp only [cond_true,lpS,Bool.true_and]
     rw [wV hN (by unfold iN;rw [np];omega),bs,tj]
     cases jr m atoms <;> rfl
theorem iP (hN:1073741824≤N) {s:ByteArray} {xs:List Int} {v:Int} (hx:okI xs):eF N s xs v=some (decide (v∈xs)):=by
 have hl:=hx.1
 have:=uw (fun k i=>cd N k v s xs i) xs (fun x=>decide (x=v)) (fun _=>true) (xs.length:Int) (by omega)
  (fun k i h=>by
   show cd N (k+1) v s xs (i:Int)=_
   rw [cd,dlt h,cond_true,aV h,bs,ad1 (by omega),bs,zg])
  (fun k=>by
   show cd N (k+1) v s xs (xs.length:Int)=_
   rw [cd,dge (by omega),cond_false]) N 0 (by omega) (by omega)
 rw [List.drop_zero] at this
 have this':cd N N v s xs 0=_:=this
 unfold eF
 rw [this',bs]
 cases hf:xs.find? (fun x=>decide (x=v)) with
 | none =>
  have:v∉xs:=fun hm=>by have:=(List.find?_eq_none.1 hf) v hm;simp at this
  simp [lpS,this]
 | some y =>
  have h1:=List.find?_some hf
  have h2:=List.mem_of_find?_eq_some hf
  have:v∈xs:=by simp at h1;rw [← h1];exact h2
  simp [lpS,this]
theorem kx (hN:1073741824≤N) {s:ByteArray} {xs:List Int} {v:Int} (hx:okI xs):e7 N s xs v=some (decide (v∈xs)):=by
 unfold e7;rw [pA hN hx.1,bs]
theorem wP (hN:1073741824≤N) {n:Int} {atoms:List aX} {out:List Int} {i:Nat} (h:i<atoms.length) (hn:n≤5) (h0:0≤n) (hx:atoms[i].2.length≤1048576) :
  c8 N N n atoms out (i:Int) 0=some (bif atoms[i].2.all (fun v=>inR v 0 (n-1)) then .inr (atoms[i].2.length:Int) else .inl false) :=
 qV (fun k2 j=>c8 N k2 n atoms out (i:Int) j) atoms[i].2 (fun v=>inR v 0 (n-1)) hN hx
  (fun k2 j hj=>by
   show c8 N (k2+1) n atoms out (i:Int) (j:Int)=_
   rw [c8,aV h,bs,dlt hj,cond_true,bs,aV hj,bs,fj (by omega) (by omega),bs,d6,bs,ad1 (by omega),bs])
  (fun k2=>by
   show c8 N (k2+1) n atoms out (i:Int) (atoms[i].2.length:Int)=_
   rw [c8,aV h,bs,dge (by omega),cond_false])
theorem xe (hN:1073741824≤N) {n:Int} {atoms:List aX} {out:List Int} (ha:eT atoms) (hn:n≤5) (h0:0≤n) :
  cZ N N n atoms out 0=some (bif atoms.all (iV n) then .inr (atoms.length:Int) else .inl false) :=
 qV (fun k i=>cZ N k n atoms out i) atoms (iV n) hN ha.1
  (fun k i h=>by
   have hl:=ha.1
   obtain ⟨g1,g2⟩:=ha.2 _ (List.getElem_mem h)
   show cZ N (k+1) n atoms out (i:Int)=_
   rw [cZ,dlt h,cond_true,aV h,bs,mn hN g1,bs,bs,d6,bs]
   unfold iV
   cases j7 atoms[i].1 with
   | false=>simp only [Bool.false_and,Bool.and_false,Bool.true_and,cond_false,cond_true]
   | true =>
    cases inR (atoms[i].2.length:Int) 1 5 with
    | false=>simp only [Bool.false_and,Bool.and_false,Bool.true_and,cond_false,cond_true]
    | true =>
     simp only [cond_true,Bool.true_and]
     rw [wP hN h hn h0 g2.1,bs]
     cases atoms[i].2.all fun v=>inR v 0 (n-1) with
     | false=>simp only [cond_false,lpS]
     | true =>
      rw [cond_true,fQ,ad1 (by omega),bs,cond_true])
  (fun k=>by
   show cZ N (k+1) n atoms out (atoms.length:Int)=_
   rw [cZ,dge (by omega),cond_false])
theorem w5 (hN:1073741824≤N) {n v:Int} {atoms:List aX} {out:List Int} (ha:eT atoms) :
  cD N N n atoms out v false 0=some (atoms.any (fun a=>decide (v∈a.2)),(atoms.length:Int)):=by
 have hl:=ha.1
 exact gW (fun k2 (s:Bool) j=>cD N k2 n atoms out v s j) atoms.length (fun j=>(atoms.take j).any fun a=>decide (v∈a.2)) (atoms.any (fun a=>decide (v∈a.2)),(atoms.length:Int))
  (fun k2 j hj=>by
   obtain ⟨g1,g2⟩:=ha.2 _ (List.getElem_mem hj)
   show cD N (k2+1) n atoms out v _ (j:Int)=_
   rw [cD,dlt hj,cond_true,me hj,ad1 (by omega),bs,aV hj,bs,iP hN g2,bs,bs]
   cases (atoms.take j).any fun a=>decide (v∈a.2) <;> rfl)
  (fun k2=>by
   show cD N (k2+1) n atoms out v _ (atoms.length:Int)=_
   rw [cD,dge (by omega),cond_false,List.take_length]) N 0 (by omega) (by omega)
theorem yp (hN:1073741824≤N) {m:Nat} {atoms:List aX} {out:List Int} (ha:eT atoms) (hm:m≤5) :
  c9 N N (m:Int) atoms out 0=some (bif jr m atoms then .inr (m:Int) else .inl false):=by
 have h:=mP (fun k i=>c9 N k (m:Int) atoms out i) m (by omega) false (fun v=>atoms.any fun a=>decide ((v:Int)∈a.2)) (m:Int)
  (fun k v h=>by
   show c9 N (k+1) (m:Int) atoms out (v:Int)=_
   rw [c9,dlt h,cond_true,w5 hN ha,bs,lpB]
   simp only []
   rw [ad1 (by omega),bs])
  (fun k=>by
   show c9 N (k+1) (m:Int) atoms out (m:Int)=_
   rw [c9,dge (by omega),cond_false]) N 0 (by omega) (by omega)
 unfold jr
 rw [Int.toNat_natCast]
 rw [Nat.sub_zero] at h
 exact h
theorem ye (hN:1073741824≤N) {n:Int} {atoms:List aX} {out:List Int} (ho:out.length≤1048576) (hn:n≤5) (h0:0≤n) :
  c5 N N n atoms out 0=some (bif i5 out n then .inr (out.length:Int) else .inl false):=by
 have h:=mP (fun k i=>c5 N k n atoms out i) out.length (by omega) false (fun i=>inR (out.getD i 0) 0 (n-1)&&!decide (out.getD i 0∈out.take i)) (out.length:Int)
  (fun k i h=>by
   show c5 N (k+1) n atoms out (i:Int)=_
   rw [c5,dlt h,cond_true,aV h,bs,fj (by omega) (by omega),bs,d6,bs,show ((0:Int))=((0:Nat):Int) from rfl,mv (Nat.zero_le _) (by omega),bs,bs,List.drop_zero,sX hN (by simp;omega),bs,ad1 (by omega),bs]
   simp only [eJ h,mH,show ((0:Nat):Int)=0 from rfl]
   cases inR out[i] 0 (n-1)
   ·rfl
   ·cases decide (out[i]∈out.take i) <;> rfl)
  (fun k=>by
   show c5 N (k+1) n atoms out (out.length:Int)=_
   rw [c5,dge (by omega),cond_false]) N 0 (by omega) (by omega)
 rw [Nat.sub_zero] at h
 exact h
theorem jx (hN:1073741824≤N) {n:Int} {atoms:List aX} {out:List Int} (ha:eT atoms) (ho:okI out):gj N n atoms out=some (fM n atoms out):=by
 have hl:=ha.1
 have hol:=ho.1
 unfold gj
 rw [d6,bs,d6,bs]
 cases hn:inR n 1 5 with
 | false=>rw [od hn];rfl
 | true =>
  have hn':=cz.1 hn
  unfold fM
  rw [hn]
  cases inR (atoms.length:Int) 1 4 with
  | false=>rfl
  | true =>
   simp only [cond_true,Bool.true_and]
   by_cases hlen:n<(out.length:Int)
   ·have:i5 out n=false:=by
     rw [← Bool.not_eq_true];intro h
     have:=sd (by omega) h;omega
    rw [decide_eq_true hlen,cond_true,this];rfl
   ·obtain ⟨m,rfl⟩:=Int.eq_ofNat_of_zero_le (by omega:0≤n)
    rw [decide_eq_false hlen,cond_false,xe hN ha (by omega) (by omega),bs]
    cases atoms.all (iV m) with
    | false=>rw [Bool.and_false,Bool.false_and];rfl
    | true =>
     simp only [cond_true,lpS,Bool.and_true]
     rw [yp hN ha (by omega),bs]
     cases jr m atoms with
     | false=>rw [Bool.and_false];rfl
     | true =>
      simp only [cond_true,lpS,Bool.and_true]
      rw [ye hN hol (by omega) (by omega),bs]
      cases i5 out m <;> rfl
theorem ka {n:Int} {atoms:List aX} {out:List Int} (h:fM n atoms out=true):1≤n∧n≤5∧1≤(atoms.length:Int)∧(atoms.length:Int)≤4:=by
 unfold fM at h
 simp only [Bool.and_eq_true,cz] at h
 exact ⟨h.1.1.1.1.1,h.1.1.1.1.2,h.1.1.1.2.1,h.1.1.1.2.2⟩
end
section
variable {N:Nat}
theorem zj (N:Nat):∀ (k:Nat) (x y:Int),cT N k x y=fP N k x y:=by
 intro k
 induction k with
 | zero=>intro x y;rw [cT,fP]
 | succ k ih=>intro x y;rw [cT,fP];simp only [ih]
theorem nz (N:Nat) (x y:Int):dW N x y=f8 N x y:=by unfold dW f8;rw [zj]
theorem vh {a b:Int} (ha:0≤a) (hb:0<b) (h:a≤4611686018427387904):qt a b=some (a.tdiv b):=by
 have h1:0≤a.tdiv b:=Int.tdiv_nonneg ha (by omega)
 have h2:a.tdiv b≤a:=Int.tdiv_le_self b ha
 unfold qt;rw [if_pos ⟨by omega,lp (by omega) (by omega)⟩]
theorem rG {a b:Int} (ha:0≤a) (hb:0<b):0≤a.tdiv b∧a.tdiv b≤a:=⟨Int.tdiv_nonneg ha (by omega),Int.tdiv_le_self b ha⟩
theorem ta:∀ (m k:Nat) (x y:Int),0≤x→0≤y→y≤m→m<k→(0<x∨0<y)→∃ g z,fP N k x y=some (g,z)∧0<g:=by
 intro m
 induction m with
 | zero =>
  intro k x y hx hy hm hk h
  obtain ⟨k,rfl⟩:∃ k',k=k'+1:=⟨k-1,by omega⟩
  obtain rfl:y=0:=by omega
  rw [fP,show ((0:Int) != 0)=false from rfl,cond_false]
  exact ⟨x,0,rfl,by omega⟩
 | succ m ih =>
  intro k x y hx hy hm hk h
  obtain ⟨k,rfl⟩:∃ k',k=k'+1:=⟨k-1,by omega⟩
  rw [fP]
  by_cases h0:y=0
  ·subst h0
   rw [show ((0:Int) != 0)=false from rfl,cond_false]
   exact ⟨x,0,rfl,by omega⟩
  ·rw [show (y != 0)=true by simpa using h0,cond_true,pW h0,bs]
   obtain ⟨t1,t2⟩:=wr (b:=y) hx (by omega)
   exact ih k y (x.tmod y) hy t1 (by omega) (by omega) (.inl (by omega))
theorem qP (hN:1073741824≤N) {x y:Int} (hx:0≤x) (hy:0≤y) (h1:y≤1000000000) (h:0<x∨0<y):∃ g,f8 N x y=some g∧0<g:=by
 obtain ⟨g,z,e,hg⟩:=ta (N:=N) 1000000000 N x y hx hy (by omega) (by omega) h
 refine ⟨g,?_,hg⟩
 unfold f8;rw [e,bs,lpB]
abbrev cL:=Int × Int
theorem kD (N:Nat) (n d:Int):ay N n d=bf N n d:=by
 unfold ay bf
 rw [d6,eH,bs,bs,d6,eH,bs,bs]
 unfold iy
 cases inR d 1 1000000000
 ·rfl
 cases inR n (-1000000000) 1000000000
 ·rfl
 rw [cond_true,cond_true,cond_true,cond_true]
 cases sb 0 n with
 | none=>rfl
 | some z=>rw [bs,bs,bs,nz]
theorem qK (hN:1073741824≤N) (n d:Int):∃ b,bf N n d=some b∧(b=true→1≤d∧d≤1000000000∧-1000000000≤n∧n≤1000000000):=by
 unfold bf
 rw [eH,bs,eH,bs]
 cases h1:inR d 1 1000000000
 ·exact ⟨false,rfl,fun h=>by cases h⟩
 cases h2:inR n (-1000000000) 1000000000
 ·exact ⟨false,rfl,fun h=>by cases h⟩
 have h1':=cz.1 h1
 have h2':=cz.1 h2
 have hab:0≤imx n (0-n):=by unfold imx;split <;> omega
 obtain ⟨g,e,_⟩:=qP (N:=N) hN hab (by omega:0≤d) (by omega) (.inr (by omega))
 unfold iy
 rw [cond_true,cond_true,fj (by omega) (by omega),bs,bs,e,bs]
 exact ⟨_,rfl,fun _=>⟨h1'.1,h1'.2,h2'.1,h2'.2⟩⟩
def wOk (N:Nat) (r:cL):Bool:=(bf N r.1 r.2).getD false&&decide (0≤r.1)
theorem l8 (hN:1073741824≤N) {r:cL} (h:wOk N r=true):bf N r.1 r.2=some true∧0≤r.1∧r.1≤1000000000∧1≤r.2∧r.2≤1000000000:=by
 obtain ⟨b,e,hb⟩:=qK hN r.1 r.2
 unfold wOk at h
 rw [e,Option.getD_some,Bool.and_eq_true,decide_eq_true_eq] at h
 obtain ⟨rfl,h2⟩:=h
 have:=hb rfl
 exact ⟨e,h2,this.2.2.2,this.1,this.2.1⟩
theorem pq (hN:1073741824≤N) (r:cL):wOk N r=true∨(wOk N r=false∧(bf N r.1 r.2=some false∨bf N r.1 r.2=some true∧r.1<0)):=by
 obtain ⟨b,e,hb⟩:=qK hN r.1 r.2
 unfold wOk
 rw [e,Option.getD_some]
 cases b with
 | false=>exact .inr ⟨rfl,.inl rfl⟩
 | true =>
  by_cases h:0≤r.1
  ·exact .inl (by rw [decide_eq_true h];rfl)
  ·exact .inr ⟨by rw [decide_eq_false h];rfl,.inr ⟨rfl,by omega⟩⟩
def kf (N:Nat) (d:Int) (r:cL):Int:=(d.tdiv ((f8 N d r.2).getD 1))*r.2
theorem nr (hN:1073741824≤N) {d:Int} {r:cL} (h:wOk N r=true) (h0:0≤d) (h1:d≤1000):∃ g,f8 N d r.2=some g∧qt d g=some (d.tdiv g)∧ml (d.tdiv g) r.2=some (kf N d r)∧0≤kf N d r:=by
 obtain ⟨_,_,_,k1,k2⟩:=l8 hN h
 obtain ⟨g,e,hg⟩:=qP (N:=N) hN h0 (by omega:0≤r.2) k2 (.inr (by omega))
 obtain ⟨t1,t2⟩:=rG h0 hg
 have hm:0≤d.tdiv g*r.2:=Int.mul_nonneg t1 (by omega)
 have hm2:d.tdiv g*r.2≤1000*1000000000:=Int.mul_le_mul (by omega) k2 (by omega) (by omega)
 have es:kf N d r=d.tdiv g*r.2:=by unfold kf;rw [e];rfl
 refine ⟨g,e,vh h0 hg (by omega),?_,?_⟩
 ·rw [es,eN (by omega) (by omega)]
 ·rw [es];exact hm
def sD (N:Nat) (rs:List cL):Nat→Nat→Int→Option Int
 | 0,_,d=>some d
 | m+1,i,d=>if 1000<kf N d (rs.getD i (0,0)) then none else sD N rs m (i+1) (kf N d (rs.getD i (0,0)))
theorem y9 (hN:1073741824≤N) {rs:List cL} (ha:∀ i,i<rs.length→wOk N (rs.getD i (0,0))=true):∀ m i d d',i+m=rs.length→0≤d→d≤1000→sD N rs m i d=some d'→0≤d'∧d'≤1000:=by
 intro m
 induction m with
 | zero=>intro i d d' _ h0 h1 h;unfold sD at h;cases h;exact ⟨h0,h1⟩
 | succ m ih =>
  intro i d d' hi h0 h1 h
  unfold sD at h
  obtain ⟨g,_,_,_,g4⟩:=nr hN (ha i (by omega)) h0 h1
  by_cases hc:1000<kf N d (rs.getD i (0,0))
  ·rw [if_pos hc] at h;cases h
  ·rw [if_neg hc] at h;exact ih (i+1) _ d' (by omega) g4 (by omega) h
theorem kt {rs:List cL} {i:Nat} (h:i<rs.length):rs[i]=rs.getD i (0,0):=by simp [h]
def qW (rs:List cL) (o:Option Int):Sum (List Int × Int) (Int × Int):=match o with | none=>.inl ([],0) | some d=>.inr (d,(rs.length:Int))
theorem tH (hN:1073741824≤N) {rs:List cL} (hl:rs.length≤1048576):∀ m i k d,i+m=rs.length→m<k→0≤d→d≤1000 →
  bK N k rs d (i:Int)=some (bif (List.range' i m).all (fun j=>wOk N (rs.getD j (0,0))) then qW rs (sD N rs m i d) else .inl ([],0)):=by
 intro m
 induction m with
 | zero =>
  intro i k d hi hk h0 h1
  obtain ⟨k,rfl⟩:∃ k',k=k'+1:=⟨k-1,by omega⟩
  obtain rfl:i=rs.length:=by omega
  rw [bK,dge (by omega),cond_false];rfl
 | succ m ih =>
  intro i k d hi hk h0 h1
  obtain ⟨k,rfl⟩:∃ k',k=k'+1:=⟨k-1,by omega⟩
  have h:i<rs.length:=by omega
  rw [bK,dlt h,cond_true,aV h,bs,kt h,kD,List.range'_succ,List.all_cons]
  rcases pq hN (rs.getD i (0,0)) with hw | ⟨hw,hw2 | ⟨hw2,hw3⟩⟩
  ·obtain ⟨k1,k2,k3,k4,k5⟩:=l8 hN hw
   obtain ⟨g,g1,g2,g3,g4⟩:=nr hN hw h0 h1
   rw [hw,k1,bs,cond_true,bs,decide_eq_false (by omega),cond_false,bs,nz,g1,bs,g2,bs,bs,g3,bs,Bool.true_and,sD]
   by_cases hc:1000<kf N d (rs.getD i (0,0))
   ·rw [decide_eq_true hc,cond_true,if_pos hc]
    cases (List.range' (i+1) m).all (fun j=>wOk N (rs.getD j (0,0))) <;> rfl
   ·rw [decide_eq_false hc,cond_false,if_neg hc,ad1 (by omega),bs,ih (i+1) k _ (by omega) (by omega) g4 (by omega)]
  ·rw [hw,hw2,bs,cond_false,Bool.false_and,cond_false]
  ·rw [hw,hw2,bs,cond_true,bs,decide_eq_true hw3,cond_true,Bool.false_and,cond_false]
theorem tp (hN:1073741824≤N) {rs:List cL} (hl:rs.length≤1048576):∀ m i k d,i+m=rs.length→m<k →
  dw N k rs d rs (rs.length:Int) (i:Int)=some (bif (List.range' i m).all (fun j=>wOk N (rs.getD j (0,0))) then .inr (rs.length:Int) else .inl ([],0)):=by
 intro m
 induction m with
 | zero =>
  intro i k d hi hk
  obtain ⟨k,rfl⟩:∃ k',k=k'+1:=⟨k-1,by omega⟩
  obtain rfl:i=rs.length:=by omega
  rw [dw,dge (by omega),cond_false];rfl
 | succ m ih =>
  intro i k d hi hk
  obtain ⟨k,rfl⟩:∃ k',k=k'+1:=⟨k-1,by omega⟩
  have h:i<rs.length:=by omega
  rw [dw,dlt h,cond_true,aV h,bs,kt h,List.range'_succ,List.all_cons]
  rcases pq hN (rs.getD i (0,0)) with hw | ⟨hw,hw2 | ⟨hw2,hw3⟩⟩
  ·obtain ⟨k1,k2,k3,k4,k5⟩:=l8 hN hw
   rw [hw,k1,bs,cond_true,decide_eq_false (by omega),cond_false,Bool.true_and,ad1 (by omega),bs,ih (i+1) k d (by omega) (by omega)]
  ·rw [hw,hw2,bs,cond_false,Bool.false_and,cond_false]
  ·rw [hw,hw2,bs,cond_true,decide_eq_true hw3,cond_true,Bool.false_and,cond_false]
theorem t6 (hN:1073741824≤N) {rs:List cL} (hl:rs.length≤1048576) (ha:∀ i,i<rs.length→wOk N (rs.getD i (0,0))=true):∀ m i k d,i+m=rs.length→m<k→0≤d→d≤1000 →
  dv N k rs d rs (rs.length:Int) (i:Int)=some (qW rs (sD N rs m i d)):=by
 intro m
 induction m with
 | zero =>
  intro i k d hi hk h0 h1
  obtain ⟨k,rfl⟩:∃ k',k=k'+1:=⟨k-1,by omega⟩
  obtain rfl:i=rs.length:=by omega
  rw [dv,dge (by omega),cond_false];rfl
 | succ m ih =>
  intro i k d hi hk h0 h1
  obtain ⟨k,rfl⟩:∃ k',k=k'+1:=⟨k-1,by omega⟩
  have h:i<rs.length:=by omega
  obtain ⟨g,g1,g2,g3,g4⟩:=nr hN (ha i h) h0 h1
  rw [dv,dlt h,cond_true,aV h,bs,kt h,g1,bs,g2,bs,g3,bs,sD]
  by_cases hc:1000<kf N d (rs.getD i (0,0))
  ·rw [decide_eq_true hc,cond_true,if_pos hc];rfl
  ·rw [decide_eq_false hc,cond_false,if_neg hc,ad1 (by omega),bs,ih (i+1) k _ (by omega) (by omega) g4 (by omega)]
def f9 (rs:List cL) (d:Int) (i:Nat):List Int:=(rs.take i).map fun r=>r.1*d.tdiv r.2
theorem px {rs:List cL} {d:Int} {i:Nat} (h:i<rs.length):f9 rs d i++[(rs.getD i (0,0)).1*d.tdiv (rs.getD i (0,0)).2]=f9 rs d (i+1):=by
 unfold f9;rw [List.take_succ_eq_append_getElem h,List.map_append,kt h];rfl
theorem ny {rs:List cL} {d:Int} {i:Nat}:(f9 rs d i).length≤rs.length:=by unfold f9;simp;omega
theorem rM (hN:1073741824≤N) {d:Int} {r:cL} (h:wOk N r=true) (h0:0≤d) (h1:d≤1000):qt d r.2=some (d.tdiv r.2)∧ml r.1 (d.tdiv r.2)=some (r.1*d.tdiv r.2):=by
 obtain ⟨_,k0,k1,k2,k3⟩:=l8 hN h
 obtain ⟨t1,t2⟩:=rG h0 (by omega:0<r.2)
 have hm:0≤r.1*d.tdiv r.2:=Int.mul_nonneg k0 t1
 have hm2:r.1*d.tdiv r.2≤1000000000*1000:=Int.mul_le_mul k1 (by omega) t1 (by omega)
 exact ⟨vh h0 (by omega) (by omega),eN (by omega) (by omega)⟩
theorem pP (hN:1073741824≤N) {rs:List cL} (hl:rs.length≤1048576) (ha:∀ i,i<rs.length→wOk N (rs.getD i (0,0))=true) {d:Int} (h0:0≤d) (h1:d≤1000) :
  cq N N rs d [] 0=some (f9 rs d rs.length,(rs.length:Int)) :=
 gW (fun k (s:List Int) i=>cq N k rs d s i) rs.length (f9 rs d) (f9 rs d rs.length,(rs.length:Int))
  (fun k i h=>by
   obtain ⟨q1,q2⟩:=rM hN (ha i h) h0 h1
   have ho:=ny (rs:=rs) (d:=d) (i:=i)
   show cq N (k+1) rs d (f9 rs d i) (i:Int)=_
   rw [cq,dlt h,cond_true,aV h,bs,bs,kt h,q1,bs,q2,bs,bz (by decide) (by simp;omega),bs,px h,ad1 (by omega),bs])
  (fun k=>by
   show cq N (k+1) rs d (f9 rs d rs.length) (rs.length:Int)=_
   rw [cq,dge (by omega),cond_false]) N 0 (by omega) (by omega)
theorem tv (hN:1073741824≤N) {rs:List cL} (hl:rs.length≤1048576) (ha:∀ i,i<rs.length→wOk N (rs.getD i (0,0))=true) {d:Int} (h0:0≤d) (h1:d≤1000) :
  cu N N d [] rs (rs.length:Int) 0=some (f9 rs d rs.length,(rs.length:Int)) :=
 gW (fun k (s:List Int) i=>cu N k d s rs (rs.length:Int) i) rs.length (f9 rs d) (f9 rs d rs.length,(rs.length:Int))
  (fun k i h=>by
   obtain ⟨q1,q2⟩:=rM hN (ha i h) h0 h1
   have ho:=ny (rs:=rs) (d:=d) (i:=i)
   show cu N (k+1) d (f9 rs d i) rs (rs.length:Int) (i:Int)=_
   rw [cu,dlt h,cond_true,aV h,bs,kt h,q1,bs,q2,bs,bz (by decide) (by simp;omega),bs,px h,ad1 (by omega),bs])
  (fun k=>by
   show cu N (k+1) d (f9 rs d rs.length) rs (rs.length:Int) (rs.length:Int)=_
   rw [cu,dge (by omega),cond_false]) N 0 (by omega) (by omega)
theorem rU (hN:1073741824≤N) {rs:List cL} (hl:rs.length≤1048576):∃ v:List Int × Int,bG N rs=some v∧dz N rs=some v∧v.1.length≤1048576:=by
 have s1:=tH hN hl rs.length 0 N 1 (by omega) (by omega) (by omega) (by omega)
 have i1:=tp hN hl rs.length 0 N 1 (by omega) (by omega)
 have s1':bK N N rs 1 0=_:=s1
 have i1':dw N N rs 1 rs (rs.length:Int) 0=_:=i1
 unfold bG dz
 rw [s1',i1',bs,bs]
 cases ha:(List.range' 0 rs.length).all (fun j=>wOk N (rs.getD j (0,0))) with
 | false=>exact ⟨([],0),by rw [cond_false,iI],by rw [cond_false,iI],Nat.zero_le _⟩
 | true =>
  have ha':∀ i,i<rs.length→wOk N (rs.getD i (0,0))=true:=fun i h=>(List.all_eq_true.1 ha) i (by simp;omega)
  have i2:=t6 hN hl ha' rs.length 0 N 1 (by omega) (by omega) (by omega) (by omega)
  have i2':dv N N rs 1 rs (rs.length:Int) 0=_:=i2
  rw [cond_true,cond_true,fQ,i2',bs]
  cases hd:sD N rs rs.length 0 1 with
  | none=>exact ⟨([],0),by unfold qW;rw [iI],by unfold qW;rw [iI],Nat.zero_le _⟩
  | some d =>
   obtain ⟨d0,d1⟩:=y9 hN ha' rs.length 0 1 d (by omega) (by omega) (by omega) hd
   unfold qW
   rw [fQ,fQ]
   simp only []
   rw [pP hN hl ha' d0 d1,tv hN hl ha' d0 d1,bs,lpB]
   exact ⟨_,rfl,rfl,by have:=ny (rs:=rs) (d:=d) (i:=rs.length);show (f9 rs d rs.length).length≤_;omega⟩
end
theorem pT {σ V:Type} (L1 L2:Nat→σ→Int→Option V) (n:Nat) (I:Nat→σ→Prop) (P:V→Prop)
  (hstep:∀ k i s,i<n→I i s→(∃ s',L1 (k+1) s (i:Int)=L1 k s' ((i+1:Nat):Int)∧L2 (k+1) s (i:Int)=L2 k s' ((i+1:Nat):Int)∧I (i+1) s')∨∃ v,L1 (k+1) s (i:Int)=some v∧L2 (k+1) s (i:Int)=some v∧P v)
  (hend:∀ k s,I n s→∃ v,L1 (k+1) s (n:Int)=some v∧L2 (k+1) s (n:Int)=some v∧P v) :
  ∀ k i s,i≤n→n-i<k→I i s→∃ v,L1 k s (i:Int)=some v∧L2 k s (i:Int)=some v∧P v:=by
 intro k
 induction k with
 | zero=>intro i s hi hk;omega
 | succ k ih =>
  intro i s hi hk hI
  by_cases h:i<n
  ·rcases hstep k i s h hI with ⟨s',e1,e2,hI'⟩ | ⟨v,e1,e2,hP⟩
   ·rw [e1,e2];exact ih (i+1) s' (by omega) (by omega) hI'
   ·exact ⟨v,e1,e2,hP⟩
  ·obtain rfl:i=n:=by omega
   exact hend k s hI
section
variable {N:Nat}
theorem zf (N:Nat):∀ (k:Nat) (x:Int) (a b:List Int),eE N k x a b=bM N k x a b:=by
 intro k
 induction k with
 | zero=>intro x a b;rw [eE,bM]
 | succ k ih=>intro x a b;rw [eE,bM];simp only [ih]
theorem lF (N:Nat) (n:Int):dC N n=cM N n:=by unfold dC cM;rw [zf]
theorem o7 {x:Int} (h0:0≤x) (h1:x≤9223372036854775807):qt x 10=some (x / 10):=by
 have e:x.tdiv 10=x / 10:=Int.tdiv_eq_ediv_of_nonneg h0
 unfold qt
 rw [if_pos ⟨by decide,by rw [e];unfold rng;simp only [Bool.and_eq_true,decide_eq_true_eq];omega⟩,e]
theorem pf (x:Int):rm x 10=some (x.tmod 10):=pW (by decide)
theorem zw:∀ (m k:Nat) (x:Int) (a b:List Int),0≤x→x≤9223372036854775807→x<10 ^ m→m<k→b.length+m≤1048576→∃ y b',bM N k x a b=some (y,b')∧b'.length≤b.length+m:=by
 intro m
 induction m with
 | zero =>
  intro k x a b h0 hm h1 hk hb
  obtain ⟨k,rfl⟩:∃ k',k=k'+1:=⟨k-1,by omega⟩
  rw [bM,decide_eq_false (by simp at h1;omega),cond_false]
  exact ⟨x,b,rfl,by omega⟩
 | succ m ih =>
  intro k x a b h0 hm h1 hk hb
  obtain ⟨k,rfl⟩:∃ k',k=k'+1:=⟨k-1,by omega⟩
  rw [bM]
  by_cases hx:0<x
  ·have hd:x / 10<10 ^ m:=by rw [Int.pow_succ] at h1;omega
   rw [decide_eq_true hx,cond_true,pf,bs,bz (by decide) (by simp;omega),bs,o7 h0 hm,bs]
   obtain ⟨y,b',e,hl⟩:=ih k (x / 10) a (b++[x.tmod 10]) (by omega) (by omega) hd (by omega) (by rw [List.length_append,List.length_singleton];omega)
   rw [List.length_append,List.length_singleton] at hl
   exact ⟨y,b',e,by omega⟩
  ·rw [decide_eq_false hx,cond_false]
   exact ⟨x,b,rfl,by omega⟩
theorem nt (hN:1073741824≤N) {n:Int} (h0:0≤n) (h1:n≤9223372036854775807):∃ b,cM N n=some b∧b.length≤19:=by
 have hp:(10:Int) ^ 19=10000000000000000000:=by decide
 obtain ⟨y,b,e,hl⟩:=zw (N:=N) 19 N n [] [] h0 h1 (by rw [hp];omega) (by omega) (by rw [List.length_nil];omega)
 refine ⟨b,?_,by rw [List.length_nil] at hl;omega⟩
 unfold cM;rw [e,bs,lpB]
def vF (xs:List Int):Option Bool :=
 bif xs.all (fun v=>inR v 0 9) then
  (bif decide ((xs.length:Int)≤60) then (bif ((xs.length:Int) == 0) then some true else (sb (xs.length:Int) 1).bind fun x=>(ix xs x).bind fun y=>some (y != 0)) else some false)
 else some false
theorem oM (hN:1073741824≤N) {xs:List Int} (hx:xs.length≤1048576):dR N xs=vF xs:=by
 have h:=qV (fun k i=>dr N k xs i) xs (fun v=>inR v 0 9) hN hx
  (fun k i h=>by
   show dr N (k+1) xs (i:Int)=_
   rw [dr,dlt h,cond_true,aV h,bs,d6,bs,ad1 (by omega),bs])
  (fun k=>by
   show dr N (k+1) xs (xs.length:Int)=_
   rw [dr,dge (by omega),cond_false])
 unfold dR vF
 rw [h,bs]
 cases xs.all fun v=>inR v 0 9 <;> rfl
theorem j9 (hN:1073741824≤N) {xs:List Int} (hx:xs.length≤1048576):dS N xs=vF xs:=by
 have h:=qV (fun k i=>dp N k xs (xs.length:Int) xs (xs.length:Int) i) xs (fun v=>inR v 0 9) hN hx
  (fun k i h=>by
   show dp N (k+1) xs (xs.length:Int) xs (xs.length:Int) (i:Int)=_
   rw [dp,dlt h,cond_true,aV h,bs,eH,bs,ad1 (by omega),bs])
  (fun k=>by
   show dp N (k+1) xs (xs.length:Int) xs (xs.length:Int) (xs.length:Int)=_
   rw [dp,dge (by omega),cond_false])
 unfold dS vF
 rw [h,bs]
 cases xs.all fun v=>inR v 0 9 <;> rfl
theorem mS {xs:List Int} (hx:xs.length≤1048576):∃ b,vF xs=some b∧(b=true→xs.length≤60∧∀ v∈xs,0≤v∧v≤9):=by
 unfold vF
 cases ha:xs.all fun v=>inR v 0 9 with
 | false=>exact ⟨false,rfl,fun h=>by cases h⟩
 | true =>
  rw [cond_true]
  have hd:∀ v∈xs,0≤v∧v≤9:=fun v hv=>cz.1 ((List.all_eq_true.1 ha) v hv)
  by_cases h60:(xs.length:Int)≤60
  ·rw [decide_eq_true h60,cond_true]
   by_cases h0:xs.length=0
   ·rw [show ((xs.length:Int) == 0)=true by simp [h0],cond_true]
    exact ⟨true,rfl,fun _=>⟨by omega,hd⟩⟩
   ·rw [show ((xs.length:Int) == 0)=false by simp;simpa using h0,cond_false,fj (by omega) (by omega),bs,show (xs.length:Int)-1=((xs.length-1:Nat):Int) by omega,aV (by omega),bs]
    exact ⟨_,rfl,fun _=>⟨by omega,hd⟩⟩
  ·rw [decide_eq_false h60,cond_false]
   exact ⟨false,rfl,fun h=>by cases h⟩
theorem zq (N:Nat):∀ (k:Nat) (a b c:List Int) (d i:Int),eO N k a b c d i=bF N k a b c d i:=by
 intro k
 induction k with
 | zero=>intro a b c d i;rw [eO,bF]
 | succ k ih=>intro a b c d i;rw [eO,bF];simp only [ih]
theorem zh {a b:List Int}:∀ (m k:Nat) (c:Int) (out:List Int) (i:Nat),a.length≤i→0≤c→c≤1000000000→c<10 ^ m→m<k→out.length+m≤1048576→i+m≤1048576→∃ o y z,bF N k a b out c (i:Int)=some (o,y,z)∧o.length≤out.length+m:=by
 intro m
 induction m with
 | zero =>
  intro k c out i hi h0 hm h1 hk hb hi2
  obtain ⟨k,rfl⟩:∃ k',k=k'+1:=⟨k-1,by omega⟩
  rw [bF,dge (by omega),cond_false,decide_eq_false (by simp at h1;omega),cond_false]
  exact ⟨out,c,_,rfl,by omega⟩
 | succ m ih =>
  intro k c out i hi h0 hm h1 hk hb hi2
  obtain ⟨k,rfl⟩:∃ k',k=k'+1:=⟨k-1,by omega⟩
  rw [bF,dge (by omega),cond_false]
  by_cases hx:0<c
  ·have hd:c / 10<10 ^ m:=by rw [Int.pow_succ] at h1;omega
   rw [decide_eq_true hx,cond_true,pf,bs,bz (by decide) (by simp;omega),bs,o7 h0 (by omega),bs,ad1 (by omega),bs]
   obtain ⟨o,y,z,e,hl⟩:=ih k (c / 10) (out++[c.tmod 10]) (i+1) (by omega) (by omega) (by omega) hd (by omega) (by rw [List.length_append,List.length_singleton];omega) (by omega)
   rw [List.length_append,List.length_singleton] at hl
   exact ⟨o,y,z,e,by omega⟩
  ·rw [decide_eq_false hx,cond_false]
   exact ⟨out,c,_,rfl,by omega⟩
theorem zo {a b:List Int} (ha:a.length≤1000) (hv:∀ v∈a,0≤v∧v≤1000000):∀ (m k:Nat) (c:Int) (out:List Int) (i:Nat),i+m=a.length→0≤c→c≤1000000→m+20<k→out.length≤i→∃ o y z,bF N k a b out c (i:Int)=some (o,y,z)∧o.length≤2000:=by
 intro m
 induction m with
 | zero =>
  intro k c out i hi h0 h1 hk hb
  have hp:(10:Int) ^ 7=10000000:=by decide
  obtain ⟨o,y,z,e,hl⟩:=zh (N:=N) (a:=a) (b:=b) 7 k c out i (by omega) h0 (by omega) (by rw [hp];omega) (by omega) (by omega) (by omega)
  exact ⟨o,y,z,e,by omega⟩
 | succ m ih =>
  intro k c out i hi h0 h1 hk hb
  obtain ⟨k,rfl⟩:∃ k',k=k'+1:=⟨k-1,by omega⟩
  have h:i<a.length:=by omega
  have hx:=hv _ (List.getElem_mem h)
  rw [bF,dlt h,cond_true,aV h,bs,bE (by omega) (by omega),bs,pf,bs,bz (by decide) (by simp;omega),bs,o7 (by omega) (by omega),bs,ad1 (by omega),bs]
  exact ih k _ _ (i+1) (by omega) (by omega) (by omega) (by omega) (by rw [List.length_append,List.length_singleton];omega)
def dM (xs:List Int):Nat→Nat
 | 0=>0
 | m+1=>if xs.getD m 0=0 then dM xs m else m+1
theorem mr (xs:List Int):∀ m,dM xs m≤m
 | 0=>Nat.le_refl _
 | m+1=>by
  have:=mr xs m
  unfold dM;split <;> omega
theorem tW {b xs:List Int} (hx:xs.length≤1048576):∀ m k,m≤xs.length→m<k→fZ N k b xs (m:Int)=some ((dM xs m:Nat):Int):=by
 intro m
 induction m with
 | zero =>
  intro k hm hk
  obtain ⟨k,rfl⟩:∃ k',k=k'+1:=⟨k-1,by omega⟩
  rw [fZ,decide_eq_false (by omega),cond_false];rfl
 | succ m ih =>
  intro k hm hk
  obtain ⟨k,rfl⟩:∃ k',k=k'+1:=⟨k-1,by omega⟩
  have h:m<xs.length:=by omega
  rw [fZ,decide_eq_true (by omega),cond_true,fj (by omega) (by omega),bs,show ((m+1:Nat):Int)-1=(m:Int) by omega,aV h,bs,dM,eJ h]
  by_cases e:xs[m]=0
  ·rw [show (xs[m] == 0)=true by simpa using e,cond_true,if_pos e,bs,ih k (by omega) (by omega)]
  ·rw [show (xs[m] == 0)=false by simpa using e,cond_false,if_neg e]
theorem w9 {b xs:List Int} (hx:xs.length≤1048576):∀ m k,m≤xs.length→m<k→f5 N k b (xs.take m)=some (xs.take (dM xs m)):=by
 intro m
 induction m with
 | zero =>
  intro k hm hk
  obtain ⟨k,rfl⟩:∃ k',k=k'+1:=⟨k-1,by omega⟩
  rw [f5,decide_eq_false (by simp),cond_false];rfl
 | succ m ih =>
  intro k hm hk
  obtain ⟨k,rfl⟩:∃ k',k=k'+1:=⟨k-1,by omega⟩
  have h:m<xs.length:=by omega
  have hl:(xs.take (m+1)).length=m+1:=by rw [List.length_take];omega
  have hg:(xs.take (m+1))[m]'(by omega)=xs[m]:=List.getElem_take
  rw [f5,hl,decide_eq_true (by omega),cond_true,fj (by omega) (by omega),bs,show ((m+1:Nat):Int)-1=(m:Int) by omega,aV (by omega),bs,dM,eJ h,hg]
  by_cases e:xs[m]=0
  ·rw [show (xs[m] == 0)=true by simpa using e,cond_true,if_pos e,bs,show (0:Int)=((0:Nat):Int) from rfl,mv (Nat.zero_le _) (by omega),bs,List.drop_zero,List.take_take,Nat.min_eq_left (by omega),ih k (by omega) (by omega)]
  ·rw [show (xs[m] == 0)=false by simpa using e,cond_false,if_neg e]
theorem rZ (hN:1073741824≤N) {a:List Int} (ha:a.length≤1000) (hv:∀ v∈a,0≤v∧v≤1000000):∃ r:List Int × Bool,gv N a=some r∧eU N a=some r∧r.1.length≤60:=by
 obtain ⟨o,y,z,e,hl⟩:=zo (N:=N) (b:=[]) ha hv a.length N 0 [] 0 (by omega) (by omega) (by omega) (by omega) (by simp)
 have e':bF N N a [] [] 0 0=_:=e
 have es:eO N N a [] [] 0 0=_:=(zq N N a [] [] 0 0).trans e'
 have s1:=tW (N:=N) (b:=[]) (xs:=o) (by omega) o.length N (Nat.le_refl _) (by omega)
 have s2:=w9 (N:=N) (b:=[]) (xs:=o) (by omega) o.length N (Nat.le_refl _) (by omega)
 rw [List.take_length] at s2
 have hle:=mr o o.length
 have hlen:(o.take (dM o o.length)).length=dM o o.length:=by rw [List.length_take];omega
 have hS:gv N a=bif decide (60<((dM o o.length:Nat):Int)) then some ([],false) else some (o.take (dM o o.length),true):=by
  unfold gv
  rw [es,bs,lpB]
  simp only []
  rw [s2,bs,lpB,hlen]
 have hI:eU N a=bif decide (60<((dM o o.length:Nat):Int)) then some ([],false) else some (o.take (dM o o.length),true):=by
  unfold eU
  rw [e',bs,lpB]
  simp only []
  rw [s1,bs,lpB,show (0:Int)=((0:Nat):Int) from rfl,mv (Nat.zero_le _) (by omega),bs,List.drop_zero]
 rw [hS,hI]
 by_cases h:60<((dM o o.length:Nat):Int)
 ·rw [decide_eq_true h,cond_true];exact ⟨_,rfl,rfl,Nat.zero_le _⟩
 ·rw [decide_eq_false h,cond_false];exact ⟨_,rfl,rfl,by show (o.take (dM o o.length)).length≤60;omega⟩
theorem adN {i j:Nat} (h:i+j≤1000000):ad (i:Int) (j:Int)=some ((i+j:Nat):Int):=by rw [bE (by omega) (by omega)];congr 1
theorem rn {x y:Int} (hx:0≤x∧x≤9) (hy:0≤y∧y≤9):0≤x*y∧x*y≤81:=⟨Int.mul_nonneg hx.1 hy.1,Int.mul_le_mul hx.2 hy.2 hy.1 (by omega)⟩
theorem w6 (hN:1073741824≤N) {a b:List Int} (ha:a.length≤60) (hb:b.length≤60) (da:∀ v∈a,0≤v∧v≤9) (db:∀ v∈b,0≤v∧v≤9) {i:Nat} (hi:i<a.length) {C:Int} (hC:C≤500000) {l:List Int} (hl:l.length=a.length+b.length) (hv:∀ v∈l,0≤v∧v≤C) :
  ∃ v:List Int × Int,dK N N a b [] l (i:Int) 0=some v∧ci N N b [] l (i:Int) a[i] a (a.length:Int) (i:Int) b (b.length:Int) 0=some v∧(v.1.length=a.length+b.length∧∀ x∈v.1,0≤x∧x≤C+4860):=by
 have hai:=da _ (List.getElem_mem hi)
 exact pT (fun k (s:List Int) j=>dK N k a b [] s (i:Int) j) (fun k (s:List Int) j=>ci N k b [] s (i:Int) a[i] a (a.length:Int) (i:Int) b (b.length:Int) j) b.length
  (fun j s=>s.length=a.length+b.length∧∀ x∈s,0≤x∧x≤C+81*(j:Int)) (fun v=>v.1.length=a.length+b.length∧∀ x∈v.1,0≤x∧x≤C+4860)
  (fun k j s hj hI=>by
   obtain ⟨h1,h2⟩:=hI
   have hbj:=db _ (List.getElem_mem hj)
   obtain ⟨m1,m2⟩:=rn hai hbj
   have hij:i+j<s.length:=by omega
   have hs:=h2 _ (List.getElem_mem hij)
   refine .inl ⟨s.set (i+j) (s[i+j]+a[i]*b[j]),?_,?_,by simpa using h1,fun x hx=>?_⟩
   ·show dK N (k+1) a b [] s (i:Int) (j:Int)=_
    rw [dK,dlt hj,cond_true,adN (by omega),bs,bs,aV hij,bs,aV hi,bs,aV hj,bs,eN (by omega) (by omega),bs,bE (by omega) (by omega),bs,bs,kr hij,bs,ad1 (by omega),bs]
   ·show ci N (k+1) b [] s (i:Int) a[i] a (a.length:Int) (i:Int) b (b.length:Int) (j:Int)=_
    rw [ci,dlt hj,cond_true,aV hj,bs,adN (by omega),bs,aV hij,bs,eN (by omega) (by omega),bs,bE (by omega) (by omega),bs,bs,kr hij,bs,ad1 (by omega),bs]
   ·rcases List.mem_or_eq_of_mem_set hx with hx | rfl
    ·have:=h2 x hx;omega
    ·omega)
  (fun k s hI=>by
   obtain ⟨h1,h2⟩:=hI
   refine ⟨(s,(b.length:Int)),?_,?_,h1,fun x hx=>by have:=h2 x hx;omega⟩
   ·show dK N (k+1) a b [] s (i:Int) (b.length:Int)=_
    rw [dK,dge (by omega),cond_false]
   ·show ci N (k+1) b [] s (i:Int) a[i] a (a.length:Int) (i:Int) b (b.length:Int) (b.length:Int)=_
    rw [ci,dge (by omega),cond_false]) N 0 l (by omega) (by omega) ⟨hl,fun x hx=>by have:=hv x hx;omega⟩
theorem vL (hN:1073741824≤N) {a b:List Int} (ha:a.length≤60) (hb:b.length≤60) (da:∀ v∈a,0≤v∧v≤9) (db:∀ v∈b,0≤v∧v≤9) {l:List Int} (hl:l.length=a.length+b.length) (hv:∀ v∈l,0≤v∧v≤0) :
  ∃ v:List Int × Int,dL N N a b [] l 0=some v∧cj N N b [] l a (a.length:Int) 0=some v∧(v.1.length=a.length+b.length∧∀ x∈v.1,0≤x∧x≤500000) :=
 pT (fun k (s:List Int) i=>dL N k a b [] s i) (fun k (s:List Int) i=>cj N k b [] s a (a.length:Int) i) a.length
  (fun i s=>s.length=a.length+b.length∧∀ x∈s,0≤x∧x≤4860*(i:Int)) (fun v=>v.1.length=a.length+b.length∧∀ x∈v.1,0≤x∧x≤500000)
  (fun k i s hi hI=>by
   obtain ⟨h1,h2⟩:=hI
   obtain ⟨⟨v,z⟩,e1,e2,h3,h4⟩:=w6 (N:=N) hN ha hb da db hi (C:=4860*(i:Int)) (by omega) h1 h2
   refine .inl ⟨v,?_,?_,h3,fun x hx=>by have:=h4 x hx;omega⟩
   ·show dL N (k+1) a b [] s (i:Int)=_
    rw [dL,dlt hi,cond_true,e1,bs,lpB,ad1 (by omega)];rfl
   ·show cj N (k+1) b [] s a (a.length:Int) (i:Int)=_
    rw [cj,dlt hi,cond_true,aV hi,bs,e2,bs,lpB,ad1 (by omega)];rfl)
  (fun k s hI=>by
   obtain ⟨h1,h2⟩:=hI
   refine ⟨(s,(a.length:Int)),?_,?_,h1,fun x hx=>by have:=h2 x hx;omega⟩
   ·show dL N (k+1) a b [] s (a.length:Int)=_
    rw [dL,dge (by omega),cond_false]
   ·show cj N (k+1) b [] s a (a.length:Int) (a.length:Int)=_
    rw [cj,dge (by omega),cond_false]) N 0 l (by omega) (by omega) ⟨hl,fun x hx=>by have:=hv x hx;omega⟩
theorem lK (hN:1073741824≤N) {a b:List Int} (ha:a.length≤1048576) (hb:b.length≤1048576):∃ r:List Int × Bool,fc N a b=some r∧d9 N a b=some r∧r.1.length≤60:=by
 unfold fc d9
 rw [oM hN ha,j9 hN ha,oM hN hb,j9 hN hb]
 obtain ⟨x,ex,hx⟩:=mS ha
 obtain ⟨y,ey,hy⟩:=mS hb
 rw [ex,ey]
 cases x with
 | false=>exact ⟨([],false),rfl,rfl,Nat.zero_le _⟩
 | true =>
  cases y with
  | false=>exact ⟨([],false),rfl,rfl,Nat.zero_le _⟩
  | true =>
   obtain ⟨a1,a2⟩:=hx rfl
   obtain ⟨b1,b2⟩:=hy rfl
   obtain ⟨⟨v,z⟩,e1,e2,h3,h4⟩:=vL (N:=N) hN a1 b1 a2 b2 (l:=List.replicate (a.length+b.length) 0) (by simp) (fun v hv=>by rw [List.eq_of_mem_replicate hv];omega)
   obtain ⟨r,f1,f2,f3⟩:=rZ (N:=N) hN (a:=v) (by have h3':v.length=_:=h3;omega) (fun z hz=>by have:=h4 z hz;omega)
   refine ⟨r,?_,?_,f3⟩
   ·show (ad (a.length:Int) (b.length:Int)).bind _=_
    rw [adN (by omega),bs,nK (by decide) (by omega),bs,e1,bs,lpB]
    show (gv N v).bind _=_
    rw [f1,bs]
   ·show (ad (a.length:Int) (b.length:Int)).bind _=_
    rw [adN (by omega),bs,nK (by decide) (by omega),bs,e2,bs,lpB]
    show (eU N v).bind _=_
    rw [f2,bs]
end
def zA (s:Sum (List Int × Bool) (List Int × Int)):Prop:=match s with | .inl q=>q.1.length≤1048576 | .inr v=>v.1.length≤1048576
section
variable {N:Nat}
theorem nk (hN:1073741824≤N) {n k:Int} (h1:n≤9223372036854775807):∃ r:List Int × Bool,d7 N n k=some r∧d5 N n k=some r∧r.1.length≤1048576∧(n<0→r.2=false)∧(100<k→r.2=false):=by
 unfold d7 d5
 by_cases h0:n<0
 ·rw [decide_eq_true h0,cond_true,cond_true];exact ⟨_,rfl,rfl,Nat.zero_le _,fun _=>rfl,fun _=>rfl⟩
 rw [decide_eq_false h0,cond_false,cond_false,d6,eH]
 cases hk:inR k 0 100 with
 | false=>exact ⟨([],false),rfl,rfl,Nat.zero_le _,fun _=>rfl,fun _=>rfl⟩
 | true =>
  have hk':=cz.1 hk
  obtain ⟨m,rfl⟩:=Int.eq_ofNat_of_zero_le hk'.1
  obtain ⟨o,eo,ho⟩:=nt (N:=N) hN (n:=1) (by omega) (by omega)
  obtain ⟨c,ec,hc⟩:=nt (N:=N) hN (n:=n) (by omega) h1
  obtain ⟨s,e1,e2,hs⟩:=pT (fun f (s:List Int) i=>cB N f n (m:Int) [] s i) (fun f (s:List Int) i=>bC N f n (m:Int) [] s i) m (fun _ s=>s.length≤1048576) zA
   (fun f i s hi hI=>by
    obtain ⟨r,m1,m2,hr⟩:=lK (N:=N) hN hI (b:=c) (by omega)
    cases hb:r.2 with
    | true =>
     refine .inl ⟨r.1,?_,?_,by omega⟩
     ·show cB N (f+1) n (m:Int) [] s (i:Int)=_
      rw [cB,dlt hi,cond_true,lF,ec,bs,m1,bs,hb,cond_true,ad1 (by omega),bs]
     ·show bC N (f+1) n (m:Int) [] s (i:Int)=_
      rw [bC,dlt hi,cond_true,ec,bs,m2,bs,hb,cond_true,ad1 (by omega),bs]
    | false =>
     refine .inr ⟨.inl ([],false),?_,?_,Nat.zero_le _⟩
     ·show cB N (f+1) n (m:Int) [] s (i:Int)=_
      rw [cB,dlt hi,cond_true,lF,ec,bs,m1,bs,hb,cond_false]
     ·show bC N (f+1) n (m:Int) [] s (i:Int)=_
      rw [bC,dlt hi,cond_true,ec,bs,m2,bs,hb,cond_false])
   (fun f s hI=>by
    refine ⟨.inr (s,(m:Int)),?_,?_,hI⟩
    ·show cB N (f+1) n (m:Int) [] s (m:Int)=_
     rw [cB,dge (by omega),cond_false]
    ·show bC N (f+1) n (m:Int) [] s (m:Int)=_
     rw [bC,dge (by omega),cond_false]) N 0 o (by omega) (by omega) (by omega)
  have e1':cB N N n (m:Int) [] o 0=_:=e1
  have e2':bC N N n (m:Int) [] o 0=_:=e2
  rw [bs,bs,cond_true,cond_true,lF,eo,bs,bs,e1',e2',bs]
  cases s with
  | inl q=>exact ⟨q,rfl,rfl,hs,fun h=>absurd h h0,fun h=>by omega⟩
  | inr v=>exact ⟨(v.1,true),rfl,rfl,hs,fun h=>absurd h h0,fun h=>by omega⟩
def zB (xs:List Int) (s:Sum (List Int × Bool) (List Int × Int)):Prop:=match s with | .inl q=>q.1.length≤1048576∧q.2=false | .inr v=>v.1.length≤1048576∧∀ x∈xs,0≤x
theorem tQ (hN:1073741824≤N) {xs ks:List Int} (hx:xs.length≤1048576) (hr:∀ v∈xs,v≤9223372036854775807):∃ r:List Int × Bool,bQ N xs ks=some r∧dB N xs ks=some r∧r.1.length≤1048576∧(r.2=true→∀ x∈xs,0≤x):=by
 unfold bQ dB
 by_cases hl:xs.length=ks.length
 ·obtain ⟨o,eo,ho⟩:=nt (N:=N) hN (n:=1) (by omega) (by omega)
  obtain ⟨s,e1,e2,hs⟩:=pT (fun f (s:List Int) i=>aS N f xs ks [] s i) (fun f (s:List Int) i=>bA N f xs ks [] s (xs.length:Int) i) xs.length (fun i s=>s.length≤1048576∧∀ x∈xs.take i,0≤x) (zB xs)
   (fun f i s hi hI=>by
    obtain ⟨hI1,hI2⟩:=hI
    have hi2:i<ks.length:=by omega
    obtain ⟨p,p1,p2,hp,hp2,_⟩:=nk (N:=N) hN (n:=xs[i]) (k:=ks[i]) (hr _ (List.getElem_mem hi))
    obtain ⟨r,m1,m2,hr⟩:=lK (N:=N) hN hI1 (b:=p.1) hp
    cases hb:p.2 with
    | true =>
     cases hc:r.2 with
     | true =>
      refine .inl ⟨r.1,?_,?_,by omega,fun x hx=>?_⟩
      ·show aS N (f+1) xs ks [] s (i:Int)=_
       rw [aS,dlt hi,cond_true,aV hi,bs,aV hi2,bs,p1,bs,m1,bs,hb,cond_true,hc,cond_true,ad1 (by omega),bs]
      ·show bA N (f+1) xs ks [] s (xs.length:Int) (i:Int)=_
       rw [bA,dlt hi,cond_true,aV hi,bs,aV hi2,bs,p2,bs,m2,bs,hb,cond_true,hc,cond_true,ad1 (by omega),bs]
      ·rw [List.take_succ_eq_append_getElem hi] at hx
       rcases List.mem_append.1 hx with hx | hx
       ·exact hI2 x hx
       ·simp only [List.mem_singleton] at hx
        subst hx
        by_cases hneg:xs[i]<0
        ·rw [hp2 hneg] at hb;cases hb
        ·omega
     | false =>
      refine .inr ⟨.inl ([],false),?_,?_,Nat.zero_le _,rfl⟩
      ·show aS N (f+1) xs ks [] s (i:Int)=_
       rw [aS,dlt hi,cond_true,aV hi,bs,aV hi2,bs,p1,bs,m1,bs,hb,cond_true,hc,cond_false]
      ·show bA N (f+1) xs ks [] s (xs.length:Int) (i:Int)=_
       rw [bA,dlt hi,cond_true,aV hi,bs,aV hi2,bs,p2,bs,m2,bs,hb,cond_true,hc,cond_false]
    | false =>
     refine .inr ⟨.inl ([],false),?_,?_,Nat.zero_le _,rfl⟩
     ·show aS N (f+1) xs ks [] s (i:Int)=_
      rw [aS,dlt hi,cond_true,aV hi,bs,aV hi2,bs,p1,bs,m1,bs,hb,cond_false]
     ·show bA N (f+1) xs ks [] s (xs.length:Int) (i:Int)=_
      rw [bA,dlt hi,cond_true,aV hi,bs,aV hi2,bs,p2,bs,m2,bs,hb,cond_false])
   (fun f s hI=>by
    obtain ⟨hI1,hI2⟩:=hI
    rw [List.take_length] at hI2
    refine ⟨.inr (s,(xs.length:Int)),?_,?_,hI1,hI2⟩
    ·show aS N (f+1) xs ks [] s (xs.length:Int)=_
     rw [aS,dge (by omega),cond_false]
    ·show bA N (f+1) xs ks [] s (xs.length:Int) (xs.length:Int)=_
     rw [bA,dge (by omega),cond_false]) N 0 o (by omega) (by omega) ⟨by omega,fun x hx=>by simp at hx⟩
  have e1':aS N N xs ks [] o 0=_:=e1
  have e2':bA N N xs ks [] o (xs.length:Int) 0=_:=e2
  rw [show ((xs.length:Int) != (ks.length:Int))=false by simp [hl],cond_false,cond_false,lF,eo,bs,bs,e1',e2',bs]
  cases s with
  | inl q =>
   obtain ⟨h1,h2⟩:=hs
   exact ⟨q,rfl,rfl,h1,fun h=>by rw [h2] at h;cases h⟩
  | inr v =>
   obtain ⟨h1,h2⟩:=hs
   exact ⟨(v.1,true),rfl,rfl,h1,fun _=>h2⟩
 ·rw [show ((xs.length:Int) != (ks.length:Int))=true by simp;omega,cond_true,cond_true]
  exact ⟨_,rfl,rfl,Nat.zero_le _,fun h=>by cases h⟩
theorem xW {a b:List Int} (hl:a.length=b.length) (ha:a.length≤1048576):∀ m k,m≤a.length→m<k→∃ s:Sum Int Int,ef N k a b ((m:Int)-1)=some s∧bY N k a b ((m:Int)-1)=some s:=by
 intro m
 induction m with
 | zero =>
  intro k hm hk
  obtain ⟨k,rfl⟩:∃ k',k=k'+1:=⟨k-1,by omega⟩
  rw [ef,bY,decide_eq_false (by omega),cond_false,cond_false]
  exact ⟨_,rfl,rfl⟩
 | succ m ih =>
  intro k hm hk
  obtain ⟨k,rfl⟩:∃ k',k=k'+1:=⟨k-1,by omega⟩
  have h1:m<a.length:=by omega
  have h2:m<b.length:=by omega
  have hm1:((m+1:Nat):Int)-1=(m:Int):=by omega
  obtain ⟨s,e1,e2⟩:=ih k (by omega) (by omega)
  rw [hm1,ef,bY,decide_eq_true (by omega),cond_true,cond_true,aV h1,aV h2]
  simp only [bs]
  rw [fj (by omega) (by omega)]
  simp only [bs,ii]
  rcases Int.lt_trichotomy a[m] b[m] with h | h | h
  ·rw [decide_eq_true h,cond_true,show (a[m] != b[m])=true by simp;omega,cond_true,mc,if_pos h]
   exact ⟨_,rfl,rfl⟩
  ·rw [decide_eq_false (by omega),cond_false,decide_eq_false (by omega),cond_false,show (a[m] != b[m])=false by simp [h],cond_false]
   exact ⟨s,e1,e2⟩
  ·rw [decide_eq_false (by omega),cond_false,decide_eq_true h,cond_true,show (a[m] != b[m])=true by simp;omega,cond_true,mc,if_neg (by omega),if_pos h]
   exact ⟨_,rfl,rfl⟩
theorem l5 (hN:1073741824≤N) {a b:List Int} (ha:a.length≤1048576) (hb:b.length≤1048576):∃ c,dn N a b=some c∧cQ N a b=some c:=by
 unfold dn cQ
 rw [oM hN ha,j9 hN ha,oM hN hb,j9 hN hb]
 obtain ⟨x,ex,_⟩:=mS ha
 obtain ⟨y,ey,_⟩:=mS hb
 rw [ex,ey]
 cases x with
 | false=>exact ⟨0,rfl,rfl⟩
 | true =>
  cases y with
  | false=>exact ⟨0,rfl,rfl⟩
  | true =>
   simp only [bs,cond_true,ii]
   by_cases hl:a.length=b.length
   ·obtain ⟨s,e1,e2⟩:=xW (N:=N) hl ha a.length N (Nat.le_refl _) (by omega)
    rw [show ((a.length:Int) != (b.length:Int))=false by simp [hl],cond_false,cond_false,fj (by omega) (by omega)]
    simp only [bs]
    rw [e1,e2,bs]
    cases s with
    | inl q=>exact ⟨q,rfl,rfl⟩
    | inr v=>exact ⟨0,rfl,rfl⟩
   ·rw [show ((a.length:Int) != (b.length:Int))=true by simp;omega,cond_true,cond_true]
    unfold mc
    by_cases h:(a.length:Int)<(b.length:Int)
    ·rw [decide_eq_true h,cond_true,if_pos h];exact ⟨_,rfl,rfl⟩
    ·rw [decide_eq_false h,cond_false,if_neg h,if_pos (by omega)];exact ⟨_,rfl,rfl⟩
end
def vB:List Int→Int
 | []=>0
 | x :: xs=>x+10*vB xs
theorem p10 (n:Nat):(10:Int) ^ (n+1)=10*10 ^ n:=by rw [Int.pow_succ,Int.mul_comm]
theorem ph:∀ n:Nat,(0:Int)<10 ^ n
 | 0=>by decide
 | n+1=>by rw [p10];have:=ph n;omega
theorem lZ {m n:Nat} (h:m≤n):(10:Int) ^ m≤10 ^ n:=by
 induction n with
 | zero =>
  have:m=0:=by omega
  subst this;exact Int.le_refl _
 | succ n ih =>
  by_cases e:m=n+1
  ·subst e;exact Int.le_refl _
  ·have:=ih (by omega)
   have:=ph n
   rw [p10];omega
theorem nU:∀ a b:List Int,vB (a++b)=vB a+10 ^ a.length*vB b
 | [],b=>by show vB b=0+10 ^ 0*vB b;rw [show (10:Int) ^ 0=1 from rfl];omega
 | x :: a,b=>by
  show x+10*vB (a++b)=x+10*vB a+10 ^ (a.length+1)*vB b
  rw [nU a b,p10,Int.mul_add,Int.mul_assoc];omega
theorem sM:∀ (s:List Int) (k:Nat) (h:k<s.length) (c:Int),vB (s.set k (s[k]+c))=vB s+c*10 ^ k
 | [],k,h,_=>by simp at h
 | x :: s,0,_,c=>by show x+c+10*vB s=x+10*vB s+c*10 ^ 0;rw [show (10:Int) ^ 0=1 from rfl];omega
 | x :: s,k+1,h,c=>by
  have hk:k<s.length:=by simpa using h
  have:=sM s k hk c
  show x+10*vB (s.set k (s[k]+c))=x+10*vB s+c*10 ^ (k+1)
  rw [this,p10,Int.mul_add]
  have e:c*(10*10 ^ k)=10*(c*(10:Int) ^ k):=by ac_rfl
  rw [e];omega
def jo (xs:List Int):Prop:=∀ v∈xs,0≤v∧v≤9
def Cn (xs:List Int):Prop:=jo xs∧(xs=[]∨xs.getD (xs.length-1) 0≠0)
theorem sq:∀ {xs:List Int},jo xs→0≤vB xs
 | [],_=>Int.le_refl _
 | x :: xs,h=>by
  have h1:=h x List.mem_cons_self
  have:=sq (xs:=xs) fun v hv=>h v (List.mem_cons_of_mem _ hv)
  show 0≤x+10*vB xs;omega
theorem mV:∀ {xs:List Int},jo xs→vB xs<10 ^ xs.length
 | [],_=>by decide
 | x :: xs,h=>by
  have h1:=h x List.mem_cons_self
  have:=mV (xs:=xs) fun v hv=>h v (List.mem_cons_of_mem _ hv)
  show x+10*vB xs<10 ^ (xs.length+1);rw [p10];omega
theorem vj:∀ {xs:List Int},jo xs→xs≠[]→xs.getD (xs.length-1) 0≠0→10 ^ (xs.length-1)≤vB xs
 | [],_,h,_=>absurd rfl h
 | [x],h,_,h2=>by
  have h1:=h x List.mem_cons_self
  have:x≠0:=by simpa using h2
  show (10:Int) ^ 0≤x+10*0
  rw [show (10:Int) ^ 0=1 from rfl];omega
 | x :: y :: xs,h,_,h2=>by
  have h1:=h x List.mem_cons_self
  have:=vj (xs:=y :: xs) (fun v hv=>h v (List.mem_cons_of_mem _ hv)) (by simp) (by simpa using h2)
  simp only [List.length_cons,Nat.add_sub_cancel] at this ⊢
  show (10:Int) ^ (xs.length+1)≤x+10*vB (y :: xs)
  rw [p10];omega
theorem Cn.ge {xs:List Int} (h:Cn xs) (hn:xs≠[]):10 ^ (xs.length-1)≤vB xs:=by
 rcases h.2 with e | e
 ·exact absurd e hn
 ·exact vj h.1 hn e
theorem Cn.len {xs:List Int} (h:Cn xs) {n:Nat} (hv:vB xs<10 ^ n):xs.length≤n:=by
 by_cases hn:xs=[]
 ·subst hn;exact Nat.zero_le _
 ·have:=h.ge hn
  by_cases hl:xs.length≤n
  ·exact hl
  ·have:=lZ (show n≤xs.length-1 by omega)
   omega
section
variable {N:Nat}
theorem mM {xs:List Int} (h:Cn xs) (hl:xs.length≤60):vF xs=some true:=by
 unfold vF
 have h1:xs.all (fun v=>inR v 0 9)=true:=List.all_eq_true.2 fun v hv=>cz.2 (h.1 v hv)
 rw [h1,cond_true,decide_eq_true (by omega),cond_true]
 by_cases h0:xs.length=0
 ·rw [show ((xs.length:Int) == 0)=true by simp [h0],cond_true]
 ·rw [show ((xs.length:Int) == 0)=false by simp;simpa using h0,cond_false,fj (by omega) (by omega),bs,show (xs.length:Int)-1=((xs.length-1:Nat):Int) by omega,aV (by omega),bs]
  rcases h.2 with e | e
  ·rw [e] at h0;simp at h0
  ·rw [eJ (by omega)] at e
   simp [e]
theorem nA {x:Int} (h:0≤x):x.tmod 10=x % 10:=Int.tmod_eq_emod_of_nonneg h
theorem zt:∀ (m k:Nat) (x:Int) (a b:List Int),0≤x→x≤9223372036854775807→x<10 ^ m→m<k→b.length+m≤1048576→∃ y ds,bM N k x a b=some (y,b++ds)∧vB ds=x∧jo ds∧ds.length≤m∧(x=0→ds=[])∧(0<x→ds≠[]∧ds.getD (ds.length-1) 0≠0):=by
 intro m
 induction m with
 | zero =>
  intro k x a b h0 hm h1 hk hb
  obtain ⟨k,rfl⟩:∃ k',k=k'+1:=⟨k-1,by omega⟩
  have hx:x=0:=by simp at h1;omega
  rw [bM,decide_eq_false (by omega),cond_false]
  exact ⟨x,[],by simp,hx.symm,by intro v hv;simp at hv,by simp,fun _=>rfl,fun h=>by omega⟩
 | succ m ih =>
  intro k x a b h0 hm h1 hk hb
  obtain ⟨k,rfl⟩:∃ k',k=k'+1:=⟨k-1,by omega⟩
  rw [bM]
  by_cases hx:0<x
  ·have hd:x / 10<10 ^ m:=by rw [Int.pow_succ] at h1;omega
   rw [decide_eq_true hx,cond_true,pf,bs,bz (by decide) (by simp;omega),bs,o7 h0 hm,bs]
   obtain ⟨y,ds,e,v1,v2,v3,v4,v5⟩:=ih k (x / 10) a (b++[x.tmod 10]) (by omega) (by omega) hd (by omega) (by rw [List.length_append,List.length_singleton];omega)
   refine ⟨y,x.tmod 10 :: ds,by rw [e,List.append_assoc];rfl,?_,?_,by simp;omega,fun h=>by omega,fun _=>⟨by simp,?_⟩⟩
   ·show x.tmod 10+10*vB ds=x
    rw [v1,nA h0];omega
   ·intro v hv
    rcases List.mem_cons.1 hv with rfl | hv
    ·rw [nA h0];omega
    ·exact v2 v hv
   ·by_cases hq:0<x / 10
    ·obtain ⟨w1,w2⟩:=v5 hq
     obtain ⟨d,t,rfl⟩:=List.exists_cons_of_ne_nil w1
     simpa using w2
    ·have:=v4 (by omega)
     subst this
     rw [nA h0]
     show x % 10≠0
     omega
  ·have hx0:x=0:=by omega
   rw [decide_eq_false hx,cond_false]
   exact ⟨x,[],by simp,hx0.symm,by intro v hv;simp at hv,by simp,fun _=>rfl,fun h=>by omega⟩
theorem rF (hN:1073741824≤N) {n:Int} (h0:0≤n) (h1:n≤9223372036854775807):∃ b,cM N n=some b∧b.length≤19∧vB b=n∧Cn b:=by
 have hp:(10:Int) ^ 19=10000000000000000000:=by decide
 obtain ⟨y,b,e,v1,v2,v3,v4,v5⟩:=zt (N:=N) 19 N n [] [] h0 h1 (by rw [hp];omega) (by omega) (by rw [List.length_nil];omega)
 refine ⟨b,?_,v3,v1,v2,?_⟩
 ·unfold cM;rw [e,bs,lpB];rfl
 ·by_cases h:0<n
  ·exact .inr (v5 h).2
  ·exact .inl (v4 (by omega))
theorem y3 {a b:List Int}:∀ (m k:Nat) (c:Int) (out:List Int) (i:Nat),a.length≤i→0≤c→c≤1000000000→c<10 ^ m→m<k→out.length+m≤1048576→i+m≤1048576→∃ ds y z,bF N k a b out c (i:Int)=some (out++ds,y,z)∧ds.length≤m∧vB ds=c∧jo ds:=by
 intro m
 induction m with
 | zero =>
  intro k c out i hi h0 hm h1 hk hb hi2
  obtain ⟨k,rfl⟩:∃ k',k=k'+1:=⟨k-1,by omega⟩
  have hc:c=0:=by simp at h1;omega
  rw [bF,dge (by omega),cond_false,decide_eq_false (by omega),cond_false]
  exact ⟨[],c,_,by rw [List.append_nil],by simp,hc.symm,by intro v hv;simp at hv⟩
 | succ m ih =>
  intro k c out i hi h0 hm h1 hk hb hi2
  obtain ⟨k,rfl⟩:∃ k',k=k'+1:=⟨k-1,by omega⟩
  rw [bF,dge (by omega),cond_false]
  by_cases hx:0<c
  ·have hd:c / 10<10 ^ m:=by rw [Int.pow_succ] at h1;omega
   rw [decide_eq_true hx,cond_true,pf,bs,bz (by decide) (by simp;omega),bs,o7 h0 (by omega),bs,ad1 (by omega),bs]
   obtain ⟨ds,y,z,e,hl,hv,hd2⟩:=ih k (c / 10) (out++[c.tmod 10]) (i+1) (by omega) (by omega) (by omega) hd (by omega) (by rw [List.length_append,List.length_singleton];omega) (by omega)
   refine ⟨c.tmod 10 :: ds,y,z,by rw [e,List.append_assoc];rfl,by simp;omega,?_,?_⟩
   ·show c.tmod 10+10*vB ds=c
    rw [hv,nA h0];omega
   ·intro v hv
    rcases List.mem_cons.1 hv with rfl | hv
    ·rw [nA h0];omega
    ·exact hd2 v hv
  ·have hc:c=0:=by omega
   rw [decide_eq_false hx,cond_false]
   exact ⟨[],c,_,by rw [List.append_nil],by simp,hc.symm,by intro v hv;simp at hv⟩
theorem yE {a b:List Int} (ha:a.length≤1000) (hv:∀ v∈a,0≤v∧v≤1000000):∀ (m k:Nat) (c:Int) (out:List Int) (i:Nat),i+m=a.length→0≤c→c≤1000000→m+20<k→out.length≤i→∃ ds y z,bF N k a b out c (i:Int)=some (out++ds,y,z)∧ds.length≤m+7∧vB ds=c+vB (a.drop i)∧jo ds:=by
 intro m
 induction m with
 | zero =>
  intro k c out i hi h0 h1 hk hb
  have hp:(10:Int) ^ 7=10000000:=by decide
  obtain ⟨ds,y,z,e,hl,h3,h4⟩:=y3 (N:=N) (a:=a) (b:=b) 7 k c out i (by omega) h0 (by omega) (by rw [hp];omega) (by omega) (by omega) (by omega)
  refine ⟨ds,y,z,e,by omega,?_,h4⟩
  rw [h3,List.drop_of_length_le (by omega)]
  show c=c+0;omega
 | succ m ih =>
  intro k c out i hi h0 h1 hk hb
  obtain ⟨k,rfl⟩:∃ k',k=k'+1:=⟨k-1,by omega⟩
  have h:i<a.length:=by omega
  have hx:=hv _ (List.getElem_mem h)
  rw [bF,dlt h,cond_true,aV h,bs,bE (by omega) (by omega),bs,pf,bs,bz (by decide) (by simp;omega),bs,o7 (by omega) (by omega),bs,ad1 (by omega),bs]
  obtain ⟨ds,y,z,e,hl,h3,h4⟩:=ih k ((c+a[i]) / 10) (out++[(c+a[i]).tmod 10]) (i+1) (by omega) (by omega) (by omega) (by omega) (by rw [List.length_append,List.length_singleton];omega)
  refine ⟨(c+a[i]).tmod 10 :: ds,y,z,by rw [e,List.append_assoc];rfl,by simp;omega,?_,?_⟩
  ·rw [jq h]
   show (c+a[i]).tmod 10+10*vB ds=c+(a[i]+10*vB (a.drop (i+1)))
   rw [h3,nA (by omega)];omega
  ·intro v hv
   rcases List.mem_cons.1 hv with rfl | hv
   ·rw [nA (by omega)];omega
   ·exact h4 v hv
theorem pp {xs:List Int}:∀ m,m≤xs.length→vB (xs.take (dM xs m))=vB (xs.take m)∧(dM xs m=0∨xs.getD (dM xs m-1) 0≠0)
 | 0,_=>⟨rfl,.inl rfl⟩
 | m+1,h=>by
  obtain ⟨h1,h2⟩:=pp (xs:=xs) m (by omega)
  unfold dM
  by_cases e:xs.getD m 0=0
  ·rw [if_pos e]
   refine ⟨?_,h2⟩
   rw [h1,List.take_succ_eq_append_getElem (show m<xs.length by omega),nU]
   rw [eJ (by omega)] at e
   rw [e]
   show _=_+_*(0+10*0)
   rw [show (0:Int)+10*0=0 from rfl,Int.mul_zero,Int.add_zero]
  ·rw [if_neg e];exact ⟨rfl,.inr (by simpa using e)⟩
theorem sZ (hN:1073741824≤N) {a:List Int} (ha:a.length≤1000) (hv:∀ v∈a,0≤v∧v≤1000000):∃ r:List Int × Bool,eU N a=some r∧(r.2=true→vB r.1=vB a∧Cn r.1∧r.1.length≤60)∧(r.2=true↔vB a<10 ^ 60):=by
 obtain ⟨o,y,z,e,hl,h3,h4⟩:=yE (N:=N) (b:=[]) ha hv a.length N 0 [] 0 (by omega) (by omega) (by omega) (by omega) (by simp)
 have e':bF N N a [] [] 0 0=some (o,y,z):=e
 have h3:vB o=vB a:=by rw [h3,List.drop_zero];omega
 have s1:=tW (N:=N) (b:=[]) (xs:=o) (by omega) o.length N (Nat.le_refl _) (by omega)
 obtain ⟨g1,g2⟩:=pp (xs:=o) o.length (Nat.le_refl _)
 rw [List.take_length] at g1
 have hle:=mr o o.length
 have hlen:(o.take (dM o o.length)).length=dM o o.length:=by rw [List.length_take];omega
 have hC:Cn (o.take (dM o o.length)):=by
  refine ⟨fun v hv=>h4 v (List.mem_of_mem_take hv),?_⟩
  rw [hlen]
  rcases g2 with g2 | g2
  ·exact .inl (by rw [g2];rfl)
  ·by_cases hz:dM o o.length=0
   ·exact .inl (by rw [hz];rfl)
   ·right
    rw [List.getD_eq_getElem?_getD,List.getElem?_take,if_pos (by omega),← List.getD_eq_getElem?_getD];exact g2
 have hI:eU N a=bif decide (60<((dM o o.length:Nat):Int)) then some ([],false) else some (o.take (dM o o.length),true):=by
  unfold eU
  rw [e',bs,lpB]
  simp only []
  rw [s1,bs,lpB,show (0:Int)=((0:Nat):Int) from rfl,mv (Nat.zero_le _) (by omega),bs,List.drop_zero]
 rw [hI]
 by_cases h:60<dM o o.length
 ·rw [decide_eq_true (by omega),cond_true]
  refine ⟨_,rfl,(fun h=>nomatch h),⟨(fun h=>nomatch h),fun hlt=>?_⟩⟩
  rw [← h3,← g1] at hlt
  have:=hC.len hlt
  omega
 ·rw [decide_eq_false (by omega),cond_false]
  refine ⟨_,rfl,fun _=>⟨by show vB (o.take _)=_;rw [g1,h3],hC,by show (o.take _).length≤60;omega⟩,fun _=>?_,fun _=>rfl⟩
  rw [← h3,← g1]
  have h1:=mV hC.1
  have h2:=lZ (show (o.take (dM o o.length)).length≤60 by omega)
  omega
theorem wj {a b:List Int} (ha:a.length≤60) (hb:b.length≤60) (da:jo a) (db:jo b) {i:Nat} (hi:i<a.length) {C:Int} (hC:C≤500000):∀ (m j k:Nat) (s:List Int),j+m=b.length→m<k→s.length=a.length+b.length→(∀ x∈s,0≤x∧x≤C+81*(j:Int)) →
  ∃ s',ci N k b [] s (i:Int) a[i] a (a.length:Int) (i:Int) b (b.length:Int) (j:Int)=some (s',(b.length:Int))∧s'.length=a.length+b.length∧(∀ x∈s',0≤x∧x≤C+4860)∧vB s'=vB s+a[i]*10 ^ (i+j)*vB (b.drop j):=by
 have hai:=da _ (List.getElem_mem hi)
 intro m
 induction m with
 | zero =>
  intro j k s hj hk hs hx
  obtain ⟨k,rfl⟩:∃ k',k=k'+1:=⟨k-1,by omega⟩
  obtain rfl:j=b.length:=by omega
  rw [ci,dge (by omega),cond_false]
  refine ⟨s,rfl,hs,fun x h=>by have:=hx x h;omega,?_⟩
  rw [List.drop_length]
  show _=_+_*0
  rw [Int.mul_zero,Int.add_zero]
 | succ m ih =>
  intro j k s hj hk hs hx
  obtain ⟨k,rfl⟩:∃ k',k=k'+1:=⟨k-1,by omega⟩
  have hjb:j<b.length:=by omega
  have hbj:=db _ (List.getElem_mem hjb)
  obtain ⟨m1,m2⟩:=rn hai hbj
  have hij:i+j<s.length:=by omega
  have hsv:=hx _ (List.getElem_mem hij)
  rw [ci,dlt hjb,cond_true,aV hjb,bs,adN (by omega),bs,aV hij,bs,eN (by omega) (by omega),bs,bE (by omega) (by omega),bs,bs,kr hij,bs,ad1 (by omega),bs]
  obtain ⟨s',e1,e2,e3,e4⟩:=ih (j+1) k (s.set (i+j) (s[i+j]+a[i]*b[j])) (by omega) (by omega) (by simpa using hs) fun x h=>by
   rcases List.mem_or_eq_of_mem_set h with h | rfl
   ·have:=hx x h;omega
   ·omega
  refine ⟨s',e1,e2,e3,?_⟩
  rw [e4,sM,jq hjb]
  show _=vB s+a[i]*10 ^ (i+j)*(b[j]+10*vB (b.drop (j+1)))
  rw [show i+(j+1)=(i+j)+1 by omega,p10]
  have e:a[i]*10 ^ (i+j)*(b[j]+10*vB (b.drop (j+1)))=a[i]*b[j]*10 ^ (i+j)+a[i]*(10*10 ^ (i+j))*vB (b.drop (j+1)):=by
   rw [Int.mul_add]
   congr 1 <;> ac_rfl
  rw [e];omega
theorem uD (hN:1073741824≤N) {a b:List Int} (ha:a.length≤60) (hb:b.length≤60) (da:jo a) (db:jo b):∀ (m i k:Nat) (s:List Int),i+m=a.length→m<k→s.length=a.length+b.length→(∀ x∈s,0≤x∧x≤4860*(i:Int)) →
  ∃ s',cj N k b [] s a (a.length:Int) (i:Int)=some (s',(a.length:Int))∧s'.length=a.length+b.length∧(∀ x∈s',0≤x∧x≤500000)∧vB s'=vB s+10 ^ i*vB (a.drop i)*vB b:=by
 intro m
 induction m with
 | zero =>
  intro i k s hi hk hs hx
  obtain ⟨k,rfl⟩:∃ k',k=k'+1:=⟨k-1,by omega⟩
  obtain rfl:i=a.length:=by omega
  rw [cj,dge (by omega),cond_false]
  refine ⟨s,rfl,hs,fun x h=>by have:=hx x h;omega,?_⟩
  rw [List.drop_length]
  show _=_+_*0*_
  rw [Int.mul_zero,Int.zero_mul,Int.add_zero]
 | succ m ih =>
  intro i k s hi hk hs hx
  obtain ⟨k,rfl⟩:∃ k',k=k'+1:=⟨k-1,by omega⟩
  have h:i<a.length:=by omega
  obtain ⟨s1,e1,e2,e3,e4⟩:=wj (N:=N) ha hb da db h (C:=4860*(i:Int)) (by omega) b.length 0 N s (by omega) (by omega) hs fun x hx'=>by have:=hx x hx';omega
  obtain ⟨s',f1,f2,f3,f4⟩:=ih (i+1) k s1 (by omega) (by omega) e2 fun x hx'=>by have:=e3 x hx';omega
  have e1':ci N N b [] s (i:Int) a[i] a (a.length:Int) (i:Int) b (b.length:Int) 0=_:=e1
  rw [cj,dlt h,cond_true,aV h,bs,e1',bs,lpB]
  dsimp only
  rw [ad1 (by omega),bs]
  refine ⟨s',f1,f2,f3,?_⟩
  rw [f4,e4,List.drop_zero,Nat.add_zero,jq h]
  show _=vB s+10 ^ i*(a[i]+10*vB (a.drop (i+1)))*vB b
  have e:10 ^ i*(a[i]+10*vB (a.drop (i+1)))*vB b=a[i]*10 ^ i*vB b+10*10 ^ i*vB (a.drop (i+1))*vB b:=by
   rw [Int.mul_add,Int.add_mul]
   congr 1 <;> ac_rfl
  rw [p10,e];omega
theorem qX:∀ n:Nat,vB (List.replicate n 0)=0
 | 0=>rfl
 | n+1=>by rw [List.replicate_succ];show 0+10*vB (List.replicate n 0)=0;rw [qX n];rfl
theorem rN (hN:1073741824≤N) {a b:List Int} (ha:Cn a) (hb:Cn b) (la:a.length≤60) (lb:b.length≤60):∃ r:List Int × Bool,d9 N a b=some r∧(r.2=true→vB r.1=vB a*vB b∧Cn r.1∧r.1.length≤60)∧(r.2=true↔vB a*vB b<10 ^ 60):=by
 unfold d9
 rw [j9 hN (by omega),j9 hN (by omega),mM ha la,mM hb lb,bs,cond_true,bs,cond_true,adN (by omega),bs,nK (by decide) (by omega),bs]
 obtain ⟨s,e1,e2,e3,e4⟩:=uD hN la lb ha.1 hb.1 a.length 0 N (List.replicate (a.length+b.length) 0) (by omega) (by omega) (by simp) (fun v hv=>by rw [List.eq_of_mem_replicate hv];omega)
 have e1':cj N N b [] (List.replicate (a.length+b.length) 0) a (a.length:Int) 0=_:=e1
 obtain ⟨r,c1,c2,c3⟩:=sZ hN (a:=s) (by omega) (fun x hx=>by have:=e3 x hx;omega)
 have hv:vB s=vB a*vB b:=by
  rw [e4,qX,List.drop_zero,show (10:Int) ^ 0=1 from rfl,Int.one_mul,Int.zero_add]
 rw [hv] at c2 c3
 rw [e1',bs,lpB]
 dsimp only
 rw [c1,bs]
 exact ⟨_,rfl,c2,c3⟩
theorem wq (hN:1073741824≤N) {n:Int} (h0:0≤n) (h1:n≤9223372036854775807) {d:Nat} (hd:d≤100):∃ r:List Int × Bool,d5 N n (d:Int)=some r∧(r.2=true→vB r.1=n ^ d∧Cn r.1∧r.1.length≤60)∧(r.2=true↔∀ j,j<d→n ^ (j+1)<10 ^ 60):=by
 obtain ⟨o,eo,ho,vo,co⟩:=rF (N:=N) hN (n:=1) (by omega) (by omega)
 obtain ⟨c,ec,hc,vc,cc⟩:=rF (N:=N) hN h0 h1
 have key:∀ (m i k:Nat) (s:List Int),i+m=d→m<k→Cn s→s.length≤60→vB s=n ^ i →
   (∃ s',bC N k n (d:Int) [] s (i:Int)=some (.inr (s',(d:Int)))∧Cn s'∧s'.length≤60∧vB s'=n ^ d∧∀ j,i≤j→j<d→n ^ (j+1)<10 ^ 60) ∨
   (bC N k n (d:Int) [] s (i:Int)=some (.inl ([],false))∧∃ j,i≤j∧j<d∧¬ n ^ (j+1)<10 ^ 60):=by
  intro m
  induction m with
  | zero =>
   intro i k s hi hk h1 h2 h3
   obtain ⟨k,rfl⟩:∃ k',k=k'+1:=⟨k-1,by omega⟩
   obtain rfl:i=d:=by omega
   left
   rw [bC,dge (by omega),cond_false]
   exact ⟨s,rfl,h1,h2,h3,fun j a b=>by omega⟩
  | succ m ih =>
   intro i k s hi hk k1 k2 k3
   obtain ⟨k,rfl⟩:∃ k',k=k'+1:=⟨k-1,by omega⟩
   obtain ⟨r,m1,m2,m3⟩:=rN hN k1 cc k2 (by omega)
   have hp:vB s*vB c=n ^ (i+1):=by rw [k3,vc,Int.pow_succ]
   rw [hp] at m2 m3
   rw [bC,dlt (by omega),cond_true,ec,bs,m1,bs]
   cases hb:r.2 with
   | true =>
    obtain ⟨q1,q2,q3⟩:=m2 hb
    rw [cond_true,ad1 (by omega),bs]
    rcases ih (i+1) k r.1 (by omega) (by omega) q2 q3 q1 with ⟨s',a1,a2,a3,a4,a5⟩ | ⟨a1,j,a2,a3,a4⟩
    ·refine .inl ⟨s',a1,a2,a3,a4,fun j b1 b2=>?_⟩
     by_cases e:j=i
     ·rw [e];exact m3.1 hb
     ·exact a5 j (by omega) b2
    ·exact .inr ⟨a1,j,by omega,a3,a4⟩
   | false =>
    rw [cond_false]
    refine .inr ⟨rfl,i,Nat.le_refl _,by omega,fun h=>?_⟩
    rw [m3.2 h] at hb;cases hb
 unfold d5
 rw [decide_eq_false (by omega),cond_false,eH,bs,show inR (d:Int) 0 100=true from cz.2 (by omega),cond_true,eo,bs]
 rcases key d 0 N o (by omega) (by omega) co (by omega) (by rw [vo,Int.pow_zero]) with ⟨s',a1,a2,a3,a4,a5⟩ | ⟨a1,j,a2,a3,a4⟩
 ·have a1':bC N N n (d:Int) [] o 0=_:=a1
  rw [a1',bs,fQ]
  exact ⟨_,rfl,fun _=>⟨a4,a2,a3⟩,fun _ j hj=>a5 j (by omega) hj,fun _=>rfl⟩
 ·have a1':bC N N n (d:Int) [] o 0=_:=a1
  rw [a1',bs,iI]
  exact ⟨_,rfl,(fun h=>nomatch h),⟨(fun h=>nomatch h),fun h=>absurd (h j a3) a4⟩⟩
theorem yr {a b:List Int} (hl:a.length=b.length) (da:jo a) (db:jo b) (ha:a.length≤1048576):∀ m k,m≤a.length→m<k →
  (∃ q,bY N k a b ((m:Int)-1)=some (.inl q)∧(q=-1∧vB (a.take m)<vB (b.take m)∨q=1∧vB (b.take m)<vB (a.take m)))∨(∃ z,bY N k a b ((m:Int)-1)=some (.inr z))∧vB (a.take m)=vB (b.take m):=by
 intro m
 induction m with
 | zero =>
  intro k hm hk
  obtain ⟨k,rfl⟩:∃ k',k=k'+1:=⟨k-1,by omega⟩
  rw [bY,decide_eq_false (by omega),cond_false]
  exact .inr ⟨⟨_,rfl⟩,rfl⟩
 | succ m ih =>
  intro k hm hk
  obtain ⟨k,rfl⟩:∃ k',k=k'+1:=⟨k-1,by omega⟩
  have h1:m<a.length:=by omega
  have h2:m<b.length:=by omega
  have hm1:((m+1:Nat):Int)-1=(m:Int):=by omega
  have ea:vB (a.take (m+1))=vB (a.take m)+10 ^ m*a[m]:=by
   rw [List.take_succ_eq_append_getElem h1,nU,List.length_take,Nat.min_eq_left (by omega)]
   show _+10 ^ m*(a[m]+10*0)=_
   rw [Int.mul_zero,Int.add_zero]
  have eb:vB (b.take (m+1))=vB (b.take m)+10 ^ m*b[m]:=by
   rw [List.take_succ_eq_append_getElem h2,nU,List.length_take,Nat.min_eq_left (by omega)]
   show _+10 ^ m*(b[m]+10*0)=_
   rw [Int.mul_zero,Int.add_zero]
  have dta:jo (a.take m):=fun v hv=>da v (List.mem_of_mem_take hv)
  have dtb:jo (b.take m):=fun v hv=>db v (List.mem_of_mem_take hv)
  have la:=mV dta
  have lb:=mV dtb
  rw [List.length_take,Nat.min_eq_left (by omega)] at la lb
  have na:=sq dta
  have nb:=sq dtb
  have key:∀ x y:Int,x<y→(10:Int) ^ m*x+10 ^ m≤10 ^ m*y:=fun x y h=>by
   have:=Int.mul_le_mul_of_nonneg_left (show x+1≤y by omega) (Int.le_of_lt (ph m))
   rw [Int.mul_add,Int.mul_one] at this;exact this
  rw [hm1,bY,decide_eq_true (by omega),cond_true,aV h1,aV h2]
  simp only [bs,ii]
  rcases Int.lt_trichotomy a[m] b[m] with h | h | h
  ·rw [show (a[m] != b[m])=true by simp;omega,cond_true,mc,if_pos h]
   have:=key _ _ h
   exact .inl ⟨_,rfl,.inl ⟨by decide,by omega⟩⟩
  ·rw [show (a[m] != b[m])=false by simp [h],cond_false,fj (by omega) (by omega),bs]
   rw [ea,eb,h]
   rcases ih k (by omega) (by omega) with ⟨q,q1,q2⟩ | ⟨q1,q2⟩
   ·exact .inl ⟨q,q1,by omega⟩
   ·exact .inr ⟨q1,by omega⟩
  ·rw [show (a[m] != b[m])=true by simp;omega,cond_true,mc,if_neg (by omega),if_pos h]
   have:=key _ _ h
   exact .inl ⟨_,rfl,.inr ⟨by decide,by omega⟩⟩
theorem qa (hN:1073741824≤N) {a b:List Int} (ha:Cn a) (hb:Cn b) (la:a.length≤60) (lb:b.length≤60):∃ q,cQ N a b=some q∧(q≤0↔vB a≤vB b)∧(q<0↔vB a<vB b)∧-1≤q∧q≤1:=by
 unfold cQ
 rw [j9 hN (by omega),j9 hN (by omega),mM ha la,mM hb lb,bs,cond_true,bs,cond_true]
 by_cases hl:a.length=b.length
 ·rw [show ((a.length:Int) != (b.length:Int))=false by simp [hl],cond_false,fj (by omega) (by omega),bs]
  rcases yr (N:=N) hl ha.1 hb.1 (by omega) a.length N (Nat.le_refl _) (by omega) with ⟨q,q1,q2⟩ | ⟨⟨z,q1⟩,q2⟩
  ·rw [List.take_length,show b.take a.length=b by rw [hl,List.take_length]] at q2
   rw [q1,bs,iI]
   exact ⟨q,rfl,by omega⟩
  ·rw [List.take_length,show b.take a.length=b by rw [hl,List.take_length]] at q2
   rw [q1,bs,fQ]
   exact ⟨0,rfl,by omega⟩
 ·rw [show ((a.length:Int) != (b.length:Int))=true by simp;omega,cond_true,ii,bs]
  unfold mc
  by_cases h:(a.length:Int)<(b.length:Int)
  ·rw [if_pos h]
   have hbn:b≠[]:=fun e=>by have:=congrArg List.length e;rw [List.length_nil] at this;omega
   have h1:=hb.ge hbn
   have h2:=mV ha.1
   have h3:=lZ (show a.length≤b.length-1 by omega)
   exact ⟨-1,rfl,by omega⟩
  ·rw [if_neg h,if_pos (by omega)]
   have han:a≠[]:=fun e=>by have:=congrArg List.length e;rw [List.length_nil] at this;omega
   have h1:=ha.ge han
   have h2:=mV hb.1
   have h3:=lZ (show b.length≤a.length-1 by omega)
   exact ⟨1,rfl,by omega⟩
theorem vJ (hN:1073741824≤N) {a b:List Int} (ha:Cn a) (hb:Cn b) (la:a.length≤60) (lb:b.length≤60):∃ q,cQ N a b=some q∧(q≤0↔vB a≤vB b):=by
 obtain ⟨q,e,h,_⟩:=qa hN ha hb la lb
 exact ⟨q,e,h⟩
end
section
variable {N:Nat}
def iS (n:Nat):List Int:=(List.range' 0 n).map fun i:Nat=>(i:Int)
theorem nl (n:Nat):(iS n).length=n:=by simp [iS]
end
abbrev oX:=List (List Int)
section
variable {N:Nat}
def vl (r:Int × oX):Prop:=(-1≤r.1∧r.1≤6)∧r.2.length≤7∧∀ w∈r.2,w.length≤6∧∀ v∈w,-1≤v∧v≤100
end
def mI (a b:List iu):Prop:=∃ t,b=a++t
theorem mI.refl (a:List iu):mI a a:=⟨[],by simp⟩
theorem mI.trans {a b c:List iu} (h:mI a b) (k:mI b c):mI a c:=by
 obtain ⟨t,rfl⟩:=h;obtain ⟨u,rfl⟩:=k;exact ⟨t++u,by simp⟩
theorem mI.len {a b:List iu} (h:mI a b):a.length≤b.length:=by
 obtain ⟨t,rfl⟩:=h;simp
structure QFor (ts:List iD) (n:Nat) (atoms:List aX) (order:List Int):Prop where
 n1:1≤n
 n5:n≤5
 ol:order.length=n
 os:i5 order n=true
 a1:1≤atoms.length
 a4:atoms.length≤4
 al:∀ a∈atoms,a.2.length≤5∧1≤a.2.length∧∀ v∈a.2,0≤v∧v<n
 af:∀ a∈atoms,(vg ts a.1).2=true∧(vg ts a.1).1.1=(a.2.length:Int)
 cov:∀ v:Int,0≤v→v<n→∃ a∈atoms,v∈a.2
theorem qh {atoms:List aX} (ha:eT atoms) {i:Nat} (h:i<atoms.length):okI atoms[i].2:=(ha.2 _ (List.getElem_mem h)).2
abbrev rW (xs:List Int):Prop:=xs.Pairwise (·<·)
abbrev Nxt:=List Int→List Int × Int
structure NxtOk (f:Nxt):Prop where
 len:∀ p,(f p).1.length≤16
 asc:∀ p,rW (f p).1
 val:∀ p,∀ v∈(f p).1,0≤v∧v≤99
 st0:∀ p,0≤(f p).2
 st1:∀ p,(f p).2≤1000
theorem nh {α β:Type} {g:α→List β} {k:Nat} (h:∀ x,(g x).length≤k):∀ L:List α,(L.flatMap g).length≤L.length*k
 | []=>by simp
 | p :: L=>by
  have h1:=h p
  have h2:=nh h L
  rw [List.flatMap_cons,List.length_append,List.length_cons,Nat.succ_mul];omega
def r8 (Ls:oX) (A:List Nat) (k:Nat):Int:=(Ls.getD k []).getD (A.getD k 0) 0
structure LInv (Ls:oX) (A:List Nat) (most:Int) (out:List Int) (s:Nat):Prop where
 pos:0<Ls.length
 len:A.length=Ls.length
 asc:∀ l∈Ls,rW l
 lt:∀ k,k<Ls.length→A.getD k 0<(Ls.getD k []).length
 cyc:∀ i j,i≤j→j<Ls.length→r8 Ls A ((s+i) % Ls.length)≤r8 Ls A ((s+j) % Ls.length)
 top:r8 Ls A ((s+(Ls.length-1)) % Ls.length)=most
 oasc:rW out
 olt:∀ x∈out,x<most
 ocom:∀ x∈out,∀ l∈Ls,x∈l
 all:∀ x,(∀ l∈Ls,x∈l)→x∈out∨∀ k,k<Ls.length→r8 Ls A k≤x
def yZ (l:List Int):Int:=l.getD 0 0
def hdI (ls:oX) (j:Int):Int:=yZ (ls.getD j.toNat [])
def leI (a b:Int):Prop:=a≤b
structure OrdOk (ls:oX) (O:List Int) (i:Nat):Prop where
 len:O.length=i
 nd:O.Nodup
 bd:∀ j∈O,0≤j∧j<i
 so:(O.map (hdI ls)).Pairwise leI
def xY (ns:List iu):Nat→Int→Int
 | 0,_=>0
 | f+1,nd=>if nd=0 then 0 else xY ns f ((ns.getD nd.toNat ([],[])).2.getD 0 0)+1
def dep (ns:List iu) (nd:Int):Int:=xY ns ns.length nd
structure NodeOk (ns:List iu) (i:Nat):Prop where
 lens:(ns.getD i ([],[])).1.length=(ns.getD i ([],[])).2.length
 vals:kP (ns.getD i ([],[])).1=true
 asc:rW (ns.getD i ([],[])).1
 ne:(ns.getD i ([],[])).1≠[]
 chs:∀ c∈(ns.getD i ([],[])).2,dep ns c=dep ns ((ns.getD i ([],[])).2.getD 0 0)
 new:∀ j,1≤j→j<i→ns.getD j ([],[])≠ns.getD i ([],[])
abbrev j3:=Int × List aX × List Int
def QSm (q:j3):Prop:=(0≤q.1∧q.1≤6)∧q.2.1.length≤5∧(∀ a∈q.2.1,a.1.size≤4∧a.2.length≤5)∧q.2.2.length≤6
theorem QSm.atoms {q:j3} (h:QSm q):eT q.2.1:=⟨by have:=h.2.1;omega,fun a ha=>⟨by have:=(h.2.2.1 a ha).1;omega,by have:=(h.2.2.1 a ha).2;omega,fun _ _=>trivial⟩⟩
theorem QSm.out {q:j3} (h:QSm q):okI q.2.2:=⟨by have:=h.2.2.2;omega,fun _ _=>trivial⟩
abbrev vp:List aX:=[((⟨#[114]⟩:ByteArray),[0,1]),((⟨#[115]⟩:ByteArray),[1,2]),((⟨#[116]⟩:ByteArray),[2,3]),((⟨#[117]⟩:ByteArray),[3,4])]
def y5 (n:Int) (ats:List aX):Prop:=ats.length≤4∧(∀ a∈ats,1≤a.2.length∧∀ v∈a.2,0≤v∧v<n)∧∀ v:Int,0≤v→v<n→∃ a∈ats,v∈a.2
def QV (q:j3):Prop:=(∀ a∈q.2.1,∀ v∈a.2,v<q.1)∧(q.1≤4∨q.1=5∧q.2.1=vp)
def QB (q:j3):Prop:=y5 q.1 q.2.1→q.1≤5→q.1≤4∨q.1=5∧q.2.1=vp
theorem QV.b {q:j3} (h:QV q):QB q:=fun _ _=>h.2
def TSm (t:iD):Prop:=t.1.size≤5∧t.2.2.length≤10∧∀ r∈t.2.2,r.length≤6
def DSm (ts:List iD):Prop:=ts.length≤6∧∀ t∈ts,TSm t
def TSv (t:iD):Prop:=t.2.2.length≤7∨∀ r∈t.2.2,∀ v∈r,0≤v∧v<6
def TSb (t:iD):Prop:=TSm t∧TSv t
theorem DSm.ok {ts:List iD} (h:DSm ts):zl ts:=⟨by have:=h.1;omega,fun t ht=>by
 obtain ⟨h1,h2,h3⟩:=h.2 t ht
 exact ⟨by omega,by omega,fun r hr=>⟨by have:=h3 r hr;omega,fun _ _=>trivial⟩⟩⟩
section
variable {N:Nat}
theorem vG {α:Type} {xs:List α} {i:Int} {y:α} (h0:0≤i) (h:i<xs.length):sto xs i y=some (xs.set i.toNat y):=by
 obtain ⟨k,rfl⟩:=Int.eq_ofNat_of_zero_le h0
 exact kr (by omega)
theorem vl.t {r:Int × oX} {s:ByteArray} (hs:s.size≤5) (k:vl r):TSb (s,r):=⟨⟨hs,by show r.2.length≤10;have:=k.2.1;omega,fun w hw=>(k.2.2 w hw).1⟩,Or.inl k.2.1⟩
def JSm (ts:List iD) (r:j3) (o:List Int):Prop:=DSm ts∧QSm r∧o.length≤5
theorem JSm.o {ts:List iD} {r:j3} {o:List Int} (h:JSm ts r o):okI o:=⟨by have:=h.2.2;omega,fun _ _=>trivial⟩
end
section
variable {N:Nat}
def VR (N:Nat) (r:cL):Prop:=ay N r.1 r.2=some true
def rv (r:cL):Rat:=(r.1:Rat) / (r.2:Rat)
theorem uv:∀ (m k:Nat) (x y:Int),0≤x→0≤y→y<2 ^ m→2*m<k→∃ g z,cT N k x y=some (g,z)∧g ∣ x∧g ∣ y∧(0<x∨0<y→0<g)∧∀ c,c ∣ x→c ∣ y→c ∣ g:=by
 have one:∀ (k:Nat) (x:Int),0≤x→∃ g z,cT N (k+1) x 0=some (g,z)∧g ∣ x∧g ∣ 0∧(0<x∨(0:Int)<0→0<g)∧∀ c,c ∣ x→c ∣ (0:Int)→c ∣ g:=by
  intro k x hx
  rw [cT,show ((0:Int) != 0)=false from rfl,cond_false]
  exact ⟨x,0,rfl,Int.dvd_refl x,Int.dvd_zero x,fun h=>by omega,fun c h _=>h⟩
 intro m
 induction m with
 | zero =>
  intro k x y hx hy hm hk
  obtain ⟨k,rfl⟩:∃ k',k=k'+1:=⟨k-1,by omega⟩
  obtain rfl:y=0:=by omega
  exact one k x hx
 | succ m ih =>
  intro k x y hx hy hm hk
  obtain ⟨k,rfl⟩:∃ k',k=k'+2:=⟨k-2,by omega⟩
  by_cases h0:y=0
  ·subst h0
   exact one (k+1) x hx
  ·have hyp:0<y:=by omega
   have e1:=Int.emod_add_mul_ediv x y
   have t1:=Int.emod_nonneg x h0
   have t2:=Int.emod_lt_of_pos x hyp
   have back:∀ {g:Int},g ∣ y→g ∣ x % y→g ∣ x:=by
    intro g h1 h2
    rw [← e1]
    exact Int.dvd_add h2 (Int.dvd_mul_of_dvd_left h1)
   have fwd:∀ {c:Int},c ∣ x→c ∣ y→c ∣ x % y:=by
    intro c h1 h2
    rw [Int.emod_def]
    exact Int.dvd_sub h1 (Int.dvd_mul_of_dvd_left h2)
   rw [cT,show (y != 0)=true by simpa using h0,cond_true,pW h0,bs,Int.tmod_eq_emod_of_nonneg hx]
   by_cases h1:x % y=0
   ·rw [h1]
    obtain ⟨g,z,e,g1,g2,g3,g4⟩:=one k y hy
    refine ⟨g,z,e,back g1 (by rw [h1];exact g2),g1,fun _=>g3 (.inl hyp),fun c c1 c2=>g4 c c2 (Int.dvd_zero c)⟩
   ·have hr:0<x % y:=by omega
    generalize x % y=r at t1 t2 back fwd h1 hr
    have s1:=Int.emod_nonneg y h1
    have s2:=Int.emod_lt_of_pos y hr
    have e2:=Int.emod_add_mul_ediv y r
    have hq:1≤y / r:=Int.le_ediv_of_mul_le hr (by omega)
    have hq2:r*1≤r*(y / r):=Int.mul_le_mul_of_nonneg_left hq (by omega)
    rw [cT,show (r != 0)=true by simpa using h1,cond_true,pW h1,bs,Int.tmod_eq_emod_of_nonneg hy]
    have hpw:(2:Int) ^ (m+1)=2 ^ m*2:=Int.pow_succ 2 m
    obtain ⟨g,z,e,g1,g2,g3,g4⟩:=ih k r (y % r) t1 s1 (by omega) (by omega)
    have gy:g ∣ y:=by
     rw [← e2]
     exact Int.dvd_add g2 (Int.dvd_mul_of_dvd_left g1)
    refine ⟨g,z,e,back gy g1,gy,fun _=>g3 (.inl hr),fun c c1 c2=>g4 c (fwd c1 c2) ?_⟩
    rw [Int.emod_def]
    exact Int.dvd_sub c2 (Int.dvd_mul_of_dvd_left (fwd c1 c2))
theorem mO (hN:1073741824≤N) {x y:Int} (hx:0≤x) (hy:0≤y) (h1:y≤4000000000000000000):∃ g,dW N x y=some g∧g ∣ x∧g ∣ y∧(0<x∨0<y→0<g)∧∀ c,c ∣ x→c ∣ y→c ∣ g:=by
 have hp:(2:Int) ^ 63=9223372036854775808:=by decide
 obtain ⟨g,z,e,h⟩:=uv (N:=N) 63 N x y hx hy (by omega) (by omega)
 refine ⟨g,?_,h⟩
 unfold dW;rw [e,bs,lpB]
theorem oY (n:Int):0≤imx n (0-n)∧(imx n (0-n)=n∨imx n (0-n)=-n)∧∀ c:Int,c ∣ imx n (0-n)↔c ∣ n:=by
 unfold imx
 split
 ·refine ⟨by omega,.inr (by omega),fun c=>?_⟩
  rw [Int.zero_sub]
  exact Int.dvd_neg
 ·refine ⟨by omega,.inl rfl,fun c=>Iff.rfl⟩
theorem qj (hN:1073741824≤N) (n d:Int):∃ b,ay N n d=some b∧(b=true↔1≤d∧d≤1000000000∧-1000000000≤n∧n≤1000000000∧Int.gcd n d=1):=by
 unfold ay
 rw [d6,bs]
 cases h1:inR d 1 1000000000 with
 | false =>
  rw [cond_false]
  refine ⟨false,rfl,fun h=>(by cases h),fun h=>?_⟩
  rw [cz.2 ⟨h.1,h.2.1⟩] at h1;cases h1
 | true =>
  rw [cond_true,d6,bs]
  cases h2:inR n (-1000000000) 1000000000 with
  | false =>
   rw [cond_false]
   refine ⟨false,rfl,fun h=>(by cases h),fun h=>?_⟩
   rw [cz.2 ⟨h.2.2.1,h.2.2.2.1⟩] at h2;cases h2
  | true =>
   have h1':=cz.1 h1
   have h2':=cz.1 h2
   obtain ⟨a1,a2,a3⟩:=oY n
   obtain ⟨g,e,g1,g2,g3,g4⟩:=mO (N:=N) hN a1 (by omega:0≤d) (by omega)
   rw [cond_true,fj (by omega) (by omega),bs,e,bs]
   refine ⟨_,rfl,?_⟩
   have hg:=g3 (.inr (by omega))
   rw [beq_iff_eq]
   constructor
   ·rintro rfl
    refine ⟨h1'.1,h1'.2,h2'.1,h2'.2,?_⟩
    have h5:=g4 (Int.gcd n d:Int) ((a3 _).2 (Int.gcd_dvd_left ..)) (Int.gcd_dvd_right ..)
    have h6:=Int.le_of_dvd (by decide) h5
    have h7:0<Int.gcd n d:=Int.gcd_pos_of_ne_zero_right n (by omega)
    omega
   ·intro h
    have h5:(g.toNat:Int) ∣ (Int.gcd n d:Int):=by
     rw [Int.toNat_of_nonneg (by omega)]
     exact Int.dvd_coe_gcd ((a3 _).1 g1) g2
    rw [h.2.2.2.2,Int.toNat_of_nonneg (by omega)] at h5
    have:=Int.le_of_dvd (by decide) h5
    omega
theorem fu (hN:1073741824≤N) {r:cL}:VR N r↔1≤r.2∧r.2≤1000000000∧-1000000000≤r.1∧r.1≤1000000000∧Int.gcd r.1 r.2=1:=by
 obtain ⟨b,e,h⟩:=qj hN r.1 r.2
 unfold VR
 rw [e,← h]
 exact ⟨fun h=>Option.some.inj h,fun h=>by rw [h]⟩
theorem gR (hN:1073741824≤N) (r:cL):VR N r∨ay N r.1 r.2=some false:=by
 obtain ⟨b,e,_⟩:=qj hN r.1 r.2
 cases b with
 | true=>exact .inl e
 | false=>exact .inr e
theorem tF {n g:Int} (hg:0<g) (h:g ∣ n) (h1:-4000000000000000000≤n) (h2:n≤4000000000000000000):∃ q,qt n g=some q∧q*g=n:=by
 have hb:(n.tdiv g).natAbs≤n.natAbs:=by
  rw [Int.natAbs_tdiv];exact Nat.div_le_self _ _
 refine ⟨n.tdiv g,?_,Int.tdiv_mul_cancel h⟩
 unfold qt
 rw [if_pos ⟨by omega,lp (by omega) (by omega)⟩]
theorem vT {a b g:Int} (hg:g≠0) (hb:b≠0):((a:Int):Rat) / (b:Rat)=((a*g:Int):Rat) / ((b*g:Int):Rat):=by
 have h1:(g:Rat)≠0:=fun h=>hg (Rat.intCast_eq_zero_iff.1 h)
 have h2:(b:Rat)≠0:=fun h=>hb (Rat.intCast_eq_zero_iff.1 h)
 rw [Rat.intCast_mul,Rat.intCast_mul]
 grind
theorem uQ {a b:Int}:((-a:Int):Rat) / ((-b:Int):Rat)=(a:Rat) / (b:Rat):=by
 rw [Rat.intCast_neg,Rat.intCast_neg]
 by_cases h:(b:Rat)=0
 ·rw [h];grind
 ·grind
theorem uV (hN:1073741824≤N) {n d:Int} (h1:-4000000000000000000≤n) (h2:n≤4000000000000000000) (h3:-4000000000000000000≤d) (h4:d≤4000000000000000000):∃ r b,bD N n d=some (r,b)∧(b=true→VR N r∧d≠0∧rv r=(n:Rat) / (d:Rat)):=by
 have core:∀ n d:Int,-4000000000000000000≤n→n≤4000000000000000000→0<d→d≤4000000000000000000→∃ r b,((sb 0 n).bind fun x154=>(dW N (imx n x154) d).bind fun r155=>(qt n r155).bind fun x161=>(qt d r155).bind fun x162=>(ay N x161 x162).bind fun r170=>(bif r170 then some ((x161,x162),true) else some ((0,0),false)))=some (r,b)∧(b=true→VR N r∧rv r=(n:Rat) / (d:Rat)):=by
  intro n d h1 h2 h3 h4
  obtain ⟨a1,a2,a3⟩:=oY n
  obtain ⟨g,e,g1,g2,g3,g4⟩:=mO (N:=N) hN a1 (by omega:0≤d) h4
  have hg:=g3 (.inr h3)
  obtain ⟨p,ep,hp⟩:=tF hg ((a3 _).1 g1) h1 h2
  obtain ⟨q,eq,hq⟩:=tF hg g2 (by omega) h4
  rw [fj (by omega) (by omega),bs,e,bs,ep,bs,eq,bs]
  obtain ⟨b,eb,hb⟩:=qj hN p q
  rw [eb,bs]
  cases b with
  | false=>exact ⟨_,_,rfl,fun h=>by cases h⟩
  | true =>
   refine ⟨_,_,rfl,fun _=>⟨eb,?_⟩⟩
   have hq0:q≠0:=by have:=(hb.1 rfl).1;omega
   show ((p:Int):Rat) / (q:Rat)=_
   rw [vT (g:=g) (by omega) hq0,hp,hq]
 unfold bD
 by_cases h0:d=0
 ·rw [show (d == 0)=true by simpa using h0,cond_true]
  exact ⟨_,_,rfl,fun h=>by cases h⟩
 ·rw [show (d == 0)=false by simpa using h0,cond_false,fj (by omega) (by omega),bs,d6,bs,show inR n (0-4000000000000000000) 4000000000000000000=true from cz.2 (by omega),cond_true,bs,d6,bs,show inR d (0-4000000000000000000) 4000000000000000000=true from cz.2 (by omega),cond_true]
  by_cases hd:d<0
  ·rw [decide_eq_true hd,cond_true,fj (by omega) (by omega),bs,fj (by omega) (by omega),bs]
   obtain ⟨r,b,e,h⟩:=core (0-n) (0-d) (by omega) (by omega) (by omega) (by omega)
   refine ⟨r,b,e,fun hb=>?_⟩
   obtain ⟨k1,k2⟩:=h hb
   refine ⟨k1,h0,?_⟩
   rw [k2,Int.zero_sub,Int.zero_sub]
   exact uQ
  ·rw [decide_eq_false hd,cond_false]
   obtain ⟨r,b,e,h⟩:=core n d h1 h2 (by omega) h4
   exact ⟨r,b,e,fun hb=>⟨(h hb).1,h0,(h hb).2⟩⟩
theorem ji {N:Nat} (hN:1073741824≤N) {r:cL} (h:VR N r):(r.2:Rat)≠0:=fun e=>by
 have h1:=Rat.intCast_eq_zero_iff.1 e
 have:=(fu hN).1 h
 omega
theorem ig {a b:Int} (h1:-1000000000≤a) (h2:a≤1000000000) (h3:-1000000000≤b) (h4:b≤1000000000):-1000000000000000000≤a*b∧a*b≤1000000000000000000:=by
 have h5:(a*b).natAbs≤1000000000*1000000000:=by
  rw [Int.natAbs_mul];exact Nat.mul_le_mul (by omega) (by omega)
 omega
theorem xx (hN:1073741824≤N) (a b:cL):∃ r ok,bJ N a.1 a.2 b.1 b.2=some (r,ok)∧(ok=true→VR N a∧VR N b∧VR N r∧rv r=rv a*rv b):=by
 unfold bJ
 rcases gR hN a with ha | ha
 ·rcases gR hN b with hb | hb
  ·obtain ⟨a1,a2,a3,a4,_⟩:=(fu hN).1 ha
   obtain ⟨b1,b2,b3,b4,_⟩:=(fu hN).1 hb
   have m1:=ig a3 a4 b3 b4
   have m2:=ig (a:=a.2) (b:=b.2) (by omega) a2 (by omega) b2
   obtain ⟨r,k,e,h⟩:=uV (N:=N) hN (n:=a.1*b.1) (d:=a.2*b.2) (by omega) (by omega) (by omega) (by omega)
   unfold VR at ha hb
   rw [ha,bs,cond_true,hb,bs,cond_true,eN (by omega) (by omega),bs,eN (by omega) (by omega),bs,e,bs]
   refine ⟨_,_,rfl,fun hk=>⟨ha,hb,(h hk).1,?_⟩⟩
   have h1:=ji hN (r:=a) ha
   have h2:=ji hN (r:=b) hb
   refine (h hk).2.2.trans ?_
   unfold rv
   rw [Rat.intCast_mul,Rat.intCast_mul]
   grind
  ·unfold VR at ha
   rw [ha,bs,cond_true,hb,bs,cond_false]
   exact ⟨_,_,rfl,fun h=>by cases h⟩
 ·rw [ha,bs,cond_false]
  exact ⟨_,_,rfl,fun h=>by cases h⟩
theorem ya (hN:1073741824≤N) (a b:cL):∃ r ok,dk N a.1 a.2 b.1 b.2=some (r,ok)∧(ok=true→VR N a∧VR N b∧VR N r∧b.1≠0∧rv r*rv b=rv a):=by
 unfold dk
 rcases gR hN a with ha | ha
 ·rcases gR hN b with hb | hb
  ·obtain ⟨a1,a2,a3,a4,_⟩:=(fu hN).1 ha
   obtain ⟨b1,b2,b3,b4,_⟩:=(fu hN).1 hb
   have m1:=ig a3 a4 (b:=b.2) (by omega) b2
   have m2:=ig (a:=a.2) (b:=b.1) (by omega) a2 b3 b4
   obtain ⟨r,k,e,h⟩:=uV (N:=N) hN (n:=a.1*b.2) (d:=a.2*b.1) (by omega) (by omega) (by omega) (by omega)
   unfold VR at ha hb
   rw [ha,bs,cond_true,hb,bs,cond_true,eN (by omega) (by omega),bs,eN (by omega) (by omega),bs,e,bs]
   refine ⟨_,_,rfl,fun hk=>?_⟩
   have hb0:b.1≠0:=fun e0=>(h hk).2.1 (by rw [e0,Int.mul_zero])
   refine ⟨ha,hb,(h hk).1,hb0,?_⟩
   have h1:=ji hN (r:=a) ha
   have h2:=ji hN (r:=b) hb
   have h3:(b.1:Rat)≠0:=fun e=>hb0 (Rat.intCast_eq_zero_iff.1 e)
   have h4:=(h hk).2.2
   show rv r*rv b=rv a
   rw [h4]
   unfold rv
   rw [Rat.intCast_mul,Rat.intCast_mul]
   grind
  ·unfold VR at ha
   rw [ha,bs,cond_true,hb,bs,cond_false]
   exact ⟨_,_,rfl,fun h=>by cases h⟩
 ·rw [ha,bs,cond_false]
  exact ⟨_,_,rfl,fun h=>by cases h⟩
theorem xq (hN:1073741824≤N) (a b:cL):∃ r ok,bI N a.1 a.2 b.1 b.2=some (r,ok)∧(ok=true→VR N a∧VR N b∧VR N r∧rv r=rv a+rv b):=by
 unfold bI
 rcases gR hN a with ha | ha
 ·rcases gR hN b with hb | hb
  ·obtain ⟨a1,a2,a3,a4,_⟩:=(fu hN).1 ha
   obtain ⟨b1,b2,b3,b4,_⟩:=(fu hN).1 hb
   have m1:=ig a3 a4 (b:=b.2) (by omega) b2
   have m2:=ig b3 b4 (b:=a.2) (by omega) a2
   have m3:=ig (a:=a.2) (b:=b.2) (by omega) a2 (by omega) b2
   obtain ⟨r,k,e,h⟩:=uV (N:=N) hN (n:=a.1*b.2+b.1*a.2) (d:=a.2*b.2) (by omega) (by omega) (by omega) (by omega)
   unfold VR at ha hb
   rw [ha,bs,cond_true,hb,bs,cond_true,eN (by omega) (by omega),bs,eN (by omega) (by omega),bs,bE (by omega) (by omega),bs,eN (by omega) (by omega),bs,e,bs]
   refine ⟨_,_,rfl,fun hk=>⟨ha,hb,(h hk).1,?_⟩⟩
   have h1:=ji hN (r:=a) ha
   have h2:=ji hN (r:=b) hb
   refine (h hk).2.2.trans ?_
   unfold rv
   rw [Rat.intCast_add,Rat.intCast_mul,Rat.intCast_mul,Rat.intCast_mul]
   grind
  ·unfold VR at ha
   rw [ha,bs,cond_true,hb,bs,cond_false]
   exact ⟨_,_,rfl,fun h=>by cases h⟩
 ·rw [ha,bs,cond_false]
  exact ⟨_,_,rfl,fun h=>by cases h⟩
theorem zx (hN:1073741824≤N) (a b:cL):∃ r ok,dG N a.1 a.2 b.1 b.2=some (r,ok)∧(ok=true→VR N a∧VR N b∧VR N r∧rv r=rv a-rv b):=by
 unfold dG
 rcases gR hN b with hb | hb
 ·obtain ⟨b1,b2,b3,b4,_⟩:=(fu hN).1 hb
  obtain ⟨r,k,e,h⟩:=xq hN a (0-b.1,b.2)
  have hb':=hb
  unfold VR at hb
  rw [hb,bs,cond_true,fj (by omega) (by omega),bs,e,bs]
  refine ⟨_,_,rfl,fun hk=>?_⟩
  obtain ⟨k1,_,k3,k4⟩:=h hk
  refine ⟨k1,hb',k3,k4.trans ?_⟩
  unfold rv
  show _+((0-b.1:Int):Rat) / (b.2:Rat)=_
  rw [Int.zero_sub,Rat.intCast_neg]
  have h2:=ji hN hb'
  grind
 ·rw [hb,bs,cond_false]
  exact ⟨_,_,rfl,fun h=>by cases h⟩
theorem zc (hN:1073741824≤N) (a b:cL):∃ c,cn N a.1 a.2 b.1 b.2=some c∧-1≤c∧c≤1∧(VR N a→VR N b→(c<0↔rv a<rv b)):=by
 unfold cn
 rcases gR hN a with ha | ha
 ·rcases gR hN b with hb | hb
  ·obtain ⟨a1,a2,a3,a4,_⟩:=(fu hN).1 ha
   obtain ⟨b1,b2,b3,b4,_⟩:=(fu hN).1 hb
   have m1:=ig a3 a4 (b:=b.2) (by omega) b2
   have m2:=ig b3 b4 (b:=a.2) (by omega) a2
   have hlt:rv a<rv b↔a.1*b.2<b.1*a.2:=by
    have p1:(0:Rat)<(a.2:Rat):=Rat.intCast_pos.2 (by omega)
    have p2:(0:Rat)<(b.2:Rat):=Rat.intCast_pos.2 (by omega)
    unfold rv
    rw [Rat.div_lt_iff p1,Rat.div_def,Rat.mul_assoc,Rat.mul_comm (b.2:Rat)⁻¹,← Rat.mul_assoc,← Rat.div_def,Rat.lt_div_iff p2,← Rat.intCast_mul,← Rat.intCast_mul,Rat.intCast_lt_intCast]
   unfold VR at ha hb
   rw [ha,bs,cond_true,hb,bs,cond_true,eN (by omega) (by omega),bs,eN (by omega) (by omega),bs]
   by_cases h1:a.1*b.2<b.1*a.2
   ·rw [decide_eq_true h1,cond_true]
    exact ⟨-1,rfl,by decide,by decide,fun _ _=>⟨fun _=>hlt.2 h1,fun _=>by decide⟩⟩
   ·rw [decide_eq_false h1,cond_false]
    by_cases h2:b.1*a.2<a.1*b.2
    ·rw [decide_eq_true h2,cond_true]
     exact ⟨1,rfl,by decide,by decide,fun _ _=>⟨fun h=>absurd h (by decide),fun h=>absurd (hlt.1 h) h1⟩⟩
    ·rw [decide_eq_false h2,cond_false]
     exact ⟨0,rfl,by decide,by decide,fun _ _=>⟨fun h=>absurd h (by decide),fun h=>absurd (hlt.1 h) h1⟩⟩
  ·unfold VR at ha
   rw [ha,bs,cond_true,hb,bs,cond_false]
   exact ⟨0,rfl,by decide,by decide,fun _ h=>by rw [VR,hb] at h;cases h⟩
 ·rw [ha,bs,cond_false]
  exact ⟨0,rfl,by decide,by decide,fun h=>by rw [VR,ha] at h;cases h⟩
end
def prN:List Nat→Nat
 | []=>1
 | x :: l=>x*prN l
def smN:List Nat→Nat
 | []=>0
 | x :: l=>x+smN l
theorem ixD {xs:List Int} {k:Nat} (h:k<xs.length):ix xs (k:Int)=some (xs.getD k 0):=by rw [aV h,eJ h]
def g6 (atoms:List aX) (i:Nat):aX:=atoms.getD i (ByteArray.empty,[])
theorem pz {atoms:List aX} {i:Nat} (h:i<atoms.length):g6 atoms i=atoms[i]:=by unfold g6;simp [h]
theorem nW:∀ a b:List Nat,smN (a++b)=smN a+smN b
 | [],b=>by rw [List.nil_append];exact (Nat.zero_add _).symm
 | x :: a,b=>by
  have:=nW a b
  show x+smN (a++b)=x+smN a+smN b
  omega
structure Cov (atoms:List aX) (n:Nat) (L:List Nat) (d:Nat):Prop where
 d0:0<d
 lt:∀ i∈L,i<atoms.length
 cov:∀ v:Int,0≤v→v<n→d≤(L.filter fun i=>decide (v∈(g6 atoms i).2)).length
abbrev aW:=List cL
abbrev ba:=List aW
def aZ (m:ba) (i:Nat):aW:=m.getD i []
def ax (r:aW) (j:Nat):cL:=r.getD j (0,0)
def cell (m:ba) (i j:Nat):cL:=ax (aZ m i) j
def Shp (n c:Nat) (m:ba):Prop:=m.length=n∧∀ i,i<n→(aZ m i).length=c
theorem ixM {m:ba} {i:Nat} (h:i<m.length):ix m (i:Int)=some (aZ m i):=by
 rw [aV h];unfold aZ;simp [h]
theorem ga {r:aW} {j:Nat} (h:j<r.length):ix r (j:Int)=some (ax r j):=by
 rw [aV h];unfold ax;simp [h]
theorem kF {α:Type} {xs:List α} {i:Nat} {y:α} (h:i<xs.length):sto xs (i:Int) y=some (xs.set i y):=by
 rw [vG (by omega) (by omega)];rfl
theorem lD {m:ba} {i:Nat} {r:aW} (h:i<m.length) (a:Nat):aZ (m.set i r) a=if a=i then r else aZ m a:=by
 unfold aZ
 by_cases e:a=i
 ·subst e;rw [if_pos rfl];simp [h]
 ·rw [if_neg e];simp [List.getElem?_set_ne (Ne.symm e)]
theorem kc {r:aW} {j:Nat} {v:cL} (h:j<r.length) (a:Nat):ax (r.set j v) a=if a=j then v else ax r a:=by
 unfold ax
 by_cases e:a=j
 ·subst e;rw [if_pos rfl];simp [h]
 ·rw [if_neg e];simp [List.getElem?_set_ne (Ne.symm e)]
theorem Shp.set {n c:Nat} {m:ba} (h:Shp n c m) {i:Nat} (hi:i<n) {r:aW} (hr:r.length=c):Shp n c (m.set i r):=by
 refine ⟨by rw [List.length_set];exact h.1,fun a ha=>?_⟩
 rw [lD (by rw [h.1];exact hi)]
 split
 ·exact hr
 ·exact h.2 a ha
section
variable {N:Nat}
theorem vP (hN:1073741824≤N) {n:Nat} (hn:n≤6) {p i:Nat} (hp:p<n) (hi:i<n) (hpi:p≠i) {f:cL}:∀ (c k fuel:Nat) (m:ba) (is:Bool),k+c=n+1→c<fuel→Shp n (n+1) m →
  ∃ m' is' z,bT N fuel m (p:Int) (i:Int) f.1 f.2 is (k:Int)=some (m',is',z)∧Shp n (n+1) m'∧(is'=true→is=true∧(∀ a,a≠i→aZ m' a=aZ m a)∧(∀ j,j<k→cell m' i j=cell m i j) ∧
   ∀ j,k≤j→j≤n→VR N (cell m' i j)∧rv (cell m' i j)=rv (cell m i j)-rv f*rv (cell m p j)):=by
 intro c
 induction c with
 | zero =>
  intro k fuel m is hk hf hs
  obtain ⟨fuel,rfl⟩:∃ k',fuel=k'+1:=⟨fuel-1,by omega⟩
  rw [bT,ixM (by rw [hs.1];exact hi),bs,hs.2 i hi,decide_eq_false (by omega),cond_false]
  exact ⟨m,is,_,rfl,hs,fun h=>⟨h,fun _ _=>rfl,fun _ _=>rfl,fun j h1 h2=>by omega⟩⟩
 | succ c ih =>
  intro k fuel m is hk hf hs
  obtain ⟨fuel,rfl⟩:∃ k',fuel=k'+1:=⟨fuel-1,by omega⟩
  have hli:=hs.2 i hi
  have hlp:=hs.2 p hp
  rw [bT,ixM (by rw [hs.1];exact hi),bs,hli,decide_eq_true (by omega),cond_true]
  cases is with
  | false =>
   rw [cond_false]
   exact ⟨m,false,_,rfl,hs,fun h=>by cases h⟩
  | true =>
   obtain ⟨r,ok,e1,h1⟩:=xx hN f (ax (aZ m p) k)
   obtain ⟨y,ok2,e2,h2⟩:=zx hN (ax (aZ m i) k) r
   have hset:((aZ m i).set k y).length=n+1:=by rw [List.length_set];exact hli
   have hs':=hs.set hi hset
   rw [cond_true,ixM (by rw [hs.1];exact hp),bs,ga (by omega),bs,e1,bs,bs,ga (by omega),bs,e2,bs]
   dsimp only
   cases ok with
   | false =>
    rw [cond_false,bs,ga (by omega),bs,kF (by omega),bs,kF (by rw [hs.1];exact hi),bs,bE (by omega) (by omega),bs]
    obtain ⟨m',is',z,e3,h3,h4⟩:=ih (k+1) fuel _ false (by omega) (by omega) hs'
    exact ⟨m',is',z,e3,h3,fun h=>absurd (h4 h).1 (by decide)⟩
   | true =>
    rw [cond_true,bs,ga (by omega),bs,kF (by omega),bs,kF (by rw [hs.1];exact hi),bs,bE (by omega) (by omega),bs]
    obtain ⟨m',is',z,e3,h3,h4⟩:=ih (k+1) fuel _ ok2 (by omega) (by omega) hs'
    refine ⟨m',is',z,e3,h3,fun h=>?_⟩
    obtain ⟨k1,k2,k3,k4⟩:=h4 h
    have hM:∀ a,aZ (m.set i ((aZ m i).set k y)) a=if a=i then (aZ m i).set k y else aZ m a:=lD (by rw [hs.1];exact hi)
    have hC:∀ j,cell (m.set i ((aZ m i).set k y)) i j=if j=k then y else cell m i j:=fun j=>by
     unfold cell
     rw [hM i,if_pos rfl,kc (by omega)]
    refine ⟨rfl,fun a ha=>?_,fun j hj=>?_,fun j hj hjn=>?_⟩
    ·rw [k2 a ha,hM a,if_neg ha]
    ·rw [k3 j (by omega),hC j,if_neg (by omega)]
    ·by_cases e:j=k
     ·subst e
      rw [k3 j (by omega),hC j,if_pos rfl]
      obtain ⟨g1,g2,g3,g4⟩:=h2 k1
      obtain ⟨_,_,_,g8⟩:=h1 rfl
      refine ⟨g3,?_⟩
      rw [g4,g8]
      rfl
     ·obtain ⟨g1,g2⟩:=k4 j (by omega) hjn
      rw [hC j,if_neg e] at g2
      refine ⟨g1,?_⟩
      rw [g2]
      have:cell (m.set i ((aZ m i).set k y)) p j=cell m p j:=by
       unfold cell;rw [hM p,if_neg hpi]
      rw [this]
end
def cv (m:ba) (i j:Nat):Rat:=rv (cell m i j)
def cA:Nat→(Nat→Rat)→Rat
 | 0,_=>0
 | n+1,g=>cA n g+g n
theorem dV {g h:Nat→Rat}:∀ {n:Nat},(∀ j,j<n→g j=h j)→cA n g=cA n h
 | 0,_=>rfl
 | n+1,e=>by
  have h1:=dV (n:=n) fun j hj=>e j (by omega)
  have h2:=e n (by omega)
  unfold cA
  rw [h1,h2]
theorem nE {a b y:Nat→Rat} {F:Rat}:∀ n:Nat,cA n (fun j=>(a j-F*b j)*y j)=cA n (fun j=>a j*y j)-F*cA n (fun j=>b j*y j)
 | 0=>by unfold cA;grind
 | n+1=>by
  have:=nE (a:=a) (b:=b) (y:=y) (F:=F) n
  unfold cA
  grind
theorem nx {g:Nat→Rat} {p:Nat}:∀ {n:Nat},p<n→(∀ j,j<n→j≠p→g j=0)→cA n g=g p
 | 0,h,_=>by omega
 | n+1,h,e=>by
  unfold cA
  by_cases hp:p=n
  ·subst hp
   have:cA p g=cA p (fun _=>0):=dV fun j hj=>e j (by omega) (by omega)
   have z:∀ k:Nat,cA k (fun _=>(0:Rat))=0:=fun k=>by
    induction k with
    | zero=>rfl
    | succ k ih=>unfold cA;rw [ih];grind
   rw [this,z];grind
  ·rw [nx (by omega) fun j hj=>e j (by omega),e n (by omega) (by omega)];grind
def lU (n:Nat) (m:ba) (y:Nat→Rat):Prop:=∀ i,i<n→cA n (fun j=>cv m i j*y j)=cv m i n
def oG (n p:Nat) (m:ba):Prop:=∀ i,i<n→∀ q,q<p→i≠q→cv m i q=0
section
variable {N:Nat}
theorem rl {r:cL} (h:r.1=0):rv r=0:=by
 unfold rv
 rw [h]
 have:((0:Int):Rat)=0:=rfl
 rw [this,Rat.div_def,Rat.zero_mul]
theorem vH (hN:1073741824≤N) {n:Nat} (hn:n≤6) {p:Nat} (hp:p<n):∀ (c i fuel:Nat) (m:ba),i+c=n→c<fuel→Shp n (n+1) m →
  ∃ s,bZ N fuel m (p:Int) (i:Int)=some s∧((∃ m',s=.inl (false,m')∧Shp n (n+1) m')∨∃ m' z,s=.inr (m',z)∧Shp n (n+1) m'∧aZ m' p=aZ m p∧(∀ a,a<i→aZ m' a=aZ m a) ∧
   ∀ a,i≤a→a<n→a≠p→∃ F:Rat,(∀ j,j<p→cv m' a j=cv m a j)∧(∀ j,p≤j→j≤n→cv m' a j=cv m a j-F*cv m p j)∧cv m' a p=0):=by
 intro c
 induction c with
 | zero =>
  intro i fuel m hi hf hs
  obtain ⟨fuel,rfl⟩:∃ k',fuel=k'+1:=⟨fuel-1,by omega⟩
  rw [bZ,hs.1,decide_eq_false (by omega),cond_false]
  exact ⟨_,rfl,.inr ⟨m,_,rfl,hs,rfl,fun _ _=>rfl,fun a h1 h2=>by omega⟩⟩
 | succ c ih =>
  intro i fuel m hi hf hs
  obtain ⟨fuel,rfl⟩:∃ k',fuel=k'+1:=⟨fuel-1,by omega⟩
  have hin:i<n:=by omega
  have hli:=hs.2 i hin
  have hlp:=hs.2 p hp
  rw [bZ,hs.1,decide_eq_true (by omega),cond_true]
  by_cases e:i=p
  ·rw [show ((i:Int) == (p:Int))=true by rw [beq_iff_eq];omega,cond_true,bE (by omega) (by omega),bs]
   obtain ⟨s,e1,h1⟩:=ih (i+1) fuel m (by omega) (by omega) hs
   refine ⟨s,e1,h1.imp id ?_⟩
   rintro ⟨m',z,k1,k2,k3,k4,k5⟩
   exact ⟨m',z,k1,k2,k3,fun a ha=>k4 a (by omega),fun a h1 h2 h3=>k5 a (by omega) h2 h3⟩
  ·rw [show ((i:Int) == (p:Int))=false by rw [beq_eq_false_iff_ne];omega,cond_false,ixM (by rw [hs.1];exact hin),bs,ga (by omega),bs]
   by_cases h0:(ax (aZ m i) p).1=0
   ·rw [show ((ax (aZ m i) p).1 == 0)=true by rw [beq_iff_eq];exact h0,cond_true,bE (by omega) (by omega),bs]
    obtain ⟨s,e1,h1⟩:=ih (i+1) fuel m (by omega) (by omega) hs
    refine ⟨s,e1,h1.imp id ?_⟩
    rintro ⟨m',z,k1,k2,k3,k4,k5⟩
    refine ⟨m',z,k1,k2,k3,fun a ha=>k4 a (by omega),fun a h1 h2 h3=>?_⟩
    by_cases ea:a=i
    ·subst ea
     have hrow:=k4 a (by omega)
     have hc:∀ j,cv m' a j=cv m a j:=fun j=>by unfold cv cell;rw [hrow]
     refine ⟨0,fun j _=>hc j,fun j _ _=>by rw [hc j];grind,?_⟩
     rw [hc p]
     exact rl h0
    ·exact k5 a (by omega) h2 h3
   ·rw [show ((ax (aZ m i) p).1 == 0)=false by rw [beq_eq_false_iff_ne];exact h0,cond_false,bs,ga (by omega),bs,ixM (by rw [hs.1];exact hp),bs,ga (by omega),bs]
    obtain ⟨f,ok,e2,h2⟩:=ya hN (ax (aZ m i) p) (ax (aZ m p) p)
    rw [e2,bs]
    dsimp only
    obtain ⟨m2,is2,z2,e3,hs2,h3⟩:=vP hN hn hp hin (fun h=>e h.symm) (f:=f) (n+1-p) p N m ok (by omega) (by omega) hs
    rw [e3,bs,lpB]
    cases is2 with
    | false =>
     rw [cond_false]
     exact ⟨_,rfl,.inl ⟨m2,rfl,hs2⟩⟩
    | true =>
     rw [cond_true,bE (by omega) (by omega),bs]
     obtain ⟨g1,g2,g3,g4⟩:=h3 rfl
     obtain ⟨_,_,_,_,hf⟩:=h2 g1
     obtain ⟨s,e1,h1⟩:=ih (i+1) fuel m2 (by omega) (by omega) hs2
     refine ⟨s,e1,h1.imp id ?_⟩
     rintro ⟨m',z,k1,k2,k3,k4,k5⟩
     have hpi:p≠i:=fun h=>e h.symm
     have hP:∀ j,cv m2 p j=cv m p j:=fun j=>by unfold cv cell;rw [g2 p hpi]
     refine ⟨m',z,k1,k2,k3.trans (g2 p hpi),fun a ha=>(k4 a (by omega)).trans (g2 a (by omega)),fun a h1 h2 h3=>?_⟩
     by_cases ea:a=i
     ·subst ea
      have hrow:=k4 a (by omega)
      have hc:∀ j,cv m' a j=cv m2 a j:=fun j=>by unfold cv cell;rw [hrow]
      have hv:∀ j,p≤j→j≤n→cv m' a j=cv m a j-rv f*cv m p j:=fun j h4 h5=>by
       rw [hc j];exact (g4 j h4 h5).2
      refine ⟨rv f,fun j hj=>?_,hv,?_⟩
      ·rw [hc j];unfold cv;rw [g3 j hj]
      ·rw [hv p (by omega) (by omega)]
       have:rv f*cv m p p=cv m a p:=hf
       rw [this];grind
     ·obtain ⟨F,f1,f2,f3⟩:=k5 a (by omega) h2 h3
      have hA:∀ j,cv m2 a j=cv m a j:=fun j=>by unfold cv cell;rw [g2 a ea]
      exact ⟨F,fun j hj=>by rw [f1 j hj,hA j],fun j h4 h5=>by rw [f2 j h4 h5,hA j,hP j],f3⟩
theorem vA (hN:1073741824≤N) {n:Nat} (hn:n≤6) {p:Nat} (hp:p<n) {m:ba} (hs:Shp n (n+1) m) (hd:oG n p m) :
  ∃ ok m',fq N m (p:Int)=some (ok,m')∧Shp n (n+1) m'∧(ok=true→oG n (p+1) m'∧∀ y,lU n m y↔lU n m' y):=by
 unfold fq
 obtain ⟨s,e,h⟩:=vH hN hn hp n 0 N m (by omega) (by omega) hs
 have e':bZ N N m (p:Int) 0=some s:=e
 rw [e',bs]
 rcases h with ⟨m',rfl,h1⟩ | ⟨m',z,rfl,h1,h2,_,h3⟩
 ·rw [iI]
  exact ⟨_,_,rfl,h1,fun h=>by cases h⟩
 ·rw [fQ]
  refine ⟨_,_,rfl,h1,fun _=>?_⟩
  have hP:∀ j,cv m' p j=cv m p j:=fun j=>by unfold cv cell;rw [h2]
  have hall:∀ a,a<n→a≠p→∃ F:Rat,(∀ j,j≤n→cv m' a j=cv m a j-F*cv m p j)∧cv m' a p=0:=by
   intro a ha hap
   obtain ⟨F,f1,f2,f3⟩:=h3 a (by omega) ha hap
   refine ⟨F,fun j hj=>?_,f3⟩
   by_cases hjp:j<p
   ·rw [f1 j hjp,hd p hp j hjp (by omega)];grind
   ·exact f2 j (by omega) hj
  refine ⟨fun i hi q hq hiq=>?_,fun y=>⟨fun h i hi=>?_,fun h i hi=>?_⟩⟩
  ·by_cases e1:i=p
   ·subst e1
    rw [hP q]
    exact hd i hi q (by omega) hiq
   ·obtain ⟨F,f1,f2⟩:=hall i hi e1
    by_cases e2:q=p
    ·subst e2;exact f2
    ·rw [f1 q (by omega),hd i hi q (by omega) hiq,hd p hp q (by omega) (by omega)];grind
  ·by_cases e1:i=p
   ·subst e1
    rw [hP n,← h i hi]
    exact dV fun j _=>by rw [hP j]
   ·obtain ⟨F,f1,_⟩:=hall i hi e1
    rw [dV (h:=fun j=>(cv m i j-F*cv m p j)*y j) fun j hj=>by rw [f1 j (by omega)],nE,h i hi,h p hp,f1 n (by omega)]
  ·by_cases e1:i=p
   ·subst e1
    rw [← hP n,← h i hi]
    exact dV fun j _=>by rw [hP j]
   ·obtain ⟨F,f1,_⟩:=hall i hi e1
    have h4:=h i hi
    have h5:=h p hp
    rw [dV (h:=fun j=>(cv m i j-F*cv m p j)*y j) fun j hj=>by rw [f1 j (by omega)],nE,f1 n (by omega)] at h4
    rw [dV (h:=fun j=>cv m p j*y j) fun j _=>by rw [hP j],hP n] at h5
    grind
end
section
variable {N:Nat}
theorem vw {n:Nat} (hn:n≤6) {p:Nat} (hp:p<n) {m:ba} (hs:Shp n (n+1) m):∀ (c k fuel:Nat),k+c=n→c<fuel→∃ q:Nat,bv N fuel (n:Int) m (p:Int) (k:Int)=some (q:Int)∧k≤q∧q≤n:=by
 intro c
 induction c with
 | zero =>
  intro k fuel hk hf
  obtain ⟨fuel,rfl⟩:∃ k',fuel=k'+1:=⟨fuel-1,by omega⟩
  rw [bv,decide_eq_false (by omega),cond_false]
  exact ⟨k,rfl,Nat.le_refl k,by omega⟩
 | succ c ih =>
  intro k fuel hk hf
  obtain ⟨fuel,rfl⟩:∃ k',fuel=k'+1:=⟨fuel-1,by omega⟩
  rw [bv,decide_eq_true (by omega),cond_true,ixM (by rw [hs.1];omega),bs,ga (by rw [hs.2 k (by omega)];omega),bs]
  cases (ax (aZ m k) p).1 == 0 with
  | true =>
   rw [cond_true,bE (by omega) (by omega),bs]
   obtain ⟨q,e,h1,h2⟩:=ih (k+1) fuel (by omega) (by omega)
   exact ⟨q,e,by omega,h2⟩
  | false =>
   rw [cond_false]
   exact ⟨k,rfl,Nat.le_refl k,by omega⟩
theorem wG (hN:1073741824≤N) {n:Nat} (hn:n≤6):∀ (c p fuel:Nat) (m:ba),p+c=n→c<fuel→Shp n (n+1) m→oG n p m →
  ∃ s,bq N fuel (n:Int) m (p:Int)=some s∧(s=.inl ([],false)∨∃ m' z,s=.inr (m',z)∧Shp n (n+1) m'∧oG n n m'∧∀ y,lU n m y↔lU n m' y):=by
 intro c
 induction c with
 | zero =>
  intro p fuel m hpc hf hs hd
  obtain ⟨fuel,rfl⟩:∃ k',fuel=k'+1:=⟨fuel-1,by omega⟩
  obtain rfl:p=n:=by omega
  rw [bq,decide_eq_false (by omega),cond_false]
  exact ⟨_,rfl,.inr ⟨m,_,rfl,hs,hd,fun _=>Iff.rfl⟩⟩
 | succ c ih =>
  intro p fuel m hpc hf hs hd
  obtain ⟨fuel,rfl⟩:∃ k',fuel=k'+1:=⟨fuel-1,by omega⟩
  have hp:p<n:=by omega
  obtain ⟨k,e1,hk1,hk2⟩:=vw (N:=N) hn hp hs (n-p) p N (by omega) (by omega)
  rw [bq,decide_eq_true (by omega),cond_true,e1,bs,lpB]
  by_cases hkn:k=n
  ·rw [show ((k:Int) == (n:Int))=true by rw [beq_iff_eq];omega,cond_true]
   exact ⟨_,rfl,.inl rfl⟩
  ·have hk:k<n:=by omega
   have hml:=hs.1
   rw [show ((k:Int) == (n:Int))=false by rw [beq_eq_false_iff_ne];omega,cond_false,ixM (by omega),bs,ixM (by omega),bs,bs,kF (by omega),bs,kF (by rw [List.length_set];omega),bs]
   have hs1:Shp n (n+1) (m.set k (aZ m p)):=hs.set hk (hs.2 p hp)
   have hs2:Shp n (n+1) ((m.set k (aZ m p)).set p (aZ m k)):=hs1.set hp (hs.2 k hk)
   have hR:∀ a,aZ ((m.set k (aZ m p)).set p (aZ m k)) a=if a=p then aZ m k else if a=k then aZ m p else aZ m a:=fun a=>by
    rw [lD (by rw [List.length_set];omega),lD (by omega)]
   generalize (m.set k (aZ m p)).set p (aZ m k)=m2 at hs2 hR
   have hC:∀ a j,cv m2 a j=if a=p then cv m k j else if a=k then cv m p j else cv m a j:=fun a j=>by
    unfold cv cell
    rw [hR a]
    split
    ·rfl
    ·split <;> rfl
   have hd2:oG n p m2:=fun i hi q hq hiq=>by
    rw [hC i q]
    split
    ·exact hd k hk q hq (by omega)
    ·split
     ·exact hd p hp q hq (by omega)
     ·exact hd i hi q hq hiq
   have hsol:∀ y,lU n m y↔lU n m2 y:=fun y=>by
    have key:∀ a b,(∀ j,cv m2 a j=cv m b j)→(cA n (fun j=>cv m2 a j*y j)=cv m2 a n↔cA n (fun j=>cv m b j*y j)=cv m b n):=fun a b h=>by
     rw [h n,dV (g:=fun j=>cv m2 a j*y j) (h:=fun j=>cv m b j*y j) fun j _=>by rw [h j]]
    have kp:=key p k fun j=>by rw [hC p j,if_pos rfl]
    have kk:cA n (fun j=>cv m2 k j*y j)=cv m2 k n↔cA n (fun j=>cv m p j*y j)=cv m p n:=by
     by_cases e:k=p
     ·subst e;exact kp
     ·exact key k p fun j=>by rw [hC k j,if_neg e,if_pos rfl]
    constructor
    ·intro h i hi
     by_cases e1:i=p
     ·subst e1;exact kp.2 (h k hk)
     ·by_cases e2:i=k
      ·subst e2;exact kk.2 (h p hp)
      ·exact (key i i fun j=>by rw [hC i j,if_neg e1,if_neg e2]).2 (h i hi)
    ·intro h i hi
     by_cases e1:i=p
     ·subst e1;exact kk.1 (h k hk)
     ·by_cases e2:i=k
      ·subst e2;exact kp.1 (h p hp)
      ·exact (key i i fun j=>by rw [hC i j,if_neg e1,if_neg e2]).1 (h i hi)
   obtain ⟨ok,m3,e3,hs3,h3⟩:=vA hN hn hp hs2 hd2
   rw [e3,bs]
   dsimp only
   cases ok with
   | false =>
    rw [cond_false]
    exact ⟨_,rfl,.inl rfl⟩
   | true =>
    obtain ⟨h4,h5⟩:=h3 rfl
    rw [cond_true,bE (by omega) (by omega),bs]
    obtain ⟨s,e6,h6⟩:=ih (p+1) fuel m3 (by omega) (by omega) hs3 h4
    refine ⟨s,e6,h6.imp id ?_⟩
    rintro ⟨m',z,k1,k2,k3,k4⟩
    exact ⟨m',z,k1,k2,k3,fun y=>(hsol y).trans ((h5 y).trans (k4 y))⟩
theorem kU {o:aW} {v:cL} {j:Nat} (h:j<o.length):ax (o++[v]) j=ax o j:=by
 unfold ax;simp [List.getElem?_append_left h]
theorem ki {o:aW} {v:cL}:ax (o++[v]) o.length=v:=by
 unfold ax;simp
theorem wT (hN:1073741824≤N) {n:Nat} (hn:n≤6) {m:ba} (hs:Shp n (n+1) m):∀ (c p fuel:Nat) (o:aW),p+c=n→c<fuel→o.length=p →
  ∃ s,bp N fuel (n:Int) m o (p:Int)=some s∧(s=.inl ([],false)∨∃ o' z,s=.inr (o',z)∧o'.length=n∧(∀ j,j<p→ax o' j=ax o j) ∧
   ∀ j,p≤j→j<n→VR N (ax o' j)∧cv m j j≠0∧rv (ax o' j)*cv m j j=cv m j n):=by
 intro c
 induction c with
 | zero =>
  intro p fuel o hpc hf ho
  obtain ⟨fuel,rfl⟩:∃ k',fuel=k'+1:=⟨fuel-1,by omega⟩
  rw [bp,decide_eq_false (by omega),cond_false]
  exact ⟨_,rfl,.inr ⟨o,_,rfl,by omega,fun _ _=>rfl,fun j h1 h2=>by omega⟩⟩
 | succ c ih =>
  intro p fuel o hpc hf ho
  obtain ⟨fuel,rfl⟩:∃ k',fuel=k'+1:=⟨fuel-1,by omega⟩
  have hp:p<n:=by omega
  have hlp:=hs.2 p hp
  obtain ⟨r,ok,e,h⟩:=ya hN (ax (aZ m p) n) (ax (aZ m p) p)
  rw [bp,decide_eq_true (by omega),cond_true,ixM (by rw [hs.1];omega),bs,ga (by omega),bs,bs,ga (by omega),bs,e,bs]
  dsimp only
  cases ok with
  | false =>
   rw [cond_false]
   exact ⟨_,rfl,.inl rfl⟩
  | true =>
   rw [cond_true,bz (by decide) (by rw [List.length_singleton];omega),bs,bE (by omega) (by omega),bs]
   obtain ⟨s,e1,h1⟩:=ih (p+1) fuel (o++[(r.1,r.2)]) (by omega) (by omega) (by rw [List.length_append,List.length_singleton];omega)
   refine ⟨s,e1,h1.imp id ?_⟩
   rintro ⟨o',z,k1,k2,k3,k4⟩
   refine ⟨o',z,k1,k2,fun j hj=>by rw [k3 j (by omega),kU (by omega)],fun j h1 h2=>?_⟩
   by_cases ej:j=p
   ·subst ej
    have hr:ax o' j=r:=by
     rw [k3 j (by omega),← ho,ki]
    obtain ⟨g1,g2,g3,g4,g5⟩:=h rfl
    rw [hr]
    refine ⟨g3,?_,g5⟩
    intro h0
    have hd:=ji hN g2
    have hz:(((ax (aZ m j) j).1:Int):Rat)≠0:=fun e=>g4 (Rat.intCast_eq_zero_iff.1 e)
    have:rv (ax (aZ m j) j)=0:=h0
    unfold rv at this
    grind
   ·exact k4 j (by omega) h2
theorem xw (hN:1073741824≤N) {n:Nat} (hn:n≤6) {A:ba} (hA:Shp n n A) {b:aW} (hb:b.length=n):∀ (c i fuel:Nat) (m:ba),i+c=n→c<fuel→m.length=i →
  ∃ s,bo N fuel A b (n:Int) m (i:Int)=some s∧(s=.inl ([],false)∨∃ m' z,s=.inr (m',z)∧m'.length=n∧(∀ a,a<i→aZ m' a=aZ m a)∧∀ a,i≤a→a<n→aZ m' a=aZ A a++[ax b a]):=by
 intro c
 induction c with
 | zero =>
  intro i fuel m hic hf hm
  obtain ⟨fuel,rfl⟩:∃ k',fuel=k'+1:=⟨fuel-1,by omega⟩
  rw [bo,decide_eq_false (by omega),cond_false]
  exact ⟨_,rfl,.inr ⟨m,_,rfl,by omega,fun _ _=>rfl,fun a h1 h2=>by omega⟩⟩
 | succ c ih =>
  intro i fuel m hic hf hm
  obtain ⟨fuel,rfl⟩:∃ k',fuel=k'+1:=⟨fuel-1,by omega⟩
  have hi:i<n:=by omega
  have hAl:=hA.2 i hi
  rw [bo,decide_eq_true (by omega),cond_true,ga (by omega),bs]
  rcases gR hN (ax b i) with hv | hv
  ·unfold VR at hv
   rw [hv,bs,cond_true,ixM (by rw [hA.1];exact hi),bs,bs,bz (by decide) (by rw [List.length_nil];omega),bs,bz (by decide) (by rw [List.length_append,List.length_nil,List.length_singleton];omega),bs,bz (by decide) (by rw [List.length_singleton];omega),bs,bE (by omega) (by omega),bs]
   obtain ⟨s,e1,h1⟩:=ih (i+1) fuel (m++[[]++aZ A i++[((ax b i).1,(ax b i).2)]]) (by omega) (by omega) (by rw [List.length_append,List.length_singleton];omega)
   refine ⟨s,e1,h1.imp id ?_⟩
   rintro ⟨m',z,k1,k2,k3,k4⟩
   have hr1:∀ a,a<i→aZ (m++[[]++aZ A i++[((ax b i).1,(ax b i).2)]]) a=aZ m a:=fun a ha=>by
    unfold aZ;simp [List.getElem?_append_left (show a<m.length by omega)]
   have hr2:aZ (m++[[]++aZ A i++[((ax b i).1,(ax b i).2)]]) i=aZ A i++[ax b i]:=by
    unfold aZ;subst hm;simp
   refine ⟨m',z,k1,k2,fun a ha=>(k3 a (by omega)).trans (hr1 a ha),fun a h1 h2=>?_⟩
   by_cases ea:a=i
   ·subst ea
    rw [k3 a (by omega),hr2]
   ·exact k4 a (by omega) h2
  ·rw [hv,bs,cond_false]
   exact ⟨_,rfl,.inl rfl⟩
def uy (N:Nat) (A:ba) (c:Nat):Prop:=∀ i,i<A.length→(aZ A i).length=c∧∀ j,j<c→VR N (cell A i j)
theorem yN (hN:1073741824≤N) {A:ba} {c:Nat} (hc:c≤1000) {i:Nat} (hi:i<A.length) (hl:(aZ A i).length=c):∀ (d j fuel:Nat) (x:Int),j+d=c→d<fuel →
  ∃ s,cV N fuel A x (c:Int) (i:Int) (j:Int)=some s∧((s=.inl false∧∃ q,j≤q∧q<c∧¬ VR N (cell A i q))∨∃ z,s=.inr z∧∀ q,j≤q→q<c→VR N (cell A i q)):=by
 intro d
 induction d with
 | zero =>
  intro j fuel x hj hf
  obtain ⟨fuel,rfl⟩:∃ k',fuel=k'+1:=⟨fuel-1,by omega⟩
  rw [cV,decide_eq_false (by omega),cond_false]
  exact ⟨_,rfl,.inr ⟨_,rfl,fun q h1 h2=>by omega⟩⟩
 | succ d ih =>
  intro j fuel x hj hf
  obtain ⟨fuel,rfl⟩:∃ k',fuel=k'+1:=⟨fuel-1,by omega⟩
  rw [cV,decide_eq_true (by omega),cond_true,ixM hi,bs,ga (by omega),bs]
  rcases gR hN (ax (aZ A i) j) with hv | hv
  ·have hv':=hv
   unfold VR at hv'
   rw [hv',bs,cond_true,bE (by omega) (by omega),bs]
   obtain ⟨s,e,h⟩:=ih (j+1) fuel x (by omega) (by omega)
   refine ⟨s,e,?_⟩
   rcases h with ⟨h1,q,h2,h3,h4⟩ | ⟨z,h1,h2⟩
   ·exact .inl ⟨h1,q,by omega,h3,h4⟩
   ·refine .inr ⟨z,h1,fun q g1 g2=>?_⟩
    by_cases e:q=j
    ·subst e;exact hv
    ·exact h2 q (by omega) g2
  ·rw [hv,bs,cond_false]
   refine ⟨_,rfl,.inl ⟨rfl,j,Nat.le_refl j,by omega,fun h=>?_⟩⟩
   unfold VR cell at h
   rw [hv] at h;cases h
theorem yG (hN:1073741824≤N) {A:ba} (hA:A.length≤1000) {c:Nat} (hc:c≤1000):∀ (d i fuel:Nat) (x:Int),i+d=A.length→d<fuel →
  ∃ s,cY N fuel A x (c:Int) (i:Int)=some s∧((s=.inl false∧¬ uy N A c)∨∃ z,s=.inr z∧∀ q,i≤q→q<A.length→(aZ A q).length=c∧∀ j,j<c→VR N (cell A q j)):=by
 intro d
 induction d with
 | zero =>
  intro i fuel x hi hf
  obtain ⟨fuel,rfl⟩:∃ k',fuel=k'+1:=⟨fuel-1,by omega⟩
  rw [cY,decide_eq_false (by omega),cond_false]
  exact ⟨_,rfl,.inr ⟨_,rfl,fun q h1 h2=>by omega⟩⟩
 | succ d ih =>
  intro i fuel x hi hf
  obtain ⟨fuel,rfl⟩:∃ k',fuel=k'+1:=⟨fuel-1,by omega⟩
  have hil:i<A.length:=by omega
  rw [cY,decide_eq_true (by omega),cond_true,ixM hil,bs]
  by_cases hl:(aZ A i).length=c
  ·rw [show (((aZ A i).length:Int) != (c:Int))=false by rw [bne_eq_false_iff_eq];omega,cond_false]
   obtain ⟨s,e,h⟩:=yN hN hc hil hl c 0 N x (by omega) (by omega)
   have e':cV N N A x (c:Int) (i:Int) 0=some s:=e
   rw [e',bs]
   rcases h with ⟨rfl,q,_,h3,h4⟩ | ⟨z,rfl,h2⟩
   ·rw [iI]
    exact ⟨_,rfl,.inl ⟨rfl,fun h=>h4 ((h i hil).2 q h3)⟩⟩
   ·rw [fQ,bE (by omega) (by omega),bs]
    obtain ⟨s,e,h⟩:=ih (i+1) fuel x (by omega) (by omega)
    refine ⟨s,e,h.imp id ?_⟩
    rintro ⟨z,h5,h6⟩
    refine ⟨z,h5,fun q g1 g2=>?_⟩
    by_cases e:q=i
    ·subst e;exact ⟨hl,fun j hj=>h2 j (by omega) hj⟩
    ·exact h6 q (by omega) g2
  ·rw [show (((aZ A i).length:Int) != (c:Int))=true by rw [bne_iff_ne];omega,cond_true]
   exact ⟨_,rfl,.inl ⟨rfl,fun h=>hl (h i hil).1⟩⟩
theorem oC (hN:1073741824≤N) {A:ba} (hA:A.length≤1000) {c:Nat} (hc:c≤1000) (n:Nat):∃ b,di N A (n:Int) (c:Int)=some b∧(b=true↔uy N A c∧A.length=n):=by
 unfold di
 obtain ⟨s,e,h⟩:=yG hN hA hc A.length 0 N (n:Int) (by omega) (by omega)
 have e':cY N N A (n:Int) (c:Int) 0=some s:=e
 rw [e',bs]
 rcases h with ⟨rfl,h⟩ | ⟨z,rfl,h⟩
 ·rw [iI]
  exact ⟨false,rfl,fun h=>(by cases h),fun h2=>absurd h2.1 h⟩
 ·rw [fQ]
  refine ⟨_,rfl,?_⟩
  rw [beq_iff_eq]
  exact ⟨fun h2=>⟨fun i hi=>h i (by omega) hi,by omega⟩,fun h2=>by omega⟩
theorem jE (hN:1073741824≤N) {n:Nat} (hn:n≤6) {A:ba} (hA:Shp n n A) {b:aW} (hb:b.length=n) :
  ∃ x ok,bm N A b=some (x,ok)∧(ok=true→x.length=n∧(∀ j,j<n→VR N (ax x j)) ∧
   ∀ y:Nat→Rat,(∀ i,i<n→cA n (fun j=>cv A i j*y j)=rv (ax b i))↔∀ j,j<n→y j=rv (ax x j)):=by
 have hAl:=hA.1
 unfold bm
 rw [decide_eq_false (by omega),cond_false,hb]
 obtain ⟨q,e0,_⟩:=oC hN (A:=A) (by omega) (c:=n) (by omega) n
 rw [e0,bs]
 cases q with
 | false=>exact ⟨_,_,rfl,fun h=>by cases h⟩
 | true =>
  rw [cond_true]
  obtain ⟨s1,e1,h1⟩:=xw hN hn hA hb n 0 N [] (by omega) (by omega) rfl
  have e1':bo N N A b (n:Int) [] 0=some s1:=e1
  rw [e1',bs]
  rcases h1 with rfl | ⟨m,z,rfl,hm,_,hr⟩
  ·rw [iI];exact ⟨_,_,rfl,fun h=>by cases h⟩
  ·rw [fQ]
   have hs:Shp n (n+1) m:=⟨hm,fun i hi=>by rw [hr i (by omega) hi,List.length_append,hA.2 i hi,List.length_singleton]⟩
   have hc1:∀ i j,i<n→j<n→cv m i j=cv A i j:=fun i j hi hj=>by
    unfold cv cell
    rw [hr i (by omega) hi,kU (by rw [hA.2 i hi];exact hj)]
   have hc2:∀ i,i<n→cv m i n=rv (ax b i):=fun i hi=>by
    unfold cv cell
    have:=hA.2 i hi
    rw [hr i (by omega) hi,← this,ki]
   obtain ⟨s2,e2,h2⟩:=wG hN hn n 0 N m (by omega) (by omega) hs (fun i _ q hq=>by omega)
   have e2':bq N N (n:Int) m 0=some s2:=e2
   dsimp only
   rw [e2',bs]
   rcases h2 with rfl | ⟨m',z',rfl,hs',hd,hsol⟩
   ·rw [iI];exact ⟨_,_,rfl,fun h=>by cases h⟩
   ·rw [fQ]
    obtain ⟨s3,e3,h3⟩:=wT hN hn hs' n 0 N [] (by omega) (by omega) rfl
    have e3':bp N N (n:Int) m' [] 0=some s3:=e3
    dsimp only
    rw [e3',bs]
    rcases h3 with rfl | ⟨o,z'',rfl,ho,_,h4⟩
    ·rw [iI];exact ⟨_,_,rfl,fun h=>by cases h⟩
    ·rw [fQ]
     refine ⟨_,_,rfl,fun _=>⟨ho,fun j hj=>(h4 j (by omega) hj).1,fun y=>?_⟩⟩
     have k1:(∀ i,i<n→cA n (fun j=>cv A i j*y j)=rv (ax b i))↔lU n m y:=by
      unfold lU
      constructor
      ·intro h i hi
       rw [dV (h:=fun j=>cv A i j*y j) fun j hj=>by rw [hc1 i j hi hj],hc2 i hi]
       exact h i hi
      ·intro h i hi
       rw [← hc2 i hi,← h i hi]
       exact dV fun j hj=>by rw [hc1 i j hi hj]
     rw [k1,hsol y]
     unfold lU
     have k2:∀ i,i<n→cA n (fun j=>cv m' i j*y j)=cv m' i i*y i:=fun i hi=>nx hi fun j hj hji=>by
      rw [hd i hi j hj (fun e=>hji e.symm)];exact Rat.zero_mul _
     constructor
     ·intro h j hj
      have h5:=h j hj
      rw [k2 j hj] at h5
      obtain ⟨_,g2,g3⟩:=h4 j (by omega) hj
      grind
     ·intro h i hi
      rw [k2 i hi,h i hi]
      obtain ⟨_,g2,g3⟩:=h4 i (by omega) hi
      rw [← g3,Rat.mul_comm]
end
section
variable {N:Nat}
theorem gB (hN:1073741824≤N) {v:Int} (h1:-1000000000≤v) (h2:v≤1000000000):VR N (v,1) :=
 (fu hN).2 ⟨(by decide:(1:Int)≤1),(by decide:(1:Int)≤1000000000),h1,h2,Int.gcd_one⟩
theorem il (v:Int):rv (v,1)=(v:Rat):=by
 unfold rv
 have:((1:Int):Rat)=1:=rfl
 show (v:Rat) / ((1:Int):Rat)=_
 rw [this];grind
theorem yu (hN:1073741824≤N) {n:Int} (h1:-1000000000≤n) (h2:n≤1000000000):bD N n 1=some ((n,1),true):=by
 obtain ⟨a1,a2,a3⟩:=oY n
 obtain ⟨g,e,g1,g2,g3,g4⟩:=mO (N:=N) hN a1 (by decide:(0:Int)≤1) (by decide)
 have hg:g=1:=by
  have:=g3 (.inr (by decide))
  have:=Int.le_of_dvd (by decide) g2
  omega
 subst hg
 have hv:=gB hN h1 h2
 unfold VR at hv
 have q1:qt n 1=some n:=by
  unfold qt;rw [if_pos ⟨by decide,by rw [Int.tdiv_one];exact lp (by omega) (by omega)⟩,Int.tdiv_one]
 have q2:qt 1 1=some 1:=rfl
 unfold bD
 rw [show ((1:Int) == 0)=false from rfl,cond_false,fj (by omega) (by omega),bs,d6,bs,show inR n (0-4000000000000000000) 4000000000000000000=true from cz.2 (by omega),cond_true,bs,d6,bs,show inR 1 (0-4000000000000000000) 4000000000000000000=true from cz.2 (by omega),cond_true,show decide ((1:Int)<0)=false from rfl,cond_false,fj (by omega) (by omega),bs,e,bs,q1,bs,q2,bs,hv,bs,cond_true]
theorem si (hN:1073741824≤N) {a b:Int} (h1:0≤a) (h2:a≤1000) (h3:0≤b) (h4:b≤1000):bJ N a 1 b 1=some ((a*b,1),true):=by
 have m:=ig (a:=a) (b:=b) (by omega) (by omega) (by omega) (by omega)
 have ha:=gB hN (v:=a) (by omega) (by omega)
 have hb:=gB hN (v:=b) (by omega) (by omega)
 have m2:0≤a*b:=Int.mul_nonneg h1 h3
 have m3:a*b≤1000*1000:=Int.mul_le_mul h2 h4 h3 (by decide)
 unfold VR at ha hb
 unfold bJ
 rw [ha,bs,cond_true,hb,bs,cond_true,eN (by omega) (by omega),bs,show ml 1 1=some 1 from rfl,bs,yu hN (by omega) (by omega),bs]
theorem zp (hN:1073741824≤N) {a b:Int} (h1:0≤a) (h2:a≤10000000) (h3:0≤b) (h4:b≤10000000):bI N a 1 b 1=some ((a+b,1),true):=by
 have ha:=gB hN (v:=a) (by omega) (by omega)
 have hb:=gB hN (v:=b) (by omega) (by omega)
 unfold VR at ha hb
 unfold bI
 rw [ha,bs,cond_true,hb,bs,cond_true,eN (by omega) (by omega),bs,eN (by omega) (by omega),bs,Int.mul_one,Int.mul_one,bE (by omega) (by omega),bs,show ml 1 1=some 1 from rfl,bs,yu hN (by omega) (by omega),bs]
theorem wS (hN:1073741824≤N) {a b:aW} (hl:a.length=b.length) (h10:a.length≤1000):∀ (c k fuel:Nat) (x:cL) (u1 u2:Int),k+c=a.length→c<fuel →
  ∃ s,bw N fuel a b u1 u2 x.1 x.2 (k:Int)=some s∧(s=.inl ((0,0),false)∨∃ r z:cL × Int,s=.inr (r.1.1,r.1.2,z.2)∧rv r.1=rv x+(cA a.length (fun j=>rv (ax a j)*rv (ax b j))-cA k (fun j=>rv (ax a j)*rv (ax b j)))∧(VR N x→VR N r.1)):=by
 intro c
 induction c with
 | zero =>
  intro k fuel x u1 u2 hk hf
  obtain ⟨fuel,rfl⟩:∃ k',fuel=k'+1:=⟨fuel-1,by omega⟩
  rw [bw,decide_eq_false (by omega),cond_false]
  obtain rfl:k=a.length:=by omega
  exact ⟨_,rfl,.inr ⟨(x,0),((0,0),_),rfl,by grind,id⟩⟩
 | succ c ih =>
  intro k fuel x u1 u2 hk hf
  obtain ⟨fuel,rfl⟩:∃ k',fuel=k'+1:=⟨fuel-1,by omega⟩
  obtain ⟨r,ok,e,h⟩:=xx hN (ax a k) (ax b k)
  obtain ⟨y,ok2,e2,h2⟩:=xq hN x r
  rw [bw,decide_eq_true (by omega),cond_true,ga (by omega),bs,ga (by omega),bs,e,bs]
  dsimp only
  cases ok with
  | false=>rw [cond_false];exact ⟨_,rfl,.inl rfl⟩
  | true =>
   rw [cond_true,e2,bs]
   dsimp only
   cases ok2 with
   | false=>rw [cond_false];exact ⟨_,rfl,.inl rfl⟩
   | true =>
    rw [cond_true,bE (by omega) (by omega),bs]
    obtain ⟨s,e3,h3⟩:=ih (k+1) fuel y u1 u2 (by omega) (by omega)
    refine ⟨s,e3,h3.imp id ?_⟩
    rintro ⟨r',z,k1,k2,k3⟩
    obtain ⟨_,_,_,g4⟩:=h rfl
    obtain ⟨_,_,f3,f4⟩:=h2 rfl
    refine ⟨r',z,k1,?_,fun _=>k3 f3⟩
    rw [k2,f4,g4]
    have:cA (k+1) (fun j=>rv (ax a j)*rv (ax b j))=cA k (fun j=>rv (ax a j)*rv (ax b j))+rv (ax a k)*rv (ax b k):=rfl
    rw [this]
    grind
theorem xm (hN:1073741824≤N) {a b:aW} (hl:a.length=b.length) (h10:a.length≤1000):∃ r ok,dj N a b=some (r,ok)∧(ok=true→VR N r∧rv r=cA a.length (fun j=>rv (ax a j)*rv (ax b j))):=by
 unfold dj
 rw [show ((a.length:Int) != (b.length:Int))=false by rw [bne_eq_false_iff_eq];omega,cond_false]
 obtain ⟨s,e,h⟩:=wS hN hl h10 a.length 0 N (0,1) 0 0 (by omega) (by omega)
 have e':bw N N a b 0 0 0 1 0=some s:=e
 rw [e',bs]
 rcases h with rfl | ⟨r,z,rfl,h1,h2⟩
 ·rw [iI];exact ⟨_,_,rfl,fun h=>by cases h⟩
 ·rw [fQ]
  refine ⟨r.1,true,rfl,fun _=>⟨h2 (gB hN (by decide) (by decide)),?_⟩⟩
  rw [h1,il]
  have e0:((0:Int):Rat)=0:=rfl
  have e1:cA 0 (fun j=>rv (ax a j)*rv (ax b j))=0:=rfl
  rw [e0,e1]
  grind
def je (r:cL):Prop:=r=(0,1)∨r=(1,1)
theorem vD (hN:1073741824≤N) {a b:aW} (hl:a.length=b.length) (h10:a.length≤1000) (ha:∀ j,j<a.length→je (ax a j)) (hb:∀ j,j<a.length→je (ax b j)):∀ (c k fuel:Nat) (v:Int) (u1 u2:Int),k+c=a.length→c<fuel→0≤v→v≤k →
  ∃ v' z:Int,bw N fuel a b u1 u2 v 1 (k:Int)=some (.inr (v',1,z))∧0≤v'∧v'≤a.length∧v≤v'∧∀ j,k≤j→j<a.length→ax a j=(1,1)→ax b j=(1,1)→v+1≤v':=by
 intro c
 induction c with
 | zero =>
  intro k fuel v u1 u2 hk hf h0 h1
  obtain ⟨fuel,rfl⟩:∃ k',fuel=k'+1:=⟨fuel-1,by omega⟩
  rw [bw,decide_eq_false (by omega),cond_false]
  exact ⟨v,_,rfl,h0,by omega,Int.le_refl v,fun j h1 h2=>by omega⟩
 | succ c ih =>
  intro k fuel v u1 u2 hk hf h0 h1
  obtain ⟨fuel,rfl⟩:∃ k',fuel=k'+1:=⟨fuel-1,by omega⟩
  have hm:∃ p:Int,0≤p∧p≤1∧bJ N (ax a k).1 (ax a k).2 (ax b k).1 (ax b k).2=some ((p,1),true)∧(ax a k=(1,1)→ax b k=(1,1)→p=1):=by
   rcases ha k (by omega) with e1 | e1 <;> rcases hb k (by omega) with e2 | e2 <;> rw [e1,e2]
   ·exact ⟨_,by decide,by decide,si hN (by decide) (by decide) (by decide) (by decide),fun h=>absurd h (by decide)⟩
   ·exact ⟨_,by decide,by decide,si hN (by decide) (by decide) (by decide) (by decide),fun h=>absurd h (by decide)⟩
   ·exact ⟨_,by decide,by decide,si hN (by decide) (by decide) (by decide) (by decide),fun _ h=>absurd h (by decide)⟩
   ·exact ⟨_,by decide,by decide,si hN (by decide) (by decide) (by decide) (by decide),fun _ _=>rfl⟩
  obtain ⟨p,p0,p1,ep,hp⟩:=hm
  rw [bw,decide_eq_true (by omega),cond_true,ga (by omega),bs,ga (by omega),bs,ep,bs]
  dsimp only
  rw [cond_true,zp hN h0 (by omega) p0 (by omega),bs]
  dsimp only
  rw [cond_true,bE (by omega) (by omega),bs]
  obtain ⟨v',z,e3,g1,g2,g3,g4⟩:=ih (k+1) fuel (v+p) u1 u2 (by omega) (by omega) (by omega) (by omega)
  refine ⟨v',z,e3,g1,g2,by omega,fun j h1 h2 h3 h4=>?_⟩
  by_cases e:j=k
  ·subst e
   have:=hp h3 h4
   omega
  ·have:=g4 j (by omega) h2 h3 h4
   omega
theorem zy (hN:1073741824≤N) {a b:aW} (hl:a.length=b.length) (h10:a.length≤1000) (ha:∀ j,j<a.length→je (ax a j)) (hb:∀ j,j<a.length→je (ax b j)) :
  ∃ v:Int,dj N a b=some ((v,1),true)∧0≤v∧v≤1000∧∀ j,j<a.length→ax a j=(1,1)→ax b j=(1,1)→1≤v:=by
 unfold dj
 rw [show ((a.length:Int) != (b.length:Int))=false by rw [bne_eq_false_iff_eq];omega,cond_false]
 obtain ⟨v',z,e,g1,g2,g3,g4⟩:=vD hN hl h10 ha hb a.length 0 N 0 0 0 (by omega) (by omega) (by decide) (by decide)
 have e':bw N N a b 0 0 0 1 0=_:=e
 rw [e',bs,fQ]
 exact ⟨v',rfl,g1,by omega,fun j h1 h2 h3=>by have:=g4 j (by omega) h1 h2 h3;omega⟩
theorem y4 (hN:1073741824≤N) {A:ba} {x:aW} (hA:A.length≤1000) (hx:x.length≤1000) (hl:∀ i,i<A.length→(aZ A i).length=x.length):∀ (c i fuel:Nat) (y:aW),i+c=A.length→c<fuel→y.length=i →
  ∃ s,aR N fuel A x y (i:Int)=some s∧(s=.inl ([],false)∨∃ y' z,s=.inr (y',z)∧y'.length=A.length∧(∀ a,a<i→ax y' a=ax y a) ∧
   ∀ a,i≤a→a<A.length→VR N (ax y' a)∧rv (ax y' a)=cA x.length (fun j=>cv A a j*rv (ax x j))):=by
 intro c
 induction c with
 | zero =>
  intro i fuel y hi hf hy
  obtain ⟨fuel,rfl⟩:∃ k',fuel=k'+1:=⟨fuel-1,by omega⟩
  rw [aR,decide_eq_false (by omega),cond_false]
  exact ⟨_,rfl,.inr ⟨y,_,rfl,by omega,fun _ _=>rfl,fun a h1 h2=>by omega⟩⟩
 | succ c ih =>
  intro i fuel y hi hf hy
  obtain ⟨fuel,rfl⟩:∃ k',fuel=k'+1:=⟨fuel-1,by omega⟩
  have hil:i<A.length:=by omega
  have hrl:=hl i hil
  obtain ⟨r,ok,e,h⟩:=xm hN hrl (by omega)
  rw [aR,decide_eq_true (by omega),cond_true,ixM hil,bs,e,bs]
  dsimp only
  cases ok with
  | false=>rw [cond_false];exact ⟨_,rfl,.inl rfl⟩
  | true =>
   rw [cond_true,bz (by decide) (by rw [List.length_singleton];omega),bs,bE (by omega) (by omega),bs]
   obtain ⟨s,e1,h1⟩:=ih (i+1) fuel (y++[(r.1,r.2)]) (by omega) (by omega) (by rw [List.length_append,List.length_singleton];omega)
   refine ⟨s,e1,h1.imp id ?_⟩
   rintro ⟨y',z,k1,k2,k3,k4⟩
   refine ⟨y',z,k1,k2,fun a ha=>by rw [k3 a (by omega),kU (by omega)],fun a h1 h2=>?_⟩
   by_cases ea:a=i
   ·subst ea
    have hr:ax y' a=r:=by rw [k3 a (by omega),← hy,ki]
    obtain ⟨g1,g2⟩:=h rfl
    rw [hr]
    refine ⟨g1,?_⟩
    rw [g2,hrl]
    rfl
   ·exact k4 a (by omega) h2
theorem tN (hN:1073741824≤N) {A:ba} {x:aW} (hA:A.length≤1000) (hx:x.length≤1000) (hl:∀ i,i<A.length→(aZ A i).length=x.length) (hb:∀ i,i<A.length→∀ j,j<x.length→je (cell A i j)) (hxb:∀ j,j<x.length→je (ax x j)) (hc:∀ i,i<A.length→∃ j,j<x.length∧cell A i j=(1,1)∧ax x j=(1,1)):∀ (c i fuel:Nat) (y:aW),i+c=A.length→c<fuel→y.length=i→(∀ a,a<i→∃ v:Int,ax y a=(v,1)∧1≤v∧v≤1000) →
  ∃ y' z,aR N fuel A x y (i:Int)=some (.inr (y',z))∧y'.length=A.length∧∀ a,a<A.length→∃ v:Int,ax y' a=(v,1)∧1≤v∧v≤1000:=by
 intro c
 induction c with
 | zero =>
  intro i fuel y hi hf hy hy2
  obtain ⟨fuel,rfl⟩:∃ k',fuel=k'+1:=⟨fuel-1,by omega⟩
  rw [aR,decide_eq_false (by omega),cond_false]
  exact ⟨y,_,rfl,by omega,fun a ha=>hy2 a (by omega)⟩
 | succ c ih =>
  intro i fuel y hi hf hy hy2
  obtain ⟨fuel,rfl⟩:∃ k',fuel=k'+1:=⟨fuel-1,by omega⟩
  have hil:i<A.length:=by omega
  have hrl:=hl i hil
  obtain ⟨v,e,v0,v1,h⟩:=zy hN hrl (by omega) (fun j hj=>hb i hil j (by omega)) fun j hj=>hxb j (by omega)
  rw [aR,decide_eq_true (by omega),cond_true,ixM hil,bs,e,bs]
  dsimp only
  rw [cond_true,bz (by decide) (by rw [List.length_singleton];omega),bs,bE (by omega) (by omega),bs]
  refine ih (i+1) fuel (y++[(v,1)]) (by omega) (by omega) (by rw [List.length_append,List.length_singleton];omega) fun a ha=>?_
  by_cases ea:a=i
  ·subst ea
   refine ⟨v,by rw [← hy,ki],?_,v1⟩
   obtain ⟨j,h1,h2,h3⟩:=hc a hil
   exact h j (by omega) h2 h3
  ·rw [kU (by omega)]
   exact hy2 a (by omega)
end
def ip (a:aX) (v:Int):cL:=bif decide (v∈a.2) then (1,1) else (0,1)
def dF (atoms:List aX) (v:Int):aW:=atoms.map fun a=>ip a v
def aM (n:Nat) (atoms:List aX):ba:=(List.range' 0 n).map fun v:Nat=>dF atoms (v:Int)
def aA (n:Nat):aW:=List.replicate n (1,1)
theorem kj (n:Nat):aA n++[(1,1)]=aA (n+1):=by unfold aA;rw [List.replicate_succ']
theorem pO (n:Nat) (atoms:List aX):aM n atoms++[dF atoms (n:Int)]=aM (n+1) atoms:=by
 unfold aM
 rw [List.range'_concat,List.map_append]
 simp
section
variable {N:Nat}
theorem xF (hN:1073741824≤N) {n v:Int} {atoms:List aX} {out:List Int} {b1 b4:ba} {b2 b3 b5 b6:aW} (ha:eT atoms) (h4:atoms.length≤1000) :
  b9 N N n atoms out b1 b2 b3 b4 b5 b6 v [] 0=some (dF atoms v,(atoms.length:Int)) :=
 gW (fun k (o:aW) i=>b9 N k n atoms out b1 b2 b3 b4 b5 b6 v o i) atoms.length (fun i=>dF (atoms.take i) v) (dF atoms v,(atoms.length:Int))
  (fun k i h=>by
   show b9 N (k+1) n atoms out b1 b2 b3 b4 b5 b6 v (dF (atoms.take i) v) (i:Int)=b9 N k n atoms out b1 b2 b3 b4 b5 b6 v (dF (atoms.take (i+1)) v) ((i+1:Nat):Int)
   have hl:(dF (atoms.take i) v).length≤1000:=by unfold dF;rw [List.length_map,List.length_take];omega
   have e:dF (atoms.take (i+1)) v=dF (atoms.take i) v++[ip atoms[i] v]:=by
    unfold dF
    rw [List.take_succ_eq_append_getElem h,List.map_append];rfl
   rw [b9,dlt h,cond_true,aV h,bs,iP hN (qh ha h),bs,e]
   unfold ip
   cases decide (v∈atoms[i].2) with
   | true=>rw [cond_true,cond_true,bz (by decide) (by rw [List.length_singleton];omega),bs,ad1 (by omega),bs]
   | false=>rw [cond_false,cond_false,bz (by decide) (by rw [List.length_singleton];omega),bs,ad1 (by omega),bs])
  (fun k=>by
   show b9 N (k+1) n atoms out b1 b2 b3 b4 b5 b6 v (dF (atoms.take atoms.length) v) (atoms.length:Int)=_
   rw [b9,dge (by omega),cond_false,List.take_length]) N 0 (by omega) (by omega)
theorem xp (hN:1073741824≤N) {n:Nat} (hn:n≤1000) {atoms:List aX} {out:List Int} {b1:ba} {b2 b3 b6:aW} (ha:eT atoms) (h4:atoms.length≤1000) :
  cG N N (n:Int) atoms out b1 b2 b3 [] [] b6 0=some (aM n atoms,aA n,(n:Int)) :=
 gW (fun k (o:ba × aW) i=>cG N k (n:Int) atoms out b1 b2 b3 o.1 o.2 b6 i) n (fun i=>(aM i atoms,aA i)) (aM n atoms,aA n,(n:Int))
  (fun k i h=>by
   show cG N (k+1) (n:Int) atoms out b1 b2 b3 (aM i atoms) (aA i) b6 (i:Int)=cG N k (n:Int) atoms out b1 b2 b3 (aM (i+1) atoms) (aA (i+1)) b6 ((i+1:Nat):Int)
   have h1:(aM i atoms).length=i:=by unfold aM;simp
   have h2:(aA i).length=i:=by unfold aA;simp
   rw [cG,dlt h,cond_true,xF hN ha h4,bs,lpB]
   dsimp only
   rw [bz (by decide) (by rw [List.length_singleton];omega),bs,bz (by decide) (by rw [List.length_singleton];omega),bs,ad1 (by omega),bs,pO,kj])
  (fun k=>by
   show cG N (k+1) (n:Int) atoms out b1 b2 b3 (aM n atoms) (aA n) b6 (n:Int)=_
   rw [cG,dge (by omega),cond_false]) N 0 (by omega) (by omega)
theorem xO (hN:1073741824≤N) {n:Int} {atoms:List aX} {out:List Int} {b1 b4:ba} {b2 b3 b5:aW} (h4:atoms.length≤1000) :
  cJ N N n atoms out b1 b2 b3 b4 b5 [] 0=some (aA atoms.length,(atoms.length:Int)) :=
 gW (fun k (o:aW) i=>cJ N k n atoms out b1 b2 b3 b4 b5 o i) atoms.length (fun i=>aA i) (aA atoms.length,(atoms.length:Int))
  (fun k i h=>by
   show cJ N (k+1) n atoms out b1 b2 b3 b4 b5 (aA i) (i:Int)=cJ N k n atoms out b1 b2 b3 b4 b5 (aA (i+1)) ((i+1:Nat):Int)
   have h2:(aA i).length=i:=by unfold aA;simp
   rw [cJ,dlt h,cond_true,bz (by decide) (by rw [List.length_singleton];omega),bs,ad1 (by omega),bs,kj])
  (fun k=>by
   show cJ N (k+1) n atoms out b1 b2 b3 b4 b5 (aA atoms.length) (atoms.length:Int)=_
   rw [cJ,dge (by omega),cond_false]) N 0 (by omega) (by omega)
theorem oh (hN:1073741824≤N) {n:Nat} {atoms:List aX} {out:List Int} (ha:eT atoms) (ho:okI out) (hq:fM (n:Int) atoms out=true) :
  fz N (n:Int) atoms out=some ((aM n atoms,aA n,aA atoms.length),true):=by
 obtain ⟨_,n5,_,a4⟩:=ka hq
 unfold fz
 rw [jx hN ha ho,bs,hq,cond_true,xp hN (by omega) ha (by omega),bs,lpB]
 dsimp only
 rw [xO hN (by omega),bs,lpB]
theorem cg {n:Nat} {atoms:List aX}:(aM n atoms).length=n:=by unfold aM;simp
theorem qd {n v:Nat} {atoms:List aX} (hv:v<n):aZ (aM n atoms) v=dF atoms (v:Int):=by
 unfold aZ aM
 rw [List.getD_eq_getElem?_getD,List.getElem?_map,List.getElem?_range' hv]
 simp
theorem it {n v i:Nat} {atoms:List aX} (hv:v<n) (hi:i<atoms.length):cell (aM n atoms) v i=ip (g6 atoms i) (v:Int):=by
 unfold cell
 rw [qd hv]
 unfold dF ax
 rw [pz hi]
 simp [hi]
theorem lJ {n i:Nat} (h:i<n):ax (aA n) i=(1,1):=by unfold ax aA;simp [h]
theorem ja (a:aX) (v:Int):je (ip a v):=by
 unfold ip je
 cases decide (v∈a.2)
 ·exact .inl rfl
 ·exact .inr rfl
theorem qI (hN:1073741824≤N) {r:cL} (h:je r):VR N r:=by
 rcases h with rfl | rfl
 ·exact gB hN (by decide) (by decide)
 ·exact gB hN (by decide) (by decide)
theorem jU {n:Nat} {atoms:List aX}:Shp n atoms.length (aM n atoms) :=
 ⟨cg,fun i hi=>by rw [qd hi];unfold dF;rw [List.length_map]⟩
theorem nY (hN:1073741824≤N) {n:Nat} {atoms:List aX} (n1:1≤n) (n5:n≤5) (a1:1≤atoms.length) (a4:atoms.length≤4):bL N (aM n atoms) (aA n) (aA atoms.length)=some true:=by
 have l1:(aA n).length=n:=by unfold aA;simp
 have l2:(aA atoms.length).length=atoms.length:=by unfold aA;simp
 unfold bL
 have one:∀ k:Nat,k≤1000→uy N [aA k] k:=fun k _ i hi=>by
  obtain rfl:i=0:=by simpa using hi
  refine ⟨by show (aA k).length=k;unfold aA;simp,fun j hj=>?_⟩
  have:cell [aA k] 0 j=(1,1):=lJ hj
  rw [this];exact gB hN (by decide) (by decide)
 obtain ⟨b1,e1,h1⟩:=oC hN (A:=aM n atoms) (by rw [cg];omega) (c:=atoms.length) (by omega) n
 obtain ⟨b2,e2,h2⟩:=oC hN (A:=[aA atoms.length]) (by simp) (c:=atoms.length) (by omega) 1
 obtain ⟨b3,e3,h3⟩:=oC hN (A:=[aA n]) (by simp) (c:=n) (by omega) 1
 have t1:b1=true:=h1.2 ⟨fun i hi=>by
  rw [cg] at hi
  exact ⟨jU.2 i hi,fun j hj=>by rw [it hi hj];exact qI hN (ja _ _)⟩,cg⟩
 have t2:b2=true:=h2.2 ⟨one _ (by omega),rfl⟩
 have t3:b3=true:=h3.2 ⟨one _ (by omega),rfl⟩
 have e2':di N [aA atoms.length] 1 (atoms.length:Int)=some b2:=e2
 have e3':di N [aA n] 1 (n:Int)=some b3:=e3
 rw [l1,l2,d6,bs,show inR (atoms.length:Int) 1 5=true from cz.2 (by omega),cond_true,d6,bs,show inR (n:Int) 1 5=true from cz.2 (by omega),cond_true,e1,bs,t1,cond_true,e2',bs,t2,cond_true,e3',bs,t3]
theorem wy (hN:1073741824≤N) {x:aW} (hl:x.length≤1000) {sg:Int} {A:ba} {B C:aW}:∀ (c k fuel:Nat),k+c=x.length→c<fuel →
  ∃ s,cw N fuel x sg A B C (k:Int)=some s∧((s=.inl false∧∃ j,k≤j∧j<x.length∧¬ (VR N (ax x j)∧0≤(ax x j).1))∨∃ z,s=.inr z∧∀ j,k≤j→j<x.length→VR N (ax x j)∧0≤(ax x j).1):=by
 intro c
 induction c with
 | zero =>
  intro k fuel hk hf
  obtain ⟨fuel,rfl⟩:∃ k',fuel=k'+1:=⟨fuel-1,by omega⟩
  rw [cw,decide_eq_false (by omega),cond_false]
  exact ⟨_,rfl,.inr ⟨_,rfl,fun j h1 h2=>by omega⟩⟩
 | succ c ih =>
  intro k fuel hk hf
  obtain ⟨fuel,rfl⟩:∃ k',fuel=k'+1:=⟨fuel-1,by omega⟩
  rw [cw,decide_eq_true (by omega),cond_true,ga (by omega),bs]
  rcases gR hN (ax x k) with hv | hv
  ·have hv':=hv
   unfold VR at hv'
   rw [hv',bs,cond_true,bs]
   by_cases h0:(ax x k).1<0
   ·rw [decide_eq_true h0,cond_true]
    exact ⟨_,rfl,.inl ⟨rfl,k,Nat.le_refl k,by omega,fun h=>by omega⟩⟩
   ·rw [decide_eq_false h0,cond_false,bE (by omega) (by omega),bs]
    obtain ⟨s,e,h⟩:=ih (k+1) fuel (by omega) (by omega)
    refine ⟨s,e,?_⟩
    rcases h with ⟨h1,j,h2,h3,h4⟩ | ⟨z,h1,h2⟩
    ·exact .inl ⟨h1,j,by omega,h3,h4⟩
    ·refine .inr ⟨z,h1,fun j g1 g2=>?_⟩
     by_cases e:j=k
     ·subst e;exact ⟨hv,by omega⟩
     ·exact h2 j (by omega) g2
  ·rw [hv,bs,cond_false]
   refine ⟨_,rfl,.inl ⟨rfl,k,Nat.le_refl k,by omega,fun h=>?_⟩⟩
   have:=h.1
   unfold VR at this
   rw [hv] at this;cases this
theorem ry (hN:1073741824≤N) {y B:aW} (hl:y.length≤1000) (hb:y.length≤B.length) {A:ba} {C:aW} {u:Bool}:∀ (c k fuel:Nat),k+c=y.length→c<fuel →
  ∃ s,bU N fuel 1 A B C y u (k:Int)=some s∧((s=.inl false∧∃ j,k≤j∧j<y.length∧(VR N (ax y j)→VR N (ax B j)→rv (ax y j)<rv (ax B j)))∨∃ z,s=.inr z∧∀ j,k≤j→j<y.length→VR N (ax y j)→VR N (ax B j)→¬ rv (ax y j)<rv (ax B j)):=by
 intro c
 induction c with
 | zero =>
  intro k fuel hk hf
  obtain ⟨fuel,rfl⟩:∃ k',fuel=k'+1:=⟨fuel-1,by omega⟩
  rw [bU,decide_eq_false (by omega),cond_false]
  exact ⟨_,rfl,.inr ⟨_,rfl,fun j h1 h2=>by omega⟩⟩
 | succ c ih =>
  intro k fuel hk hf
  obtain ⟨fuel,rfl⟩:∃ k',fuel=k'+1:=⟨fuel-1,by omega⟩
  obtain ⟨q,e1,q1,q2,h⟩:=zc hN (ax y k) (ax B k)
  rw [bU,decide_eq_true (by omega),cond_true,ga (by omega),bs,ga (by omega),bs,e1,bs,eN (by omega) (by omega),bs,Int.mul_one]
  by_cases h0:q<0
  ·rw [decide_eq_true h0,cond_true]
   exact ⟨_,rfl,.inl ⟨rfl,k,Nat.le_refl k,by omega,fun v1 v2=>(h v1 v2).1 h0⟩⟩
  ·rw [decide_eq_false h0,cond_false,bE (by omega) (by omega),bs]
   obtain ⟨s,e,h'⟩:=ih (k+1) fuel (by omega) (by omega)
   refine ⟨s,e,?_⟩
   rcases h' with ⟨h1,j,h2,h3,h4⟩ | ⟨z,h1,h2⟩
   ·exact .inl ⟨h1,j,by omega,h3,h4⟩
   ·refine .inr ⟨z,h1,fun j g1 g2=>?_⟩
    by_cases e:j=k
    ·subst e;exact fun v1 v2 hlt=>h0 ((h v1 v2).2 hlt)
    ·exact h2 j (by omega) g2
structure FeasR (N n:Nat) (atoms:List aX) (x:aW):Prop where
 len:x.length=atoms.length
 ok:∀ j,j<x.length→VR N (ax x j)∧0≤(ax x j).1
 ge:∀ v,v<n→1≤cA atoms.length (fun j=>cv (aM n atoms) v j*rv (ax x j))
theorem re (hN:1073741824≤N) {n:Nat} {atoms:List aX} (n1:1≤n) (n5:n≤5) (a1:1≤atoms.length) (a4:atoms.length≤4) {x:aW} (hx:x.length=atoms.length) :
  ∃ b,dA N (aM n atoms) (aA n) (aA atoms.length) x 1=some b∧(b=true→FeasR N n atoms x) ∧
   ((∀ j,j<x.length→je (ax x j))→(∀ v,v<n→∃ j,j<x.length∧cell (aM n atoms) v j=(1,1)∧ax x j=(1,1))→b=true):=by
 have l1:(aA n).length=n:=by unfold aA;simp
 have l2:(aA atoms.length).length=atoms.length:=by unfold aA;simp
 unfold dA
 rw [nY hN n1 n5 a1 a4,bs,cond_true,l2,show ((x.length:Int) != (atoms.length:Int))=false by rw [bne_eq_false_iff_eq];omega,cond_false]
 obtain ⟨s1,e1,h1⟩:=wy hN (x:=x) (by omega) (sg:=1) (A:=aM n atoms) (B:=aA n) (C:=aA atoms.length) x.length 0 N (by omega) (by omega)
 have e1':cw N N x 1 (aM n atoms) (aA n) (aA atoms.length) 0=some s1:=e1
 rw [e1',bs]
 rcases h1 with ⟨rfl,j,_,h2,h3⟩ | ⟨z,rfl,h1⟩
 ·rw [iI]
  refine ⟨_,rfl,fun h=>(by cases h),fun hb _=>absurd ⟨qI hN (hb j h2),?_⟩ h3⟩
  rcases hb j h2 with e | e <;> rw [e] <;> decide
 ·rw [fQ]
  have hsh:=jU (n:=n) (atoms:=atoms)
  have hrl:∀ i,i<(aM n atoms).length→(aZ (aM n atoms) i).length=x.length:=fun i hi=>by rw [hsh.2 i (by rw [← cg (n:=n) (atoms:=atoms)];exact hi),hx]
  obtain ⟨s2,e2,h2⟩:=y4 hN (A:=aM n atoms) (x:=x) (by rw [cg];omega) (by omega) hrl (aM n atoms).length 0 N [] (by omega) (by rw [cg];omega) rfl
  have e2':aR N N (aM n atoms) x [] 0=some s2:=e2
  unfold bB
  rw [e2',bs]
  rcases h2 with rfl | ⟨y,z',rfl,hy,_,hv⟩
  ·rw [iI,bs]
   obtain ⟨s3,e3,_⟩:=ry hN (y:=[]) (B:=aA n) (by decide) (Nat.zero_le _) (A:=aM n atoms) (C:=aA atoms.length) (u:=false) 0 0 N rfl (by omega)
   have e3':bU N N 1 (aM n atoms) (aA n) (aA atoms.length) [] false 0=some s3:=e3
   dsimp only
   rw [e3',bs]
   have bad:¬ ((∀ j,j<x.length→je (ax x j))∧∀ v,v<n→∃ j,j<x.length∧cell (aM n atoms) v j=(1,1)∧ax x j=(1,1)):=by
    rintro ⟨hb,hc⟩
    obtain ⟨y',z2,e4,_⟩:=tN hN (A:=aM n atoms) (x:=x) (by rw [cg];omega) (by omega) hrl (fun i hi j hj=>by
     rw [cg] at hi
     rw [it hi (by omega)];exact ja _ _) hb (fun i hi=>hc i (by rw [cg] at hi;exact hi)) (aM n atoms).length 0 N [] (by omega) (by rw [cg];omega) rfl (fun a ha=>by omega)
    have:=e4.symm.trans e2
    cases this
   cases s3 with
   | inl q =>
    rw [iI]
    refine ⟨q,rfl,?_,fun hb hc=>absurd ⟨hb,hc⟩ bad⟩
    rename_i h6
    rcases h6 with ⟨h7,j,_,h8,_⟩ | ⟨z3,h7,_⟩
    ·exact absurd h8 (Nat.not_lt_zero _)
    ·cases h7
   | inr q =>
    rw [fQ]
    exact ⟨false,rfl,fun h=>(by cases h),fun hb hc=>absurd ⟨hb,hc⟩ bad⟩
  ·rw [fQ,bs]
   rw [cg] at hy hv
   obtain ⟨s3,e3,h3⟩:=ry hN (y:=y) (B:=aA n) (by omega) (by omega) (A:=aM n atoms) (C:=aA atoms.length) (u:=true) y.length 0 N (by omega) (by omega)
   have e3':bU N N 1 (aM n atoms) (aA n) (aA atoms.length) y true 0=some s3:=e3
   dsimp only
   rw [e3',bs]
   have vB:∀ j,j<n→VR N (ax (aA n) j)∧rv (ax (aA n) j)=1:=fun j hj=>by
    rw [lJ hj]
    exact ⟨gB hN (by decide) (by decide),il 1⟩
   rcases h3 with ⟨rfl,j,_,g1,g2⟩ | ⟨z3,rfl,g⟩
   ·rw [iI]
    refine ⟨false,rfl,fun h=>(by cases h),fun hb hc=>?_⟩
    exfalso
    obtain ⟨y',z2,e4,_,h5⟩:=tN hN (A:=aM n atoms) (x:=x) (by rw [cg];omega) (by omega) hrl (fun i hi j hj=>by
     rw [cg] at hi
     rw [it hi (by omega)];exact ja _ _) hb (fun i hi=>hc i (by rw [cg] at hi;exact hi)) (aM n atoms).length 0 N [] (by omega) (by rw [cg];omega) rfl (fun a ha=>by omega)
    have h6:=e4.symm.trans e2
    have h7:y'=y:=by
     have:=Option.some.inj h6
     injection this with this
     exact congrArg Prod.fst this
    subst h7
    obtain ⟨w,hw,w1,_⟩:=h5 j (by rw [cg];omega)
    have g3:=g2 (hv j (by omega) (by omega)).1 (vB j (by omega)).1
    rw [(vB j (by omega)).2,hw,il] at g3
    have:((1:Int):Rat)≤(w:Rat):=Rat.intCast_le_intCast.2 w1
    have e1:((1:Int):Rat)=1:=rfl
    grind
   ·rw [fQ]
    refine ⟨true,rfl,fun _=>⟨hx,fun j hj=>h1 j (by omega) hj,fun v hv'=>?_⟩,fun _ _=>rfl⟩
    obtain ⟨k1,k2⟩:=hv v (by omega) hv'
    have g3:=g v (by omega) (by omega) k1 (vB v hv').1
    rw [(vB v hv').2,k2,hx] at g3
    exact Rat.not_lt.1 g3
end
def cO:Nat→Nat→Nat→List (List Int)
 | 0,_,_=>[[]]
 | n+1,f,t=>(List.range' f (t-n-f)).flatMap fun i:Nat=>(cO n (i+1) t).map fun l=>(i:Int) :: l
theorem kT:∀ (n f t:Nat),(cO n f t).length≤t ^ n
 | 0,f,t=>by rw [Nat.pow_zero];exact Nat.le_refl 1
 | n+1,f,t=>by
  unfold cO
  have h:=nh (g:=fun i:Nat=>(cO n (i+1) t).map fun l=>(i:Int) :: l) (k:=t ^ n) (fun i=>by rw [List.length_map];exact kT n (i+1) t) (List.range' f (t-n-f))
  rw [List.length_range'] at h
  refine Nat.le_trans h ?_
  rw [Nat.pow_succ,Nat.mul_comm]
  exact Nat.mul_le_mul_left _ (by omega)
theorem iW:∀ {n f t:Nat} {l:List Int},l∈cO n f t→l.length=n∧∀ v∈l,(f:Int)≤v∧v<t
 | 0,f,t,l,h=>by
  rw [List.mem_singleton.1 h];exact ⟨rfl,by simp⟩
 | n+1,f,t,l,h=>by
  unfold cO at h
  obtain ⟨i,hi,h⟩:=List.mem_flatMap.1 h
  obtain ⟨s,hs,rfl⟩:=List.mem_map.1 h
  obtain ⟨h1,h2⟩:=iW hs
  rw [List.mem_range'_1] at hi
  refine ⟨by rw [List.length_cons,h1],fun v hv=>?_⟩
  rcases List.mem_cons.1 hv with rfl | hv
  ·omega
  ·have:=h2 v hv;omega
theorem pJ:∀ {n f t:Nat} {l:List Nat},l.length=n→l.Pairwise (·<·)→(∀ v∈l,f≤v∧v<t)→l.map (fun v:Nat=>(v:Int))∈cO n f t
 | 0,f,t,l,h,_,_=>by
  rw [List.length_eq_zero_iff.1 h];exact List.mem_singleton.2 rfl
 | n+1,f,t,[],h,_,_=>by simp at h
 | n+1,f,t,i :: l,h,hp,hb=>by
  obtain ⟨p1,p2⟩:=List.pairwise_cons.1 hp
  have hl:l.length=n:=by simpa using h
  have hi:=hb i List.mem_cons_self
  have room:∀ (k a:Nat) (s:List Nat),s.length=k→s.Pairwise (·<·)→(∀ v∈s,a<v∧v<t)→a<t→a+k<t:=by
   intro k
   induction k with
   | zero=>intro a s _ _ _ h;omega
   | succ k ih =>
    intro a s hs hp2 hb2 hat
    cases s with
    | nil=>simp at hs
    | cons b s =>
     obtain ⟨q1,q2⟩:=List.pairwise_cons.1 hp2
     have hb3:=hb2 b List.mem_cons_self
     have:=ih b s (by simpa using hs) q2 (fun v hv=>⟨q1 v hv,(hb2 v (List.mem_cons_of_mem _ hv)).2⟩) hb3.2
     omega
  have hr:=room n i l hl p2 (fun v hv=>⟨p1 v hv,(hb v (List.mem_cons_of_mem _ hv)).2⟩) hi.2
  unfold cO
  refine List.mem_flatMap.2 ⟨i,List.mem_range'_1.2 ⟨hi.1,by omega⟩,?_⟩
  rw [List.map_cons]
  exact List.mem_map.2 ⟨_,pJ hl p2 (fun v hv=>⟨p1 v hv,(hb v (List.mem_cons_of_mem _ hv)).2⟩),rfl⟩
theorem vE {rec:Int→Int→Int→Option (List (List Int))} {N:Nat} {t n i:Int} {acc rest:List (List Int)} (hN:rest.length<N) (hr:rest.length≤100000) (ha:acc.length≤1000000) (hl:∀ l∈rest,l.length≤1000) :
  dN rec N N t n acc i rest 0=some (acc++rest.map (fun l=>i :: l),(rest.length:Int)):=by
 have h:=gW (fun k (o:List (List Int)) j=>dN rec N k t n o i rest j) rest.length (fun j=>acc++(rest.take j).map fun l=>i :: l) (acc++rest.map (fun l=>i :: l),(rest.length:Int))
  (fun k j h=>by
   have hm:=hl _ (List.getElem_mem h)
   show dN rec N (k+1) t n (acc++(rest.take j).map fun l=>i :: l) i rest (j:Int)=dN rec N k t n (acc++(rest.take (j+1)).map fun l=>i :: l) i rest ((j+1:Nat):Int)
   rw [dN,dlt h,cond_true,aV h,bs,bz (by decide) (by rw [List.length_singleton];omega),bs,bz (by decide) (by rw [List.length_append,List.length_map,List.length_take,List.length_singleton];omega),bs,ad1 (by omega),bs,List.take_succ_eq_append_getElem h,List.map_append,List.append_assoc]
   rfl)
  (fun k=>by
   show dN rec N (k+1) t n (acc++(rest.take rest.length).map fun l=>i :: l) i rest (rest.length:Int)=_
   rw [dN,dge (by omega),cond_false,List.take_length]) N 0 (by omega) (by omega)
 rw [List.take_zero,List.map_nil,List.append_nil] at h
 exact h
theorem r9 {t n:Nat} (ht:t≤9) (hn:n≤4):t ^ n≤6561 :=
 Nat.le_trans (Nat.pow_le_pow_left ht n) (Nat.le_trans (Nat.pow_le_pow_right (by decide) hn) (by decide))
theorem lY:∀ (n M f t:Nat),n≤4→t≤9→f≤10→10000+n<M→dD M (f:Int) (t:Int) (n:Int)=some (cO n f t)
 | 0,M,f,t,_,_,_,hM=>by
  obtain ⟨M,rfl⟩:∃ k,M=k+1:=⟨M-1,by omega⟩
  rw [dD,show (((0:Nat):Int) == 0)=true from rfl,cond_true];rfl
 | n+1,M,f,t,hn,ht,hf,hM=>by
  obtain ⟨M,rfl⟩:∃ k,M=k+1:=⟨M-1,by omega⟩
  rw [dD,show (((n+1:Nat):Int) == 0)=false by rw [beq_eq_false_iff_ne];omega,cond_false]
  have key:∀ (d i fuel:Nat) (acc:List (List Int)),t-n-i=d→d<fuel→i≤10→acc.length+d*6561≤1000000 →
    ∃ z,fV (dD M) M fuel (t:Int) ((n+1:Nat):Int) acc (i:Int)=some (acc++(List.range' i d).flatMap (fun i:Nat=>(cO n (i+1) t).map fun l=>(i:Int) :: l),z):=by
   intro d
   induction d with
   | zero =>
    intro i fuel acc hd hfu hi ha
    obtain ⟨fuel,rfl⟩:∃ k,fuel=k+1:=⟨fuel-1,by omega⟩
    rw [fV,bE (by omega) (by omega),bs,decide_eq_false (by omega),cond_false]
    refine ⟨(i:Int),?_⟩
    rw [List.range'_zero,List.flatMap_nil,List.append_nil]
   | succ d ih =>
    intro i fuel acc hd hfu hi ha
    obtain ⟨fuel,rfl⟩:∃ k,fuel=k+1:=⟨fuel-1,by omega⟩
    have hlen:=Nat.le_trans (kT n (i+1) t) (r9 (n:=n) ht (by omega))
    have e1:dD M ((i:Int)+1) (t:Int) ((n+1:Nat)-1:Int)=some (cO n (i+1) t):=by
     have h:=lY n M (i+1) t (by omega) ht (by omega) (by omega)
     rw [show ((i:Int)+1)=((i+1:Nat):Int) by omega,show (((n+1:Nat):Int)-1)=(n:Int) by omega]
     exact h
    rw [fV,bE (by omega) (by omega),bs,decide_eq_true (by omega),cond_true,bE (by omega) (by omega),bs,fj (by omega) (by omega),bs,e1,bs,vE (by omega) (by omega) (by omega) (fun l hl=>by have:=(iW hl).1;omega),bs,lpB]
    dsimp only
    rw [bs]
    obtain ⟨z,h⟩:=ih (i+1) fuel (acc++(cO n (i+1) t).map fun l=>(i:Int) :: l) (by omega) (by omega) (by omega) (by rw [List.length_append,List.length_map];omega)
    refine ⟨z,?_⟩
    rw [List.range'_succ,List.flatMap_cons,← List.append_assoc]
    exact h
  obtain ⟨z,h⟩:=key (t-n-f) f M [] rfl (by omega) hf (by rw [List.length_nil];omega)
  rw [h,bs,lpB,List.nil_append]
  rfl
def dy (n i:Nat):aW:=(List.replicate n (0,1)).set i (1,1)
def fm (A:ba) (m n:Nat) (j:Nat):aW:=if j<m then aZ A j else dy n (j-m)
def f6 (m:Nat) (j:Nat):cL:=if j<m then (1,1) else (0,1)
def gl (l:List Int):List Nat:=l.map Int.toNat
def df (A:ba) (m n:Nat) (l:List Int):ba:=(gl l).map (fm A m n)
def cW (m:Nat) (l:List Int):aW:=(gl l).map (f6 m)
section
variable {N:Nat}
theorem yd (hN:1073741824≤N) {n:Nat} (hn:n≤1000) {sg m i k j:Int} {A a out:ba} {B C b:aW} {l:List (List Int)} :
  bR N N sg A B C out (n:Int) m l i a b k j [] 0=some (List.replicate n (0,1),(n:Int)) :=
 gW (fun q (o:aW) v=>bR N q sg A B C out (n:Int) m l i a b k j o v) n (fun v=>List.replicate v (0,1)) (List.replicate n (0,1),(n:Int))
  (fun q v h=>by
   show bR N (q+1) sg A B C out (n:Int) m l i a b k j (List.replicate v (0,1)) (v:Int)=bR N q sg A B C out (n:Int) m l i a b k j (List.replicate (v+1) (0,1)) ((v+1:Nat):Int)
   rw [bR,dlt h,cond_true,bz (by decide) (by rw [List.length_replicate,List.length_singleton];omega),bs,ad1 (by omega),bs,List.replicate_succ'])
  (fun q=>by
   show bR N (q+1) sg A B C out (n:Int) m l i a b k j (List.replicate n (0,1)) (n:Int)=_
   rw [bR,dge (by omega),cond_false]) N 0 (by omega) (by omega)
theorem ua (hN:1073741824≤N) {n m:Nat} (hn:n≤4) (hm:m≤5) {sg:Int} {A out:ba} {C:aW} (hA:A.length=m) {L:List (List Int)} {i:Nat} (hi:i<L.length) (hl:L[i].length=n) (hb:∀ v∈L[i],0≤v∧v<(m+n:Nat)) :
  bN N N sg A (aA m) C out (n:Int) (m:Int) L (i:Int) [] [] 0=some (df A m n L[i],cW m L[i],(n:Int)):=by
 have h:=gW (fun q (o:ba × aW) k=>bN N q sg A (aA m) C out (n:Int) (m:Int) L (i:Int) o.1 o.2 k) n (fun k=>(df A m n (L[i].take k),cW m (L[i].take k))) (df A m n L[i],cW m L[i],(n:Int))
  (fun q k h=>by
   show bN N (q+1) sg A (aA m) C out (n:Int) (m:Int) L (i:Int) (df A m n (L[i].take k)) (cW m (L[i].take k)) (k:Int)=bN N q sg A (aA m) C out (n:Int) (m:Int) L (i:Int) (df A m n (L[i].take (k+1))) (cW m (L[i].take (k+1))) ((k+1:Nat):Int)
   have hk:k<L[i].length:=by omega
   have hv:=hb _ (List.getElem_mem hk)
   have l1:(df A m n (L[i].take k)).length≤1000:=by unfold df gl;rw [List.length_map,List.length_map,List.length_take];omega
   have l2:(cW m (L[i].take k)).length≤1000:=by unfold cW gl;rw [List.length_map,List.length_map,List.length_take];omega
   have eA:df A m n (L[i].take (k+1))=df A m n (L[i].take k)++[fm A m n L[i][k].toNat]:=by
    unfold df gl
    rw [List.take_succ_eq_append_getElem hk,List.map_append,List.map_append];rfl
   have eB:cW m (L[i].take (k+1))=cW m (L[i].take k)++[f6 m L[i][k].toNat]:=by
    unfold cW gl
    rw [List.take_succ_eq_append_getElem hk,List.map_append,List.map_append];rfl
   rw [bN,dlt h,cond_true,aV hi,bs,aV hk,bs,eA,eB]
   unfold fm f6
   obtain ⟨j,hj⟩:∃ j:Nat,L[i][k]=(j:Int):=⟨L[i][k].toNat,by omega⟩
   rw [hj] at hv ⊢
   rw [Int.toNat_natCast]
   by_cases hjm:j<m
   ·have ones:(aA m).length=m:=by unfold aA;simp
    rw [decide_eq_true (by omega),cond_true,if_pos hjm,if_pos hjm,ixM (by omega),bs,bz (by decide) (by rw [List.length_singleton];omega),bs,ga (by omega),bs,lJ hjm,bz (by decide) (by rw [List.length_singleton];omega),bs,ad1 (by omega),bs]
   ·have hlr:j-m<(List.replicate n ((0:Int),(1:Int))).length:=by rw [List.length_replicate];omega
    rw [decide_eq_false (by omega),cond_false,if_neg hjm,if_neg hjm,yd hN (by omega),bs,lpB]
    dsimp only
    rw [fj (by omega) (by omega),bs,show ((j:Int)-(m:Int))=((j-m:Nat):Int) by omega,aV hlr,bs,kF hlr,bs,bz (by decide) (by rw [List.length_singleton];omega),bs,bz (by decide) (by rw [List.length_singleton];omega),bs,ad1 (by omega),bs]
    rfl)
  (fun q=>by
   show bN N (q+1) sg A (aA m) C out (n:Int) (m:Int) L (i:Int) (df A m n (L[i].take n)) (cW m (L[i].take n)) (n:Int)=_
   rw [bN,dge (by omega),cond_false,← hl,List.take_length]) N 0 (by omega) (by omega)
 exact h
theorem u9 (hN:1073741824≤N) {a b:aW} (ha:a.length≤1000):∃ q,cP N a b=some q:=by
 unfold cP
 by_cases hl:a.length=b.length
 ·rw [show ((a.length:Int) != (b.length:Int))=false by rw [bne_eq_false_iff_eq];omega,cond_false]
  have key:∀ (c k fuel:Nat),k+c=a.length→c<fuel→∃ s,bu N fuel a b (k:Int)=some s:=by
   intro c
   induction c with
   | zero =>
    intro k fuel hk hf
    obtain ⟨fuel,rfl⟩:∃ k',fuel=k'+1:=⟨fuel-1,by omega⟩
    rw [bu,decide_eq_false (by omega),cond_false]
    exact ⟨_,rfl⟩
   | succ c ih =>
    intro k fuel hk hf
    obtain ⟨fuel,rfl⟩:∃ k',fuel=k'+1:=⟨fuel-1,by omega⟩
    rw [bu,decide_eq_true (by omega),cond_true,ga (by omega),bs,ga (by omega),bs]
    cases (ax a k).1 == (ax b k).1&&(ax a k).2 == (ax b k).2 with
    | true =>
     rw [cond_true,bE (by omega) (by omega),bs]
     exact ih (k+1) fuel (by omega) (by omega)
    | false=>rw [cond_false];exact ⟨_,rfl⟩
  obtain ⟨s,e⟩:=key a.length 0 N (by omega) (by omega)
  have e':bu N N a b 0=some s:=e
  rw [e',bs]
  cases s with
  | inl q=>rw [iI];exact ⟨_,rfl⟩
  | inr q=>rw [fQ];exact ⟨_,rfl⟩
 ·rw [show ((a.length:Int) != (b.length:Int))=true by rw [bne_iff_ne];omega,cond_true]
  exact ⟨_,rfl⟩
theorem yo (hN:1073741824≤N) {sg n m i:Int} {A:ba} {B C x:aW} {L:List (List Int)} {out:ba} (ho:out.length≤100000) (hl:∀ j,j<out.length→(aZ out j).length≤1000):∀ (c k fuel:Nat) (b:Bool),k+c=out.length→c<fuel →
  ∃ b' z,bO N fuel sg A B C out n m L i x b (k:Int)=some (b',z)∧(out.length=0→b'=b):=by
 intro c
 induction c with
 | zero =>
  intro k fuel b hk hf
  obtain ⟨fuel,rfl⟩:∃ k',fuel=k'+1:=⟨fuel-1,by omega⟩
  rw [bO,decide_eq_false (by omega),cond_false]
  exact ⟨b,_,rfl,fun _=>rfl⟩
 | succ c ih =>
  intro k fuel b hk hf
  obtain ⟨fuel,rfl⟩:∃ k',fuel=k'+1:=⟨fuel-1,by omega⟩
  rw [bO,decide_eq_true (by omega),cond_true]
  cases b with
  | true =>
   rw [cond_true,bE (by omega) (by omega),bs]
   obtain ⟨b',z,e,_⟩:=ih (k+1) fuel true (by omega) (by omega)
   exact ⟨b',z,e,fun h=>by omega⟩
  | false =>
   obtain ⟨q,eq⟩:=u9 hN (a:=aZ out k) (b:=x) (hl k (by omega))
   rw [cond_false,ixM (by omega),bs,eq,bs,bE (by omega) (by omega),bs]
   obtain ⟨b',z,e,_⟩:=ih (k+1) fuel q (by omega) (by omega)
   exact ⟨b',z,e,fun h=>by omega⟩
def fD (N n:Nat) (atoms:List aX) (x:aW):Prop:=FeasR N n atoms x∧∃ l∈cO atoms.length 0 (n+atoms.length),bm N (df (aM n atoms) n atoms.length l) (cW n l)=some (x,true)
theorem j2 (n i:Nat):(dy n i).length=n:=by unfold dy;simp
theorem lj {n:Nat} {atoms:List aX} {l:List Int} (hl:l.length=atoms.length):Shp atoms.length atoms.length (df (aM n atoms) n atoms.length l):=by
 refine ⟨by unfold df gl;rw [List.length_map,List.length_map,hl],fun i hi=>?_⟩
 have e:aZ (df (aM n atoms) n atoms.length l) i=fm (aM n atoms) n atoms.length (l[i]'(by omega)).toNat:=by
  unfold aZ df gl
  simp [hl,hi]
 rw [e]
 unfold fm
 split
 ·rename_i h;exact jU.2 _ h
 ·exact j2 _ _
theorem tT (hN:1073741824≤N) {n:Nat} {atoms:List aX} (n1:1≤n) (n5:n≤5) (a1:1≤atoms.length) (a4:atoms.length≤4) :
  ∃ P,bV N (aM n atoms) (aA n) (aA atoms.length)=some P∧P.length≤100000∧(∀ x∈P,fD N n atoms x)∧((∃ x,fD N n atoms x∧dA N (aM n atoms) (aA n) (aA atoms.length) x 1=some true)→P≠[]):=by
 have l1:(aA n).length=n:=by unfold aA;simp
 have l2:(aA atoms.length).length=atoms.length:=by unfold aA;simp
 have hPl:=Nat.le_trans (kT atoms.length 0 (n+atoms.length)) (r9 (by omega) a4)
 have ep:=lY atoms.length N 0 (n+atoms.length) a4 (by omega) (by omega) (by omega)
 have hmem:=fun l (hl:l∈cO atoms.length 0 (n+atoms.length))=>iW hl
 have key:∀ (c i fuel:Nat) (out:ba),i+c=(cO atoms.length 0 (n+atoms.length)).length→c<fuel→out.length≤i→(∀ x∈out,fD N n atoms x) →
   ∃ P z,bl N fuel 1 (aM n atoms) (aA n) (aA atoms.length) out (atoms.length:Int) (n:Int) (cO atoms.length 0 (n+atoms.length)) (i:Int)=some (P,z)∧P.length≤100000∧(∀ x∈P,fD N n atoms x)∧(out≠[]→P≠[]) ∧
    ∀ j (hj:j<(cO atoms.length 0 (n+atoms.length)).length),i≤j→(∃ x,bm N (df (aM n atoms) n atoms.length (cO atoms.length 0 (n+atoms.length))[j]) (cW n (cO atoms.length 0 (n+atoms.length))[j])=some (x,true)∧dA N (aM n atoms) (aA n) (aA atoms.length) x 1=some true)→P≠[]:=by
  intro c
  induction c with
  | zero =>
   intro i fuel out hi hf hol hop
   obtain ⟨fuel,rfl⟩:∃ k',fuel=k'+1:=⟨fuel-1,by omega⟩
   rw [bl,decide_eq_false (by omega),cond_false]
   exact ⟨out,_,rfl,by omega,hop,id,fun j hj h=>by omega⟩
  | succ c ih =>
   intro i fuel out hi hf hol hop
   obtain ⟨fuel,rfl⟩:∃ k',fuel=k'+1:=⟨fuel-1,by omega⟩
   have hiL:i<(cO atoms.length 0 (n+atoms.length)).length:=by omega
   obtain ⟨m1,m2⟩:=hmem _ (List.getElem_mem hiL)
   have hsh:=lj (n:=n) (atoms:=atoms) m1
   have hbl:(cW n (cO atoms.length 0 (n+atoms.length))[i]).length=atoms.length:=by unfold cW gl;rw [List.length_map,List.length_map,m1]
   obtain ⟨x,ok,es,hsol⟩:=jE hN (n:=atoms.length) (by omega) hsh hbl
   rw [bl,decide_eq_true (by omega),cond_true,ua hN a4 n5 cg hiL m1 (fun v hv=>by have:=m2 v hv;omega),bs,lpB]
   dsimp only
   rw [es,bs]
   dsimp only
   cases ok with
   | false =>
    rw [cond_false,bE (by omega) (by omega),bs]
    obtain ⟨P,z,e,g1,g2,g3,g4⟩:=ih (i+1) fuel out (by omega) (by omega) (by omega) hop
    refine ⟨P,z,e,g1,g2,g3,fun j hj hij hx=>?_⟩
    by_cases e:j=i
    ·subst e
     obtain ⟨x',e',_⟩:=hx
     rw [es] at e';cases e'
    ·exact g4 j hj (by omega) hx
   | true =>
    have hxl:=(hsol rfl).1
    obtain ⟨b,eb,hb,_⟩:=re hN n1 n5 a1 a4 (x:=x) hxl
    rw [cond_true,eb,bs]
    cases b with
    | false =>
     rw [cond_false,bE (by omega) (by omega),bs]
     obtain ⟨P,z,e,g1,g2,g3,g4⟩:=ih (i+1) fuel out (by omega) (by omega) (by omega) hop
     refine ⟨P,z,e,g1,g2,g3,fun j hj hij hx=>?_⟩
     by_cases e:j=i
     ·subst e
      obtain ⟨x',e',e2⟩:=hx
      rw [es] at e'
      obtain rfl:x=x':=congrArg Prod.fst (Option.some.inj e')
      rw [eb] at e2;cases e2
     ·exact g4 j hj (by omega) hx
    | true =>
     have hpx:fD N n atoms x:=⟨hb rfl,_,List.getElem_mem hiL,es⟩
     obtain ⟨k,z,ek,hk⟩:=yo hN (sg:=1) (n:=(atoms.length:Int)) (m:=(n:Int)) (i:=(i:Int)) (A:=aM n atoms) (B:=aA n) (C:=aA atoms.length) (x:=x) (L:=cO atoms.length 0 (n+atoms.length)) (out:=out) (by omega) (fun j hj=>by
      have hm:aZ out j∈out:=by unfold aZ;simp [hj]
      have:=(hop _ hm).1.len
      omega) out.length 0 N false (by omega) (by omega)
     have ek':bO N N 1 (aM n atoms) (aA n) (aA atoms.length) out (atoms.length:Int) (n:Int) (cO atoms.length 0 (n+atoms.length)) (i:Int) x false 0=some (k,z):=ek
     rw [cond_true,ek',bs,lpB]
     dsimp only
     cases k with
     | true =>
      rw [cond_true,bE (by omega) (by omega),bs]
      obtain ⟨P,z,e,g1,g2,g3,g4⟩:=ih (i+1) fuel out (by omega) (by omega) (by omega) hop
      have hne:out≠[]:=fun h0=>by
       rw [h0] at hk
       exact absurd (hk rfl) (by decide)
      exact ⟨P,z,e,g1,g2,g3,fun _ _ _ _=>g3 hne⟩
     | false =>
      rw [cond_false,bz (by decide) (by rw [List.length_singleton];omega),bs,bE (by omega) (by omega),bs]
      obtain ⟨P,z,e,g1,g2,g3,g4⟩:=ih (i+1) fuel (out++[x]) (by omega) (by omega) (by rw [List.length_append,List.length_singleton];omega) (fun y hy=>by
       rcases List.mem_append.1 hy with h | h
       ·exact hop y h
       ·rw [List.mem_singleton.1 h];exact hpx)
      exact ⟨P,z,e,g1,g2,fun _=>g3 (by simp),fun _ _ _ _=>g3 (by simp)⟩
 obtain ⟨P,z,e,g1,g2,_,g4⟩:=key (cO atoms.length 0 (n+atoms.length)).length 0 N [] (by omega) (by omega) (Nat.zero_le _) (by simp)
 have e':bl N N 1 (aM n atoms) (aA n) (aA atoms.length) [] (atoms.length:Int) (n:Int) (cO atoms.length 0 (n+atoms.length)) 0=some (P,z):=e
 have ep':dD N 0 ((n:Int)+(atoms.length:Int)) (atoms.length:Int)=some (cO atoms.length 0 (n+atoms.length)):=by
  rw [show ((n:Int)+(atoms.length:Int))=((n+atoms.length:Nat):Int) by omega]
  exact ep
 refine ⟨P,?_,g1,g2,?_⟩
 ·unfold bV gt
  rw [nY hN n1 n5 a1 a4,bs,cond_true,l1,l2,bE (by omega) (by omega),bs,ep',bs,e',bs,lpB,bs]
 ·rintro ⟨x,⟨_,l,hl,hs⟩,hside⟩
  obtain ⟨j,hj,rfl⟩:=List.getElem_of_mem hl
  exact g4 j hj (Nat.zero_le _) ⟨x,hs,hside⟩
end
section
variable {N:Nat}
theorem uU (hN:1073741824≤N) {a b K:Int} (hK:K=1∨K=2∨K=3) (ha:a=1∨a=K) (hb:b=1∨b=K):∃ g,dW N a b=some g∧∃ q,qt a g=some q∧ml q b=some (if b=1 then a else K):=by
 obtain ⟨g,e,g1,g2,g3,g4⟩:=mO (N:=N) hN (x:=a) (y:=b) (by omega) (by omega) (by omega)
 have gp:=g3 (.inl (by omega))
 refine ⟨g,e,?_⟩
 have l1:=Int.le_of_dvd (by omega) g1
 have l2:=Int.le_of_dvd (by omega) g2
 by_cases h1:a=1
 ·obtain rfl:g=1:=by omega
  refine ⟨a,by rw [h1];rfl,?_⟩
  rw [eN (by rw [h1];omega) (by rw [h1];omega),h1,Int.one_mul]
  split
  ·rename_i h;rw [h]
  ·rcases hb with h | h
   ·contradiction
   ·rw [h]
 ·by_cases h2:b=1
  ·obtain rfl:g=1:=by omega
   refine ⟨a,?_,?_⟩
   ·rcases hK with h | h | h <;> rcases ha with h3 | h3 <;> first | (exact absurd h3 h1) | (rw [h3,h];rfl)
   ·rw [if_pos h2,h2,eN (by omega) (by omega),Int.mul_one]
  ·have ea:a=K:=by omega
   have eb:b=K:=by omega
   have l3:=Int.le_of_dvd gp (g4 K (by rw [ea];exact Int.dvd_refl K) (by rw [eb];exact Int.dvd_refl K))
   obtain rfl:g=K:=by omega
   refine ⟨1,?_,?_⟩
   ·rcases hK with h | h | h <;> rw [ea,h] <;> rfl
   ·rw [if_neg h2,eb,eN (by omega) (by omega),Int.one_mul]
structure DenOk (N:Nat) (K:Int) (x:aW):Prop where
 hK:K=1∨K=2∨K=3
 len:x.length≤4
 ok:∀ j,j<x.length→VR N (ax x j)∧0≤(ax x j).1
 den:∀ j,j<x.length→(ax x j).2=1∨(ax x j).2=K
theorem DenOk.w (hN:1073741824≤N) {K:Int} {x:aW} (h:DenOk N K x):∀ i,i<x.length→wOk N (x.getD i (0,0))=true:=fun i hi=>by
 obtain ⟨h1,h2⟩:=h.ok i hi
 unfold VR at h1
 rw [kD] at h1
 unfold wOk
 have e:x.getD i (0,0)=ax x i:=rfl
 rw [e,h1,decide_eq_true h2];rfl
theorem wa (hN:1073741824≤N) {K:Int} {x:aW} (h:DenOk N K x):∀ (c k fuel:Nat) (d:Int),k+c=x.length→c<fuel→(d=1∨d=K) →
  ∃ d' z,bK N fuel x d (k:Int)=some (.inr (d',z))∧(d'=1∨d'=K)∧(d=K→d'=K)∧∀ j,k≤j→j<x.length→(ax x j).2=1∨(ax x j).2=d':=by
 intro c
 induction c with
 | zero =>
  intro k fuel d hk hf hd
  obtain ⟨fuel,rfl⟩:∃ k',fuel=k'+1:=⟨fuel-1,by omega⟩
  rw [bK,decide_eq_false (by omega),cond_false]
  exact ⟨d,_,rfl,hd,id,fun j h1 h2=>by omega⟩
 | succ c ih =>
  intro k fuel d hk hf hd
  obtain ⟨fuel,rfl⟩:∃ k',fuel=k'+1:=⟨fuel-1,by omega⟩
  have hx4:=h.len
  have hKK:=h.hK
  obtain ⟨h1,h2⟩:=h.ok k (by omega)
  have h3:=h.den k (by omega)
  obtain ⟨g,eg,q,eq,em⟩:=uU hN hKK hd h3
  unfold VR at h1
  rw [bK,decide_eq_true (by omega),cond_true,ga (by omega),bs,h1,bs,cond_true,bs,decide_eq_false (by omega),cond_false,bs,eg,bs,eq,bs,bs,em,bs]
  have hd2:(if (ax x k).2=1 then d else K)=1∨(if (ax x k).2=1 then d else K)=K:=by
   split
   ·exact hd
   ·exact .inr rfl
  have hle:¬ (1000<(if (ax x k).2=1 then d else K)):=by rcases hd2 with h | h <;> rw [h] <;> omega
  rw [decide_eq_false hle,cond_false,bE (by omega) (by omega),bs]
  obtain ⟨d',z,e,g1,g2,g3⟩:=ih (k+1) fuel _ (by omega) (by omega) hd2
  refine ⟨d',z,e,g1,fun hdK=>g2 (by rw [hdK];split <;> rfl),fun j hj hjl=>?_⟩
  by_cases ej:j=k
  ·subst ej
   by_cases h5:(ax x j).2=1
   ·exact .inl h5
   ·refine .inr ?_
    rw [g2 (by rw [if_neg h5])]
    rcases h3 with h | h
    ·contradiction
    ·exact h
  ·exact g3 j (by omega) hjl
theorem rJ (hN:1073741824≤N) {K:Int} {x:aW} (h:DenOk N K x):∃ d:Int,(d=1∨d=K)∧bG N x=some (f9 x d x.length,d)∧∀ j,j<x.length→∃ v:Int,(f9 x d x.length).getD j 0=v∧0≤v∧(v:Rat)=(d:Rat)*rv (ax x j):=by
 obtain ⟨d,z,e,h1,_,h2⟩:=wa hN h x.length 0 N 1 (by omega) (by have:=h.len;omega) (.inl rfl)
 have hKK:=h.hK
 have hx4:=h.len
 have e':bK N N x 1 0=some (.inr (d,z)):=e
 refine ⟨d,h1,?_,fun j hj=>?_⟩
 ·unfold bG
  rw [e',bs,fQ]
  dsimp only
  rw [pP hN (by omega) (h.w hN) (by omega) (by omega),bs,lpB]
 ·have hj2:=h2 j (by omega) hj
  obtain ⟨g1,g2⟩:=h.ok j hj
  have ev:(f9 x d x.length).getD j 0=(ax x j).1*d.tdiv (ax x j).2:=by
   unfold f9 ax
   simp [hj]
  refine ⟨_,ev,?_,?_⟩
  ·refine Int.mul_nonneg g2 (Int.tdiv_nonneg (by omega) (by omega))
  ·have hq:=ji hN g1
   have key:(d.tdiv (ax x j).2)*(ax x j).2=d:=by
    rcases hj2 with h | h
    ·rw [h,Int.tdiv_one,Int.mul_one]
    ·rw [h,Int.tdiv_self (by omega),Int.one_mul]
   have kR:((d.tdiv (ax x j).2:Int):Rat)*((ax x j).2:Rat)=(d:Rat):=by
    rw [← Rat.intCast_mul,key]
   rw [Rat.intCast_mul]
   unfold rv
   rw [← kR]
   grind
end
abbrev Q4:=(Int × Int × Int × Int) × Int
abbrev V4:=Int × Int × Int × Int
def lnI (e:V4) (y:V4):Int:=e.1*y.1+e.2.1*y.2.1+e.2.2.1*y.2.2.1+e.2.2.2*y.2.2.2
def lQ:List Q4:=[((1,0,0,0),1),((0,1,0,0),1),((1,1,0,0),1),((0,0,1,0),1),((1,0,1,0),1),((0,1,1,0),1),((1,1,1,0),1),((0,0,0,1),1),((1,0,0,1),1),((0,1,0,1),1),((1,1,0,1),1),((0,0,1,1),1),((1,0,1,1),1),((0,1,1,1),1),((1,1,1,1),1),((1,0,0,0),0),((0,1,0,0),0),((0,0,1,0),0),((0,0,0,1),0)]
def xN:List V4:=[(0,0,0,(-1)),(0,0,(-1),0),(0,(-1),0,0),((-1),0,0,0),((-1),0,0,1),((-1),0,1,0),(0,(-1),0,1),(0,0,(-1),1),(0,(-1),1,0),((-1),1,0,0),((-1),(-1),0,1),((-1),0,(-1),1),((-1),(-1),1,0),(0,(-1),(-1),1),((-1),0,1,(-1)),((-1),1,(-1),0),(0,(-1),1,(-1)),((-1),1,0,(-1)),((-1),0,1,1),((-1),1,0,1),(0,(-1),1,1),((-1),1,1,0),((-1),(-1),1,1),(0,0,(-1),(-1)),(0,(-1),0,(-1)),(0,(-1),(-1),0),((-1),0,0,(-1)),((-1),0,(-1),0),((-1),(-1),0,0),((-1),1,(-1),1),((-1),1,1,(-1)),((-1),(-1),(-1),1),((-1),(-1),1,(-1)),((-1),1,(-1),(-1)),(0,(-1),(-1),(-1)),((-1),0,(-1),(-1)),((-1),(-1),0,(-1)),((-1),(-1),(-1),0),((-1),(-1),(-1),(-1)),((-1),1,1,1),((-1),1,1,(-2)),((-1),1,(-1),2),((-1),1,(-2),1),((-1),1,2,(-1)),((-1),(-1),1,2),((-1),(-2),1,1),((-1),2,1,(-1)),((-2),(-1),1,1),((-2),1,(-1),1),((-1),(-1),2,1),((-1),2,(-1),1),((-2),1,1,(-1)),((-2),1,1,1),((-1),2,(-1),(-1)),((-1),(-1),2,(-1)),((-1),(-1),(-1),2)]
def d2 (a b c d:Int):Int:=a*d-b*c
def d3 (a b c d e f g h i:Int):Int:=a*d2 e f h i-b*d2 d f g i+c*d2 d e g h
def d4 (a b c d:V4):Int:=a.1*d3 b.2.1 b.2.2.1 b.2.2.2 c.2.1 c.2.2.1 c.2.2.2 d.2.1 d.2.2.1 d.2.2.2-a.2.1*d3 b.1 b.2.2.1 b.2.2.2 c.1 c.2.2.1 c.2.2.2 d.1 d.2.2.1 d.2.2.2+a.2.2.1*d3 b.1 b.2.1 b.2.2.2 c.1 c.2.1 c.2.2.2 d.1 d.2.1 d.2.2.2-a.2.2.2*d3 b.1 b.2.1 b.2.2.1 c.1 c.2.1 c.2.2.1 d.1 d.2.1 d.2.2.1
def cr (f:Q4→V4) (a b c d:Q4):Int:=d4 (f a) (f b) (f c) (f d)
def nT (a b c d:Q4):V4:=(cr (fun e=>(e.2,e.1.2)) a b c d,cr (fun e=>(e.1.1,e.2,e.1.2.2)) a b c d,cr (fun e=>(e.1.1,e.1.2.1,e.2,e.1.2.2.2)) a b c d,cr (fun e=>(e.1.1,e.1.2.1,e.1.2.2.1,e.2)) a b c d)
def uC (y:V4):Bool:=decide (y.1.natAbs≤3)&&decide (y.2.1.natAbs≤3)&&decide (y.2.2.1.natAbs≤3)&&decide (y.2.2.2.natAbs≤3)
def sW:List Q4→Bool
 | [a,b,c,d]=>!(cr (fun e=>e.1) a b c d == 0)&&decide ((cr (fun e=>e.1) a b c d).natAbs≤3)&&uC (nT a b c d)&&[a,b,c,d].all fun e=>lnI e.1 (nT a b c d) == cr (fun e=>e.1) a b c d*e.2
 | _=>false
def t0 (F:List Q4):Bool:=xN.any (fun k=>F.all fun e=>lnI e.1 k == 0)||sW F
def mR {α:Type}:Nat→List α→List (List α)
 | _,[]=>[[]]
 | 0,_ :: _=>[[]]
 | k+1,a :: l=>(mR k l).map (a :: ·)++mR (k+1) l
theorem yY:(mR 4 lQ).all t0=true:=by decide +kernel
theorem mF {α:Type}:∀ {l s:List α} {k:Nat},s.Sublist l→s.length≤k→s∈mR k l
 | [],s,k,h,_=>by
  rw [List.sublist_nil.1 h]
  cases k <;> exact List.mem_singleton.2 rfl
 | a :: l,s,0,_,hk=>by
  rw [List.length_eq_zero_iff.1 (Nat.le_zero.1 hk)]
  exact List.mem_singleton.2 rfl
 | a :: l,s,k+1,h,hk=>by
  unfold mR
  cases h with
  | cons _ h=>exact List.mem_append_right _ (mF h hk)
  | cons_cons _ h=>exact List.mem_append_left _ (List.mem_map.2 ⟨_,mF h (by simpa using hk),rfl⟩)
abbrev R4:=Rat × Rat × Rat × Rat
def lnR (e:V4) (y:R4):Rat:=e.1*y.1+e.2.1*y.2.1+e.2.2.1*y.2.2.1+e.2.2.2*y.2.2.2
def lB (y:V4):R4:=(y.1,y.2.1,y.2.2.1,y.2.2.2)
theorem p7 (e y:V4):lnR e (lB y)=((lnI e y:Int):Rat):=by
 unfold lnR lB lnI
 simp only [Rat.intCast_add,Rat.intCast_mul]
def rX (x y:R4):R4:=(x.1+y.1,x.2.1+y.2.1,x.2.2.1+y.2.2.1,x.2.2.2+y.2.2.2)
def nD (c:Rat) (y:R4):R4:=(c*y.1,c*y.2.1,c*y.2.2.1,c*y.2.2.2)
theorem wi (e:V4) (x y:R4):lnR e (rX x y)=lnR e x+lnR e y:=by
 unfold lnR rX
 grind
theorem v6 (e:V4) (c:Rat) (y:R4):lnR e (nD c y)=c*lnR e y:=by
 unfold lnR nD
 grind
theorem wo:∀ k∈xN,k≠(0,0,0,0):=by decide
theorem qg {E:List Q4} (hE:∀ e∈E,e∈lQ) (hl:E.length≤4) {x:R4} (hx:∀ e∈E,lnR e.1 x=(e.2:Rat)) (hu:∀ y:R4,(∀ e∈E,lnR e.1 y=(e.2:Rat))→y=x) :
  ∃ D:Int,D≠0∧D.natAbs≤3∧∃ y:V4,nD D x=lB y∧uC y=true:=by
 have hF:lQ.filter (fun e=>decide (e∈E))∈mR 4 lQ:=by
  refine mF List.filter_sublist ?_
  refine Nat.le_trans (List.Nodup.length_le_of_subset ?_ ?_) hl
  ·exact List.Nodup.sublist List.filter_sublist (by decide)
  ·intro e he
   exact of_decide_eq_true (List.mem_filter.1 he).2
 have hFE:∀ e,e∈lQ.filter (fun e=>decide (e∈E))↔e∈E:=by
  intro e
  rw [List.mem_filter,decide_eq_true_eq]
  exact ⟨fun h=>h.2,fun h=>⟨hE e h,h⟩⟩
 have hs:=List.all_eq_true.1 yY _ hF
 generalize lQ.filter (fun e=>decide (e∈E))=F at hF hFE hs
 unfold t0 at hs
 rw [Bool.or_eq_true] at hs
 rcases hs with hs | hs
 ·exfalso
  obtain ⟨k,hk,hs⟩:=List.any_eq_true.1 hs
  have h1:=hu (rX x (lB k)) (fun e he=>by
   have h2:=List.all_eq_true.1 hs e ((hFE e).2 he)
   rw [beq_iff_eq] at h2
   rw [wi,p7,h2,hx e he]
   exact Rat.add_zero _)
  have h3:∀ {a:Rat} {z:Int},a+(z:Rat)=a→z=0:=by
   intro a z h
   have h4:(z:Rat)=((0:Int):Rat):=by
    have e0:((0:Int):Rat)=0:=rfl
    rw [e0];grind
   exact Rat.intCast_inj.1 h4
  unfold rX lB at h1
  have e1:=congrArg Prod.fst h1
  have e2:=congrArg (fun p:R4=>p.2.1) h1
  have e3:=congrArg (fun p:R4=>p.2.2.1) h1
  have e4:=congrArg (fun p:R4=>p.2.2.2) h1
  refine wo k hk ?_
  obtain ⟨k1,k2,k3,k4⟩:=k
  rw [show k1=0 from h3 e1,show k2=0 from h3 e2,show k3=0 from h3 e3,show k4=0 from h3 e4]
 ·match F,hs,hFE with
  | [a,b,c,d],hs,hFE =>
   unfold sW at hs
   rw [Bool.and_eq_true,Bool.and_eq_true,Bool.and_eq_true,decide_eq_true_eq] at hs
   obtain ⟨⟨⟨h1,h2⟩,ht⟩,h3⟩:=hs
   have hD:cr (fun e=>e.1) a b c d≠0:=by
    intro h
    rw [h] at h1
    exact absurd h1 (by decide)
   have h4:∀ e∈E,lnI e.1 (nT a b c d)=cr (fun e=>e.1) a b c d*e.2:=fun e he=>by
    have h5:=List.all_eq_true.1 h3 e ((hFE e).2 he)
    rw [beq_iff_eq] at h5
    exact h5
   generalize cr (fun e=>e.1) a b c d=D at hD h2 h4
   generalize nT a b c d=y at h4 ht
   refine ⟨D,hD,h2,y,?_,ht⟩
   have hDR:(D:Rat)≠0:=fun h=>hD (Rat.intCast_eq_zero_iff.1 h)
   have h6:=hu (nD (D:Rat)⁻¹ (lB y)) (fun e he=>by
    rw [v6,p7,h4 e he,Rat.intCast_mul,← Rat.mul_assoc,Rat.inv_mul_cancel _ hDR,Rat.one_mul])
   rw [← h6]
   unfold nD lB
   simp only [← Rat.mul_assoc,Rat.mul_inv_cancel _ hDR,Rat.one_mul]
def i9 (y:R4):Nat→Rat
 | 0=>y.1
 | 1=>y.2.1
 | 2=>y.2.2.1
 | 3=>y.2.2.2
 | _=>0
def mk4 (g:Nat→Rat):R4:=(g 0,g 1,g 2,g 3)
theorem tk (g:Nat→Rat) {j:Nat} (h:j<4):i9 (mk4 g) j=g j:=by
 match j,h with
 | 0,_=>rfl
 | 1,_=>rfl
 | 2,_=>rfl
 | 3,_=>rfl
theorem uJ (y:R4):mk4 (i9 y)=y:=rfl
theorem tJ {g h:Nat→Rat} (e:∀ j,j<4→g j=h j):mk4 g=mk4 h:=by
 unfold mk4
 rw [e 0 (by decide),e 1 (by decide),e 2 (by decide),e 3 (by decide)]
theorem wX {g:Nat→Rat}:∀ {n:Nat},n≤4→(∀ j,n≤j→j<4→g j=0)→cA 4 g=cA n g:=by
 intro n hn h
 match n,hn,h with
 | 4,_,_=>rfl
 | 3,_,h =>
  have h3:=h 3 (by decide) (by decide)
  show cA 3 g+g 3=_
  rw [h3];grind
 | 2,_,h =>
  have h3:=h 3 (by decide) (by decide)
  have h2:=h 2 (by decide) (by decide)
  show cA 2 g+g 2+g 3=_
  rw [h3,h2];grind
 | 1,_,h =>
  have h3:=h 3 (by decide) (by decide)
  have h2:=h 2 (by decide) (by decide)
  have h1:=h 1 (by decide) (by decide)
  show cA 1 g+g 1+g 2+g 3=_
  rw [h3,h2,h1];grind
 | 0,_,h =>
  have h3:=h 3 (by decide) (by decide)
  have h2:=h 2 (by decide) (by decide)
  have h1:=h 1 (by decide) (by decide)
  have h0:=h 0 (by decide) (by decide)
  show cA 0 g+g 0+g 1+g 2+g 3=_
  rw [h3,h2,h1,h0];grind
theorem pK {g:Nat→Rat}:∀ {n:Nat},(∀ j,j<n→g j=0)→cA n g=0
 | 0,_=>rfl
 | n+1,h=>by
  have h1:=pK (n:=n) fun j hj=>h j (by omega)
  have h2:=h n (by omega)
  unfold cA
  rw [h1,h2];grind
def jz (r:aW) (b:Int):Q4:=(((ax r 0).1,(ax r 1).1,(ax r 2).1,(ax r 3).1),b)
theorem sJ {r:cL} (h:je r):rv r=(r.1:Rat):=by
 rcases h with rfl | rfl
 ·exact il 0
 ·exact il 1
theorem rq {r:aW} {na:Nat} (hl:r.length=na) (h4:na≤4) (hb:∀ j,j<na→je (ax r j)) (b:Int) (y:R4):lnR (jz r b).1 y=cA na (fun j=>rv (ax r j)*i9 y j):=by
 have h0:∀ j,na≤j→(ax r j).1=0:=fun j hj=>by
  unfold ax
  rw [List.getD_eq_getElem?_getD,List.getElem?_eq_none (by omega)];rfl
 have e1:cA na (fun j=>rv (ax r j)*i9 y j)=cA na (fun j=>((ax r j).1:Rat)*i9 y j):=dV fun j hj=>by rw [sJ (hb j hj)]
 rw [e1,← wX h4 fun j h1 h2=>by
  rw [h0 j h1]
  have:((0:Int):Rat)=0:=rfl
  rw [this];exact Rat.zero_mul _]
 show _=(0:Rat)+_*_+_*_+_*_+_*_
 unfold lnR jz i9
 dsimp only
 grind
theorem pG {n j:Nat} (h:j<n):ax (List.replicate n (0,1)) j=(0,1):=by
 unfold ax;simp [h]
theorem p9 (y:R4):∀ j,j<4→lnR (jz (dy 4 j) 0).1 y=i9 y j:=by
 intro j hj
 rw [rq (j2 4 j) (Nat.le_refl 4) (fun i hi=>?_) 0 y]
 ·rw [nx hj fun i hi hij=>?_]
  ·have:ax (dy 4 j) j=(1,1):=by unfold dy;rw [kc (by rw [List.length_replicate];exact hj),if_pos rfl]
   rw [this,il]
   have e:((1:Int):Rat)=1:=rfl
   rw [e];grind
  ·have:ax (dy 4 j) i=(0,1):=by
    unfold dy
    rw [kc (by rw [List.length_replicate];exact hj),if_neg hij]
    exact pG hi
   rw [this,il]
   have e:((0:Int):Rat)=0:=rfl
   rw [e];exact Rat.zero_mul _
 ·unfold dy
  rw [kc (by rw [List.length_replicate];exact hj)]
  split
  ·exact .inr rfl
  ·exact .inl (pG hi)
theorem v9:∀ a∈([0,1]:List Int),∀ b∈([0,1]:List Int),∀ c∈([0,1]:List Int),∀ d∈([0,1]:List Int),(a=0∧b=0∧c=0∧d=0)∨((a,b,c,d),(1:Int))∈lQ:=by decide
theorem rK:∀ na,na≤4→∀ i,i<na→jz (dy na i) 0∈lQ:=by
 intro na hna
 match na,hna with
 | 0,_=>intro i hi;exact absurd hi (Nat.not_lt_zero i)
 | 1,_=>intro i hi;match i,hi with
  | 0,_=>decide
 | 2,_=>intro i hi;match i,hi with
  | 0,_=>decide
  | 1,_=>decide
 | 3,_=>intro i hi;match i,hi with
  | 0,_=>decide
  | 1,_=>decide
  | 2,_=>decide
 | 4,_=>intro i hi;match i,hi with
  | 0,_=>decide
  | 1,_=>decide
  | 2,_=>decide
  | 3,_=>decide
theorem pE {n i j:Nat} (hi:i<n) (hj:j<n):je (ax (dy n i) j):=by
 unfold dy
 rw [kc (by simpa using hi)]
 split
 ·exact .inr rfl
 ·refine .inl ?_
  unfold ax;simp [hj]
section
variable {N:Nat}
theorem pD (hN:1073741824≤N) {n:Nat} {atoms:List aX} (n5:n≤5) (a1:1≤atoms.length) (a4:atoms.length≤4) {x:aW} (hp:fD N n atoms x) :
  ∃ K:Int,DenOk N K x∧∀ j,j<x.length→(K:Rat)*rv (ax x j)≤3:=by
 obtain ⟨F,l,hl,hs⟩:=hp
 obtain ⟨m1,m2⟩:=iW hl
 have hxl:=F.len
 have hsh:=lj (n:=n) (atoms:=atoms) m1
 have hbl:(cW n l).length=atoms.length:=by unfold cW gl;rw [List.length_map,List.length_map,m1]
 obtain ⟨x',ok,es,hsol⟩:=jE hN (n:=atoms.length) (by omega) hsh hbl
 rw [hs] at es
 obtain ⟨rfl,rfl⟩:x=x'∧true=ok:=by
  have:=Option.some.inj es
  exact ⟨congrArg Prod.fst this,congrArg Prod.snd this⟩
 obtain ⟨_,hv,hiff⟩:=hsol rfl
 have hrow:∀ i (hi:i<atoms.length),aZ (df (aM n atoms) n atoms.length l) i=fm (aM n atoms) n atoms.length (l[i]'(by omega)).toNat∧ax (cW n l) i=f6 n (l[i]'(by omega)).toNat:=fun i hi=>by
  constructor
  ·unfold aZ df gl
   simp [m1,hi]
  ·unfold ax cW gl
   simp [m1,hi]
 -- the rows are bits
 have hrb:∀ k:Nat,k<n+atoms.length→(fm (aM n atoms) n atoms.length k).length=atoms.length∧∀ j,j<atoms.length→je (ax (fm (aM n atoms) n atoms.length k) j):=fun k hk=>by
  unfold fm
  split
  ·rename_i h
   refine ⟨jU.2 k h,fun j hj=>?_⟩
   have:ax (aZ (aM n atoms) k) j=cell (aM n atoms) k j:=rfl
   rw [this,it h hj]
   exact ja _ _
  ·exact ⟨j2 _ _,fun j hj=>pE (by omega) hj⟩
 have hlt:∀ i (hi:i<atoms.length),(l[i]'(by omega)).toNat<n+atoms.length:=fun i hi=>by
  have:=m2 _ (List.getElem_mem (show i<l.length by omega))
  omega
 let E:List Q4:=(List.range' 0 atoms.length).map (fun i=>jz (fm (aM n atoms) n atoms.length (l.getD i 0).toNat) (f6 n (l.getD i 0).toNat).1)++(List.range' atoms.length (4-atoms.length)).map (fun j=>jz (dy 4 j) 0)
 have hgd:∀ i (hi:i<atoms.length),l.getD i 0=l[i]'(by omega):=fun i hi=>by simp [m1,hi]
 have memE:∀ e,e∈E→(∃ i,∃ hi:i<atoms.length,e=jz (aZ (df (aM n atoms) n atoms.length l) i) (ax (cW n l) i).1)∨∃ j,atoms.length≤j∧j<4∧e=jz (dy 4 j) 0:=fun e he=>by
  rcases List.mem_append.1 he with h | h
  ·obtain ⟨i,hi,rfl⟩:=List.mem_map.1 h
   have hi:i<atoms.length:=by simpa using hi
   refine .inl ⟨i,hi,?_⟩
   rw [(hrow i hi).1,(hrow i hi).2,hgd i hi]
  ·obtain ⟨j,hj,rfl⟩:=List.mem_map.1 h
   rw [List.mem_range'_1] at hj
   exact .inr ⟨j,hj.1,by omega,rfl⟩
 have inE1:∀ i,i<atoms.length→jz (aZ (df (aM n atoms) n atoms.length l) i) (ax (cW n l) i).1∈E:=fun i hi=>by
  refine List.mem_append_left _ (List.mem_map.2 ⟨i,by simpa using hi,?_⟩)
  rw [(hrow i hi).1,(hrow i hi).2,hgd i hi]
 have inE2:∀ j,atoms.length≤j→j<4→jz (dy 4 j) 0∈E:=fun j h1 h2 =>
  List.mem_append_right _ (List.mem_map.2 ⟨j,List.mem_range'_1.2 ⟨h1,by omega⟩,rfl⟩)
 have hrl:∀ i (hi:i<atoms.length) (b:Int) (y:R4),lnR (jz (aZ (df (aM n atoms) n atoms.length l) i) b).1 y=cA atoms.length (fun j=>cv (df (aM n atoms) n atoms.length l) i j*i9 y j):=fun i hi b y=>by
  obtain ⟨k1,k2⟩:=hrb _ (hlt i hi)
  rw [(hrow i hi).1,rq k1 a4 k2]
  refine dV fun j hj=>?_
  unfold cv cell
  rw [(hrow i hi).1]
 have hrhs:∀ i (hi:i<atoms.length),rv (ax (cW n l) i)=((ax (cW n l) i).1:Rat):=fun i hi=>by
  rw [(hrow i hi).2]
  refine sJ ?_
  unfold f6
  split
  ·exact .inr rfl
  ·exact .inl rfl
 have hE:∀ e∈E,e∈lQ:=fun e he=>by
  rcases memE e he with ⟨i,hi,rfl⟩ | ⟨j,h1,h2,rfl⟩
  ·obtain ⟨k1,k2⟩:=hrb _ (hlt i hi)
   rw [(hrow i hi).1,(hrow i hi).2]
   by_cases hn:(l[i]'(by omega)).toNat<n
   ·have er:fm (aM n atoms) n atoms.length (l[i]'(by omega)).toNat=aZ (aM n atoms) (l[i]'(by omega)).toNat:=by unfold fm;rw [if_pos hn]
    have eb:f6 n (l[i]'(by omega)).toNat=(1,1):=by unfold f6;rw [if_pos hn]
    rw [eb]
    have hz:=F.ge _ hn
    rw [er] at k1 k2 ⊢
    have hbit:∀ j,(ax (aZ (aM n atoms) (l[i]'(by omega)).toNat) j).1∈([0,1]:List Int):=fun j=>by
     by_cases hj:j<atoms.length
     ·rcases k2 j hj with h | h <;> rw [h] <;> decide
     ·have:(ax (aZ (aM n atoms) (l[i]'(by omega)).toNat) j).1=0:=by
       unfold ax
       rw [List.getD_eq_getElem?_getD,List.getElem?_eq_none (by omega)];rfl
      rw [this];decide
    rcases v9 _ (hbit 0) _ (hbit 1) _ (hbit 2) _ (hbit 3) with ⟨z0,z1,z2,z3⟩ | h
    ·exfalso
     have hall:∀ j,j<atoms.length→cv (aM n atoms) (l[i]'(by omega)).toNat j=0:=fun j hj=>by
      have hzj:(ax (aZ (aM n atoms) (l[i]'(by omega)).toNat) j).1=0:=by
       match j,(show j<4 by omega) with
       | 0,_=>exact z0
       | 1,_=>exact z1
       | 2,_=>exact z2
       | 3,_=>exact z3
      exact rl hzj
     rw [pK fun j hj=>by rw [hall j hj];exact Rat.zero_mul _] at hz
     exact absurd hz (by decide)
    ·exact h
   ·have er:fm (aM n atoms) n atoms.length (l[i]'(by omega)).toNat=dy atoms.length ((l[i]'(by omega)).toNat-n):=by unfold fm;rw [if_neg hn]
    have eb:f6 n (l[i]'(by omega)).toNat=(0,1):=by unfold f6;rw [if_neg hn]
    rw [er,eb]
    exact rK _ a4 _ (by have:=hlt i hi;omega)
  ·exact rK 4 (Nat.le_refl 4) j h2
 have hEl:E.length≤4:=by
  show (List.map _ _++List.map _ _).length≤4
  rw [List.length_append,List.length_map,List.length_map,List.length_range',List.length_range']
  omega
 have hx4:∀ j,j<4→i9 (mk4 fun j=>if j<atoms.length then rv (ax x j) else 0) j=if j<atoms.length then rv (ax x j) else 0:=fun j hj=>tk _ hj
 have hself:=(hiff fun j=>rv (ax x j)).2 fun j _=>rfl
 obtain ⟨D,D0,D3,y,hy,ht⟩:=qg hE hEl (x:=mk4 fun j=>if j<atoms.length then rv (ax x j) else 0) (fun e he=>by
  rcases memE e he with ⟨i,hi,rfl⟩ | ⟨j,h1,h2,rfl⟩
  ·rw [hrl i hi]
   show _=(((ax (cW n l) i).1:Int):Rat)
   rw [← hrhs i hi,← hself i hi]
   refine dV fun j hj=>?_
   rw [hx4 j (by omega),if_pos hj]
  ·rw [p9 _ j h2,hx4 j h2,if_neg (by omega)]
   rfl) (fun z hz=>by
  have h1:=(hiff (i9 z)).1 fun i hi=>by
   have h2:=hz _ (inE1 i hi)
   rw [hrl i hi] at h2
   rw [hrhs i hi]
   exact h2
  rw [← uJ z]
  refine tJ fun j hj=>?_
  by_cases hja:j<atoms.length
  ·rw [if_pos hja];exact h1 j hja
  ·rw [if_neg hja]
   have h3:=hz _ (inE2 j (by omega) hj)
   rw [p9 _ j hj] at h3
   exact h3)
 have hcomp:∀ j,j<x.length→∃ w:Int,w.natAbs≤3∧(D:Rat)*rv (ax x j)=(w:Rat):=fun j hj=>by
  have hja:j<atoms.length:=by omega
  have h1:=congrArg (fun z=>i9 z j) hy
  unfold uC at ht
  simp only [Bool.and_eq_true,decide_eq_true_eq] at ht
  have h2:i9 (nD (D:Rat) (mk4 fun j=>if j<atoms.length then rv (ax x j) else 0)) j=(D:Rat)*rv (ax x j):=by
   have h3:i9 (nD (D:Rat) (mk4 fun j=>if j<atoms.length then rv (ax x j) else 0)) j=(D:Rat)*(if j<atoms.length then rv (ax x j) else 0):=by
    match j,(show j<4 by omega) with
    | 0,_=>rfl
    | 1,_=>rfl
    | 2,_=>rfl
    | 3,_=>rfl
   rw [h3,if_pos hja]
  rw [h2] at h1
  match j,(show j<4 by omega),h1 with
  | 0,_,h1=>exact ⟨y.1,ht.1.1.1,h1⟩
  | 1,_,h1=>exact ⟨y.2.1,ht.1.1.2,h1⟩
  | 2,_,h1=>exact ⟨y.2.2.1,ht.1.2,h1⟩
  | 3,_,h1=>exact ⟨y.2.2.2,ht.2,h1⟩
 have hden:∀ j,j<x.length→(ax x j).2 ∣ D:=fun j hj=>by
  obtain ⟨w,_,hw⟩:=hcomp j hj
  obtain ⟨g1,_⟩:=F.ok j hj
  have hq:=ji hN g1
  have hg:=((fu hN).1 g1).2.2.2.2
  have h1:((D*(ax x j).1:Int):Rat)=((w*(ax x j).2:Int):Rat):=by
   rw [Rat.intCast_mul,Rat.intCast_mul,← hw]
   unfold rv
   grind
  have h2:=Rat.intCast_inj.1 h1
  have h3:(ax x j).2 ∣ D*(ax x j).1:=by rw [h2];exact Int.dvd_mul_left _ _
  have h4:=Int.natAbs_dvd_natAbs.2 h3
  rw [Int.natAbs_mul] at h4
  have h5:Nat.Coprime (ax x j).2.natAbs (ax x j).1.natAbs:=by
   unfold Nat.Coprime
   rw [Nat.gcd_comm]
   exact hg
  exact Int.natAbs_dvd_natAbs.1 (h5.dvd_of_dvd_mul_right h4)
 refine ⟨(D.natAbs:Int),⟨by omega,by omega,F.ok,fun j hj=>?_⟩,fun j hj=>?_⟩
 ·have h1:=hden j hj
  have h2:(ax x j).2 ∣ (D.natAbs:Int):=Int.dvd_natAbs.2 h1
  have h3:=((fu hN).1 (F.ok j hj).1).1
  have h4:=Int.le_of_dvd (by omega) h2
  generalize (ax x j).2=q at h2 h3 h4
  by_cases e1:q=1
  ·exact .inl e1
  ·by_cases e2:q=(D.natAbs:Int)
   ·exact .inr e2
   ·have e3:q=2:=by omega
    have e4:(D.natAbs:Int)=3:=by omega
    rw [e3,e4] at h2
    exact absurd h2 (by decide)
 ·obtain ⟨w,w3,hw⟩:=hcomp j hj
  have h0:0≤rv (ax x j):=by
   have h1:=(F.ok j hj).2
   have h3:=((fu hN).1 (F.ok j hj).1).1
   unfold rv
   rw [Rat.div_def]
   exact Rat.mul_nonneg (Rat.intCast_nonneg.2 h1) (Rat.le_of_lt (Rat.inv_pos.2 (Rat.intCast_pos.2 (by omega))))
  have e3:((3:Int):Rat)=3:=rfl
  rcases Int.natAbs_eq D with e | e
  ·rw [← e,hw,← e3]
   exact Rat.intCast_le_intCast.2 (by omega)
  ·have h5:((D.natAbs:Int):Rat)*rv (ax x j)=((-w:Int):Rat):=by
    have h6:(D.natAbs:Int)=-D:=by omega
    rw [h6,Rat.intCast_neg,Rat.intCast_neg,Rat.neg_mul,hw]
   rw [h5,← e3]
   exact Rat.intCast_le_intCast.2 (by omega)
end
def wtL (k:Nat→Nat) (I:List Nat):List Nat:=I.flatMap fun i=>List.replicate (k i) i
theorem sk (c:Nat→Bool) (m i:Nat):((List.replicate m i).filter c).length=if c i=true then m else 0:=by
 rw [List.filter_replicate]
 split <;> simp
theorem rL (c:Nat→Bool) (k:Nat→Nat):∀ I:List Nat,((wtL k I).filter c).length=smN (I.map fun i=>if c i=true then k i else 0)
 | []=>rfl
 | i :: I=>by
  have ih:=rL c k I
  unfold wtL at ih ⊢
  rw [List.flatMap_cons,List.filter_append,List.length_append,sk,ih];rfl
theorem o5:∀ a b:List Nat,prN (a++b)=prN a*prN b
 | [],b=>by rw [List.nil_append];exact (Nat.one_mul _).symm
 | x :: a,b=>by
  have:=o5 a b
  show x*prN (a++b)=x*prN a*prN b
  rw [this,Nat.mul_assoc]
theorem qG (k:Nat→Nat):∀ n:Nat,cA n (fun j=>((k j:Nat):Rat))=((smN ((List.range' 0 n).map k):Nat):Rat)
 | 0=>rfl
 | n+1=>by
  have ih:=qG k n
  rw [List.range'_concat,List.map_append,nW]
  unfold cA
  rw [ih,Rat.natCast_add]
  simp only [Nat.zero_add,Nat.one_mul,List.map_cons,List.map_nil]
  congr 1
theorem ql {g:Nat→Rat} {c:Rat}:∀ n:Nat,c*cA n g=cA n (fun j=>c*g j)
 | 0=>by unfold cA;grind
 | n+1=>by
  have:=ql (g:=g) (c:=c) n
  unfold cA
  rw [← this];grind
section
variable {N:Nat}
theorem kM (hN:1073741824≤N) {n:Nat} {atoms:List aX} (n5:n≤5) (a1:1≤atoms.length) (a4:atoms.length≤4) {x:aW} (hp:fD N n atoms x) :
  ∃ (d:Nat) (k:Nat→Nat),1≤d∧d≤3∧(∀ i,i<atoms.length→k i≤3)∧bG N x=some ((List.range' 0 atoms.length).map (fun i:Nat=>(k i:Int)),(d:Int))∧Cov atoms n (wtL k (List.range' 0 atoms.length)) d:=by
 obtain ⟨K,hD,hK⟩:=pD hN n5 a1 a4 hp
 obtain ⟨F,_⟩:=hp
 have hxl:=F.len
 obtain ⟨d,hd,es,hv⟩:=rJ hN hD
 have hKK:=hD.hK
 have hd3:1≤d∧d≤3∧d≤K:=by omega
 refine ⟨d.toNat,fun i=>((f9 x d x.length).getD i 0).toNat,by omega,by omega,fun i hi=>?_,?_,?_⟩
 ·obtain ⟨v,e,v0,ev⟩:=hv i (by omega)
  have h1:=hK i (by omega)
  have h0:0≤rv (ax x i):=by
   have h1:=(F.ok i (by omega)).2
   have h3:=((fu hN).1 (F.ok i (by omega)).1).1
   unfold rv
   rw [Rat.div_def]
   exact Rat.mul_nonneg (Rat.intCast_nonneg.2 h1) (Rat.le_of_lt (Rat.inv_pos.2 (Rat.intCast_pos.2 (by omega))))
  have h2:(d:Rat)*rv (ax x i)≤(K:Rat)*rv (ax x i):=Rat.mul_le_mul_of_nonneg_right (Rat.intCast_le_intCast.2 hd3.2.2) h0
  have h3:(v:Rat)≤((3:Int):Rat):=by
   rw [ev]
   exact Rat.le_trans h2 h1
  have h4:=Rat.intCast_le_intCast.1 h3
  show ((f9 x d x.length).getD i 0).toNat≤3
  rw [e];omega
 ·rw [es,Int.toNat_of_nonneg (by omega)]
  congr 2
  have hl:(f9 x d x.length).length=atoms.length:=by unfold f9;simp [hxl]
  refine List.ext_getElem (by rw [hl];simp) fun i h1 h2=>?_
  obtain ⟨v,e,v0,_⟩:=hv i (by omega)
  rw [eJ h1] at e
  simp only [List.getElem_map,List.getElem_range',Nat.zero_add,Nat.one_mul]
  rw [eJ h1,e,Int.toNat_of_nonneg v0]
 ·refine ⟨by omega,fun i hi=>?_,fun v h0 h1=>?_⟩
  ·unfold wtL at hi
   obtain ⟨j,hj,h⟩:=List.mem_flatMap.1 hi
   rw [List.eq_of_mem_replicate h]
   simpa using hj
  ·rw [rL]
   obtain ⟨u,rfl⟩:∃ u:Nat,v=(u:Int):=⟨v.toNat,by omega⟩
   have hg:=F.ge u (by omega)
   have h2:(d:Rat)*1≤(d:Rat)*cA atoms.length (fun j=>cv (aM n atoms) u j*rv (ax x j)):=Rat.mul_le_mul_of_nonneg_left hg (Rat.intCast_nonneg.2 (by omega))
   rw [ql,dV (h:=fun j=>(((if decide ((u:Int)∈(g6 atoms j).2)=true then ((f9 x d x.length).getD j 0).toNat else 0:Nat):Nat):Rat)) fun j hj=>by
    obtain ⟨w,e,w0,ew⟩:=hv j (by omega)
    have hb:cv (aM n atoms) u j=if decide ((u:Int)∈(g6 atoms j).2)=true then 1 else 0:=by
     unfold cv
     rw [it (by omega) hj]
     unfold ip
     cases decide ((u:Int)∈(g6 atoms j).2) with
     | true=>rw [cond_true,if_pos rfl,il];rfl
     | false=>rw [cond_false,if_neg (by decide),il];rfl
    have hw:((w.toNat:Nat):Rat)=(w:Rat):=by
     rw [← Rat.intCast_natCast,Int.toNat_of_nonneg w0]
    rw [hb]
    split
    ·rw [e,hw,ew];grind
    ·have e0:((0:Nat):Rat)=0:=rfl
     rw [e0];grind,qG] at h2
   have h3:((d.toNat:Nat):Rat)=(d:Rat):=by rw [← Rat.intCast_natCast,Int.toNat_of_nonneg (by omega)]
   rw [Rat.mul_one,← h3] at h2
   exact Rat.natCast_le_natCast.1 h2
end
def nu {α:Type}:List (List α)→List (List α)
 | []=>[[]]
 | l :: ls=>l.flatMap fun a=>(nu ls).map fun s=>a :: s
theorem lM {ι α:Type} {f:ι→List α} {g:ι→α}:∀ {I:List ι},(∀ i∈I,g i∈f i)→I.map g∈nu (I.map f)
 | [],_=>List.mem_singleton.2 rfl
 | i :: I,h=>List.mem_flatMap.2 ⟨g i,h i List.mem_cons_self,List.mem_map.2 ⟨_,lM fun j hj=>h j (List.mem_cons_of_mem _ hj),rfl⟩⟩
def mT (na:Nat) (S:List Nat) (i:Nat):List aW:=nu ((List.range' 0 na).map fun j=>bif S.contains j then [bif Nat.beq j i then (1,1) else (0,1)] else [(0,1),(1,1)])
def mG (na:Nat) (S:List Nat):List Nat:=(List.range' 0 na).filter fun j=>!S.contains j
def ptS (na:Nat) (S:List Nat):aW:=(List.range' 0 na).map fun j=>bif S.contains j then (1,1) else (0,1)
def rR (na:Nat) (S:List Nat) (R:ba):ba:=R++(mG na S).map (dy na)
def rQ (na:Nat) (S:List Nat):aW:=S.map (fun _=>(1,1))++(mG na S).map fun _=>(0,1)
def yK (M na:Nat) (S:List Nat) (R:ba):Bool:=decide (bm (M+100) (rR na S R) (rQ na S)=some (ptS na S,true))
def sw (na s:Nat):List (List Nat):=(nu (List.replicate s (List.range' 0 na))).filter fun S=>decide S.Nodup
def kv (M na s:Nat):Bool:=(sw na s).all fun S=>(nu (S.map (mT na S))).all fun R=>yK M na S R
theorem ze (M:Nat):kv M 1 1=true:=by kernel_rfl
theorem yL (M:Nat):(kv M 2 1&&kv M 2 2)=true:=by kernel_rfl
theorem zd (M:Nat):(kv M 3 1&&(kv M 3 2&&kv M 3 3))=true:=by kernel_rfl
theorem yI (M:Nat):kv M 4 1=true:=by kernel_rfl
theorem yH (M:Nat):kv M 4 2=true:=by kernel_rfl
theorem yT (M:Nat):kv M 4 3=true:=by kernel_rfl
theorem y8 (M:Nat):kv M 4 4=true:=by kernel_rfl
theorem zr (bit:Nat→Nat→Bool) (n:Nat):∀ (m:Nat) (S:List Nat),S.length≤m→S.Nodup→(∀ v,v<n→∃ j∈S,bit v j=true) →
  ∃ S':List Nat,S'.Nodup∧(∀ j∈S',j∈S)∧(∀ v,v<n→∃ j∈S',bit v j=true)∧∀ i∈S',∃ v,v<n∧bit v i=true∧∀ j∈S',j≠i→bit v j=false:=by
 intro m
 induction m with
 | zero =>
  intro S hm hn hc
  have:S=[]:=List.length_eq_zero_iff.1 (by omega)
  subst this
  exact ⟨[],hn,fun _ h=>h,hc,by simp⟩
 | succ m ih =>
  intro S hm hn hc
  by_cases h:∃ i∈S,∀ v,v<n→∃ j∈S.erase i,bit v j=true
  ·obtain ⟨i,hi,h⟩:=h
   have hl:=List.length_erase_of_mem hi
   obtain ⟨S',h1,h2,h3,h4⟩:=ih (S.erase i) (by omega) (hn.erase i) h
   exact ⟨S',h1,fun j hj=>List.mem_of_mem_erase (h2 j hj),h3,h4⟩
  ·refine ⟨S,hn,fun _ h=>h,hc,fun i hi=>?_⟩
   have h1:¬ ∀ v,v<n→∃ j∈S.erase i,bit v j=true:=fun h2=>h ⟨i,hi,h2⟩
   obtain ⟨v,h2⟩:=Classical.not_forall.1 h1
   have hv:v<n:=Classical.byContradiction fun h3=>h2 fun h4=>absurd h4 h3
   have h5:∀ j∈S,j≠i→bit v j=false:=fun j hj hji=>by
    cases hb:bit v j with
    | false=>rfl
    | true=>exact absurd (fun _=>⟨j,(List.mem_erase_of_ne hji).2 hj,hb⟩) h2
   obtain ⟨j,hj,hb⟩:=hc v hv
   by_cases e:j=i
   ·subst e;exact ⟨v,hv,hb,h5⟩
   ·rw [h5 j hj e] at hb;cases hb
theorem pB {S:List Nat} {na:Nat} (hn:S.Nodup) (hb:∀ j∈S,j<na):S.length+(mG na S).length=na:=by
 have h1:((List.range' 0 na).filter fun j=>S.contains j).length=S.length:=by
  refine Nat.le_antisymm (List.Nodup.length_le_of_subset (List.Nodup.sublist List.filter_sublist List.nodup_range') fun j hj=>?_) (List.Nodup.length_le_of_subset hn fun j hj=>?_)
  ·simpa using (List.mem_filter.1 hj).2
  ·exact List.mem_filter.2 ⟨by simpa using hb j hj,by simpa using hj⟩
 have h2:∀ I:List Nat,(I.filter fun j=>S.contains j).length+(I.filter fun j=>!S.contains j).length=I.length:=by
  intro I
  induction I with
  | nil=>rfl
  | cons i I ih =>
   rw [List.filter_cons,List.filter_cons]
   cases S.contains i
   ·simp only [Bool.not_false,if_true,Bool.false_eq_true,if_false,List.length_cons];omega
   ·simp only [Bool.not_true,if_true,Bool.false_eq_true,if_false,List.length_cons];omega
 have h3:=h2 (List.range' 0 na)
 rw [List.length_range',h1] at h3
 exact h3
theorem vS {M na:Nat} (h4:na≤4) {S:List Nat} (hn:S.Nodup) (hb:∀ j∈S,j<na) (hs:S≠[]) {R:ba} (hR:R∈nu (S.map (mT na S))):bm (M+100) (rR na S R) (rQ na S)=some (ptS na S,true):=by
 have hl:=pB hn hb
 have hp:=List.length_pos_iff.2 hs
 have key:kv M na S.length=true:=by
  have c2:=yL M
  have c3:=zd M
  simp only [Bool.and_eq_true] at c2 c3
  match na,h4,S.length,(show S.length≤na by omega),hp with
  | 0,_,k,h1,h2=>omega
  | 1,_,1,_,_=>exact ze M
  | 2,_,1,_,_=>exact c2.1
  | 2,_,2,_,_=>exact c2.2
  | 3,_,1,_,_=>exact c3.1
  | 3,_,2,_,_=>exact c3.2.1
  | 3,_,3,_,_=>exact c3.2.2
  | 4,_,1,_,_=>exact yI M
  | 4,_,2,_,_=>exact yH M
  | 4,_,3,_,_=>exact yT M
  | 4,_,4,_,_=>exact y8 M
 have hm:S∈sw na S.length:=by
  unfold sw
  rw [List.mem_filter,decide_eq_true_eq]
  refine ⟨?_,hn⟩
  have h:=lM (f:=fun _:Nat=>List.range' 0 na) (g:=fun j=>j) (I:=S) fun j hj=>by simpa using hb j hj
  rw [List.map_id'] at h
  have e:S.map (fun _:Nat=>List.range' 0 na)=List.replicate S.length (List.range' 0 na):=List.map_const' ..
  rw [e] at h
  exact h
 have h1:=List.all_eq_true.1 (List.all_eq_true.1 key S hm) R hR
 exact of_decide_eq_true h1
section
variable {N:Nat}
theorem ux (hN:1073741824≤N) {n:Nat} {atoms:List aX} (n1:1≤n) (n5:n≤5) (a1:1≤atoms.length) (a4:atoms.length≤4) (hc:∀ v,v<n→∃ j,j<atoms.length∧((v:Nat):Int)∈(g6 atoms j).2) :
  ∃ x,fD N n atoms x∧dA N (aM n atoms) (aA n) (aA atoms.length) x 1=some true:=by
 obtain ⟨S,s1,s2,s3,s4⟩:=zr (fun v j=>decide ((v:Int)∈(g6 atoms j).2)) n atoms.length (List.range' 0 atoms.length) (by simp) List.nodup_range' fun v hv=>by
  obtain ⟨j,h1,h2⟩:=hc v hv
  exact ⟨j,by simpa using h1,decide_eq_true h2⟩
 have hpx:∀ i,∃ v,i∈S→v<n∧decide (((v:Nat):Int)∈(g6 atoms i).2)=true∧∀ j∈S,j≠i→decide (((v:Nat):Int)∈(g6 atoms j).2)=false:=fun i=>by
  by_cases h:i∈S
  ·obtain ⟨v,h1⟩:=s4 i h
   exact ⟨v,fun _=>h1⟩
  ·exact ⟨0,fun h'=>absurd h' h⟩
 obtain ⟨p,hp⟩:=Classical.skolem.1 hpx
 have inj:∀ i∈S,∀ j∈S,p i=p j→i=j:=fun i hi j hj e=>by
  refine Classical.byContradiction fun hne=>?_
  have h1:=(hp i hi).2.2 j hj fun h=>hne h.symm
  have h2:=(hp j hj).2.1
  rw [← e,h1] at h2;cases h2
 -- in the order of the rows
 have hperm:=List.mergeSort_perm S (fun a b=>decide (p a≤p b))
 have hsort:(S.mergeSort fun a b=>decide (p a≤p b)).Pairwise fun a b=>decide (p a≤p b)=true :=
  List.pairwise_mergeSort (le:=fun a b=>decide (p a≤p b)) (fun a b c h1 h2=>decide_eq_true (Nat.le_trans (of_decide_eq_true h1) (of_decide_eq_true h2))) (fun a b=>by
   rcases Nat.le_total (p a) (p b) with h | h
   ·rw [decide_eq_true h];rfl
   ·rw [decide_eq_true h,Bool.or_true]) S
 generalize S.mergeSort (fun a b=>decide (p a≤p b))=T at hperm hsort
 have hT:∀ j,j∈T↔j∈S:=fun j=>hperm.mem_iff
 have tn:T.Nodup:=hperm.nodup_iff.2 s1
 have tb:∀ j∈T,j<atoms.length:=fun j hj=>by simpa using s2 j ((hT j).1 hj)
 have tne:T≠[]:=fun e=>by
  obtain ⟨j,hj,_⟩:=s3 0 (by omega)
  rw [← hT j,e] at hj;cases hj
 have hlen:=pB tn tb
 have hrowB:∀ i∈T,aZ (aM n atoms) (p i)=(List.range' 0 atoms.length).map fun j=>ip (g6 atoms j) (p i:Int):=fun i hi=>by
  have hpi:=(hp i ((hT i).1 hi)).1
  refine List.ext_getElem (by rw [jU.2 _ hpi];simp) fun j h1 h2=>?_
  have hj:j<atoms.length:=by rw [jU.2 _ hpi] at h1;exact h1
  have h3:=it (atoms:=atoms) hpi hj
  unfold cell ax at h3
  rw [List.getElem_map,List.getElem_range',Nat.zero_add,Nat.one_mul,← h3]
  simp [h1]
 have hR:T.map (fun i=>aZ (aM n atoms) (p i))∈nu (T.map (mT atoms.length T)):=lM fun i hi=>by
  rw [hrowB i hi]
  unfold mT
  refine lM fun j hj=>?_
  obtain ⟨_,g2,g3⟩:=hp i ((hT i).1 hi)
  by_cases hjT:j∈T
  ·rw [show T.contains j=true by simpa using hjT,cond_true,List.mem_singleton]
   unfold ip
   by_cases e:j=i
   ·subst e
    rw [g2,show Nat.beq j j=true from Nat.beq_refl j,cond_true]
   ·rw [g3 j ((hT j).1 hjT) e,show Nat.beq j i=false from by
     cases hb:Nat.beq j i with
     | false=>rfl
     | true=>exact absurd (Nat.eq_of_beq_eq_true hb) e,cond_false]
  ·rw [show T.contains j=false by simpa using hjT,cond_false]
   unfold ip
   cases decide ((p i:Int)∈(g6 atoms j).2)
   ·exact List.mem_cons_self
   ·exact List.mem_cons_of_mem _ List.mem_cons_self
 obtain ⟨M,rfl⟩:∃ M,N=M+100:=⟨N-100,by omega⟩
 have hsol:=vS (M:=M) a4 tn tb tne hR
 -- the pick
 let l:List Nat:=T.map p++(mG atoms.length T).map fun j=>n+j
 have hll:l.length=atoms.length:=by
  show (T.map p++(mG atoms.length T).map fun j=>n+j).length=_
  rw [List.length_append,List.length_map,List.length_map];exact hlen
 have hasc:l.Pairwise (·<·):=by
  refine List.pairwise_append.2 ⟨?_,?_,fun a ha b hb=>?_⟩
  ·rw [List.pairwise_map]
   refine (List.Pairwise.and hsort tn).imp_of_mem fun {a b} ha hb h=>?_
   have h1:p a≤p b:=of_decide_eq_true h.1
   have h2:p a≠p b:=fun e=>h.2 (inj a ((hT a).1 ha) b ((hT b).1 hb) e)
   omega
  ·rw [List.pairwise_map]
   have:(mG atoms.length T).Pairwise (·<·):=List.Pairwise.sublist List.filter_sublist List.pairwise_lt_range'
   exact this.imp fun h=>by omega
  ·obtain ⟨i,hi,rfl⟩:=List.mem_map.1 ha
   obtain ⟨j,_,rfl⟩:=List.mem_map.1 hb
   have:=(hp i ((hT i).1 hi)).1
   omega
 have hlb:∀ v∈l,0≤v∧v<n+atoms.length:=fun v hv=>by
  refine ⟨Nat.zero_le v,?_⟩
  rcases List.mem_append.1 hv with h | h
  ·obtain ⟨i,hi,rfl⟩:=List.mem_map.1 h
   have:=(hp i ((hT i).1 hi)).1
   omega
  ·obtain ⟨j,hj,rfl⟩:=List.mem_map.1 h
   have:j<atoms.length:=by simpa using (List.mem_filter.1 hj).1
   omega
 have hpick:=pJ hll hasc hlb
 have enat:gl (l.map fun v:Nat=>(v:Int))=l:=by
  unfold gl
  rw [List.map_map]
  have:(Int.toNat ∘ fun v:Nat=>(v:Int))=id:=funext fun v=>Int.toNat_natCast v
  rw [this,List.map_id]
 have eA:df (aM n atoms) n atoms.length (l.map fun v:Nat=>(v:Int))=rR atoms.length T (T.map fun i=>aZ (aM n atoms) (p i)):=by
  unfold df rR
  rw [enat]
  show (T.map p++(mG atoms.length T).map fun j=>n+j).map _=_
  rw [List.map_append,List.map_map,List.map_map]
  congr 1
  ·refine List.map_congr_left fun i hi=>?_
   show fm (aM n atoms) n atoms.length (p i)=_
   unfold fm
   rw [if_pos (hp i ((hT i).1 hi)).1]
  ·refine List.map_congr_left fun j _=>?_
   show fm (aM n atoms) n atoms.length (n+j)=_
   unfold fm
   rw [if_neg (by omega),Nat.add_sub_cancel_left]
 have eB:cW n (l.map fun v:Nat=>(v:Int))=rQ atoms.length T:=by
  unfold cW rQ
  rw [enat]
  show (T.map p++(mG atoms.length T).map fun j=>n+j).map _=_
  rw [List.map_append,List.map_map,List.map_map]
  congr 1
  ·refine List.map_congr_left fun i hi=>?_
   show f6 n (p i)=_
   unfold f6
   rw [if_pos (hp i ((hT i).1 hi)).1]
  ·refine List.map_congr_left fun j _=>?_
   show f6 n (n+j)=_
   unfold f6
   rw [if_neg (by omega)]
 have hpl:(ptS atoms.length T).length=atoms.length:=by unfold ptS;simp
 have hpc:∀ j,j<atoms.length→ax (ptS atoms.length T) j=bif T.contains j then (1,1) else (0,1):=fun j hj=>by
  unfold ptS ax;simp [hj]
 obtain ⟨b,eb,hb1,hb2⟩:=re hN n1 n5 a1 a4 hpl
 have hbt:b=true:=hb2 (fun j hj=>by
  rw [hpc j (by omega)]
  cases T.contains j
  ·exact .inl rfl
  ·exact .inr rfl) fun v hv=>by
  obtain ⟨j,hj,hbit⟩:=s3 v hv
  have hjl:j<atoms.length:=by simpa using s2 j hj
  refine ⟨j,by omega,?_,?_⟩
  ·rw [it hv hjl]
   unfold ip
   rw [hbit];rfl
  ·rw [hpc j hjl,show T.contains j=true by simpa using (hT j).2 hj];rfl
 subst hbt
 exact ⟨ptS atoms.length T,⟨hb1 rfl,_,hpick,by rw [eA,eB];exact hsol⟩,eb⟩
end
section
variable {N:Nat}
theorem yU (hN:1073741824≤N) {ss:List Int} (hs:ss.length≤1000) (hv:∀ v∈ss,0≤v∧v≤16) {A:ba} {B C:aW}:∀ (c i fuel:Nat),i+c=ss.length→c<fuel →
  ∃ z,cC N fuel ss A B C (i:Int)=some (.inr z):=by
 intro c
 induction c with
 | zero =>
  intro i fuel hi hf
  obtain ⟨fuel,rfl⟩:∃ k',fuel=k'+1:=⟨fuel-1,by omega⟩
  rw [cC,decide_eq_false (by omega),cond_false]
  exact ⟨_,rfl⟩
 | succ c ih =>
  intro i fuel hi hf
  obtain ⟨fuel,rfl⟩:∃ k',fuel=k'+1:=⟨fuel-1,by omega⟩
  have hil:i<ss.length:=by omega
  have h1:=hv _ (List.getElem_mem hil)
  rw [cC,decide_eq_true (by omega),cond_true,aV hil,bs,d6,bs,show inR ss[i] 0 16=true from cz.2 h1,cond_true,bE (by omega) (by omega),bs]
  exact ih (i+1) fuel (by omega) (by omega)
end
section
variable {N:Nat}
theorem st (hN:1073741824≤N) {a b:List Int} (ha:Cn a) (hb:Cn b) (la:a.length≤60) (lb:b.length≤60) (h:vB a*vB b<10 ^ 60):∃ r,fc N a b=some (r,true)∧vB r=vB a*vB b∧Cn r∧r.length≤60:=by
 obtain ⟨r,e1,e2,_⟩:=lK hN (a:=a) (b:=b) (by omega) (by omega)
 obtain ⟨q,e3,h1,h2⟩:=rN hN ha hb la lb
 rw [e2] at e3
 obtain rfl:=Option.some.inj e3
 have ht:=h2.2 h
 obtain ⟨r1,r2⟩:=r
 obtain rfl:r2=true:=ht
 exact ⟨r1,e1,h1 rfl⟩
theorem mL (hN:1073741824≤N) {n:Int} (h0:0≤n) (h1:n≤9223372036854775807) {d:Nat} (hd:d≤100) (h:∀ j,j<d→n ^ (j+1)<10 ^ 60):∃ r,d7 N n (d:Int)=some (r,true)∧vB r=n ^ d∧Cn r∧r.length≤60:=by
 obtain ⟨r,e1,e2,_⟩:=nk hN (n:=n) (k:=(d:Int)) h1
 obtain ⟨q,e3,h2,h3⟩:=wq hN h0 h1 hd
 rw [e2] at e3
 obtain rfl:=Option.some.inj e3
 have ht:=h3.2 h
 obtain ⟨r1,r2⟩:=r
 obtain rfl:r2=true:=ht
 exact ⟨r1,e1,h2 rfl⟩
theorem vi (hN:1073741824≤N) {a b:List Int} (ha:Cn a) (hb:Cn b) (la:a.length≤60) (lb:b.length≤60):∃ q,dn N a b=some q∧(q≤0↔vB a≤vB b):=by
 obtain ⟨c,e1,e2⟩:=l5 hN (a:=a) (b:=b) (by omega) (by omega)
 obtain ⟨q,e3,h⟩:=vJ hN ha hb la lb
 rw [e2] at e3
 obtain rfl:=Option.some.inj e3
 exact ⟨c,e1,h⟩
theorem wY (hN:1073741824≤N) {a b:List Int} (ha:Cn a) (hb:Cn b) (la:a.length≤60) (lb:b.length≤60):∃ q,dn N a b=some q∧(q<0↔vB a<vB b)∧-1≤q∧q≤1:=by
 obtain ⟨c,e1,e2⟩:=l5 hN (a:=a) (b:=b) (by omega) (by omega)
 obtain ⟨q,e3,_,h⟩:=qa hN ha hb la lb
 rw [e2] at e3
 obtain rfl:=Option.some.inj e3
 exact ⟨c,e1,h⟩
theorem vq (hN:1073741824≤N):∃ b,dC N 1=some b∧vB b=1∧Cn b∧b.length≤60:=by
 obtain ⟨r,e,h1,h2,h3⟩:=mL hN (n:=1) (by decide) (by decide) (d:=0) (by decide) (fun j hj=>absurd hj (Nat.not_lt_zero j))
 refine ⟨r,?_,by rw [h1];rfl,h2,h3⟩
 unfold d7 at e
 rw [show decide ((1:Int)<0)=false from rfl,cond_false,d6,bs,show inR ((0:Nat):Int) 0 100=true from cz.2 (by omega),cond_true] at e
 cases hb:dC N 1 with
 | none=>rw [hb] at e;cases e
 | some b =>
  rw [hb,bs] at e
  obtain ⟨k,rfl⟩:∃ k,N=k+1:=⟨N-1,by omega⟩
  rw [cB,decide_eq_false (by omega),cond_false,bs,fQ] at e
  injection e with e
  exact congrArg some (congrArg Prod.fst e)
theorem sO (hN:1073741824≤N) {na:Nat} (h4:na≤4) {s k:Nat→Nat} (hs:∀ i,i<na→s i≤16) (hk:∀ i,i<na→k i≤3) :
  ∃ r,bQ N ((List.range' 0 na).map fun i:Nat=>(s i:Int)) ((List.range' 0 na).map fun i:Nat=>(k i:Int))=some (r,true)∧vB r=((prN ((List.range' 0 na).map fun i=>s i ^ k i):Nat):Int)∧Cn r∧r.length≤60∧prN ((List.range' 0 na).map fun i=>s i ^ k i)≤4096 ^ na:=by
 have l1:∀ f:Nat→Nat,((List.range' 0 na).map fun i:Nat=>(f i:Int)).length=na:=fun f=>by simp
 have g1:∀ (f:Nat→Nat) (j:Nat),j<na→((List.range' 0 na).map fun i:Nat=>(f i:Int)).getD j 0=(f j:Int):=fun f j hj=>by
  rw [eJ (by rw [l1];exact hj),List.getElem_map,List.getElem_range',Nat.zero_add,Nat.one_mul]
 have pw:∀ i,i<na→s i ^ k i≤4096:=fun i hi=>by
  rcases Nat.eq_zero_or_pos (s i) with h0 | h0
  ·rw [h0]
   rcases Nat.eq_zero_or_pos (k i) with h1 | h1
   ·rw [h1];decide
   ·rw [Nat.zero_pow h1];decide
  ·exact Nat.le_trans (Nat.pow_le_pow_right h0 (hk i hi)) (Nat.pow_le_pow_left (hs i hi) 3)
 have ps:∀ i,prN ((List.range' 0 (i+1)).map fun i=>s i ^ k i)=prN ((List.range' 0 i).map fun i=>s i ^ k i)*s i ^ k i:=fun i=>by
  rw [List.range'_concat,List.map_append,o5]
  simp only [Nat.zero_add,Nat.one_mul,List.map_cons,List.map_nil,prN,Nat.mul_one]
 have pb:∀ i,i≤na→prN ((List.range' 0 i).map fun i=>s i ^ k i)≤4096 ^ i:=by
  intro i
  induction i with
  | zero =>
   intro _
   exact Nat.le_refl 1
  | succ i ih =>
   intro hi
   rw [ps,Nat.pow_succ]
   exact Nat.mul_le_mul (ih (by omega)) (pw i (by omega))
 have key:∀ (c i fuel:Nat) (b:List Int),i+c=na→c<fuel→Cn b→b.length≤60→vB b=((prN ((List.range' 0 i).map fun i=>s i ^ k i):Nat):Int) →
   ∃ r z,aS N fuel ((List.range' 0 na).map fun i:Nat=>(s i:Int)) ((List.range' 0 na).map fun i:Nat=>(k i:Int)) [] b (i:Int)=some (.inr (r,z))∧vB r=((prN ((List.range' 0 na).map fun i=>s i ^ k i):Nat):Int)∧Cn r∧r.length≤60:=by
  intro c
  induction c with
  | zero =>
   intro i fuel b hi hf hb lb hv
   obtain ⟨fuel,rfl⟩:∃ k',fuel=k'+1:=⟨fuel-1,by omega⟩
   rw [aS,l1,decide_eq_false (by omega),cond_false]
   obtain rfl:i=na:=by omega
   exact ⟨b,_,rfl,hv,hb,lb⟩
  | succ c ih =>
   intro i fuel b hi hf hb lb hv
   obtain ⟨fuel,rfl⟩:∃ k',fuel=k'+1:=⟨fuel-1,by omega⟩
   have hsi:=hs i (by omega)
   have hki:=hk i (by omega)
   have hp:=pw i (by omega)
   obtain ⟨r,e,hr,cr,lr⟩:=mL hN (n:=(s i:Int)) (by omega) (by omega) (d:=k i) (by omega) fun j hj=>by
    have h1:s i ^ (j+1)≤16 ^ 3:=by
     rcases Nat.eq_zero_or_pos (s i) with h0 | h0
     ·rw [h0,Nat.zero_pow (by omega)];decide
     ·exact Nat.le_trans (Nat.pow_le_pow_right h0 (by omega)) (Nat.pow_le_pow_left hsi 3)
    have h2:((s i:Int)) ^ (j+1)=((s i ^ (j+1):Nat):Int):=(Int.natCast_pow ..).symm
    rw [h2]
    have:((s i ^ (j+1):Nat):Int)≤4096:=by omega
    exact Int.lt_of_le_of_lt this (by decide)
   have hr':vB r=((s i ^ k i:Nat):Int):=by rw [hr,Int.natCast_pow]
   have hb':=pb i (by omega)
   have hi4:(4096:Nat) ^ i≤4096 ^ 4:=Nat.pow_le_pow_right (by decide) (by omega)
   have hmul:=Nat.mul_le_mul (Nat.le_trans hb' hi4) hp
   have hm:vB b*vB r=((prN ((List.range' 0 (i+1)).map fun i=>s i ^ k i):Nat):Int):=by
    rw [hv,hr',ps,Int.natCast_mul]
   obtain ⟨y,e2,hy,cy,ly⟩:=st hN hb cr lb lr (by
    rw [hm,ps]
    have:((prN ((List.range' 0 i).map fun i=>s i ^ k i)*s i ^ k i:Nat):Int)≤((4096 ^ 4*4096:Nat):Int):=Int.ofNat_le.2 hmul
    exact Int.lt_of_le_of_lt this (by decide))
   rw [aS,l1,decide_eq_true (by omega),cond_true,ixD (by rw [l1];omega),bs,g1 s i (by omega),ixD (by rw [l1];omega),bs,g1 k i (by omega),e,bs]
   dsimp only
   rw [e2,bs]
   dsimp only
   rw [cond_true,cond_true,bE (by omega) (by omega),bs]
   exact ih (i+1) fuel y (by omega) (by omega) cy ly (by rw [hy,hm])
 obtain ⟨b,eb,hb,cb,lb⟩:=vq hN
 obtain ⟨r,z,e,h1,h2,h3⟩:=key na 0 N b (by omega) (by omega) cb lb (by rw [hb];rfl)
 refine ⟨r,?_,h1,h2,h3,pb na (Nat.le_refl _)⟩
 unfold bQ
 have e':aS N N ((List.range' 0 na).map fun i:Nat=>(s i:Int)) ((List.range' 0 na).map fun i:Nat=>(k i:Int)) [] b 0=_:=e
 rw [l1,l1,show ((na:Int) != (na:Int))=false by rw [bne_eq_false_iff_eq],cond_false,eb,bs,e',bs,fQ]
end
section
variable {N:Nat}
theorem sB (hN:1073741824≤N) {na:Nat} (h4:na≤4) {s k:Nat→Nat} (hs:∀ i,i<na→s i≤16) (hk:∀ i,i<na→k i≤9) :
  ∃ r,bQ N ((List.range' 0 na).map fun i:Nat=>(s i:Int)) ((List.range' 0 na).map fun i:Nat=>(k i:Int))=some (r,true)∧vB r=((prN ((List.range' 0 na).map fun i=>s i ^ k i):Nat):Int)∧Cn r∧r.length≤60∧prN ((List.range' 0 na).map fun i=>s i ^ k i)≤68719476736 ^ na:=by
 have l1:∀ f:Nat→Nat,((List.range' 0 na).map fun i:Nat=>(f i:Int)).length=na:=fun f=>by simp
 have g1:∀ (f:Nat→Nat) (j:Nat),j<na→((List.range' 0 na).map fun i:Nat=>(f i:Int)).getD j 0=(f j:Int):=fun f j hj=>by
  rw [eJ (by rw [l1];exact hj),List.getElem_map,List.getElem_range',Nat.zero_add,Nat.one_mul]
 have pw:∀ i,i<na→s i ^ k i≤68719476736:=fun i hi=>by
  rcases Nat.eq_zero_or_pos (s i) with h0 | h0
  ·rw [h0]
   rcases Nat.eq_zero_or_pos (k i) with h1 | h1
   ·rw [h1];decide
   ·rw [Nat.zero_pow h1];decide
  ·exact Nat.le_trans (Nat.pow_le_pow_right h0 (hk i hi)) (Nat.pow_le_pow_left (hs i hi) 9)
 have ps:∀ i,prN ((List.range' 0 (i+1)).map fun i=>s i ^ k i)=prN ((List.range' 0 i).map fun i=>s i ^ k i)*s i ^ k i:=fun i=>by
  rw [List.range'_concat,List.map_append,o5]
  simp only [Nat.zero_add,Nat.one_mul,List.map_cons,List.map_nil,prN,Nat.mul_one]
 have pb:∀ i,i≤na→prN ((List.range' 0 i).map fun i=>s i ^ k i)≤68719476736 ^ i:=by
  intro i
  induction i with
  | zero =>
   intro _
   exact Nat.le_refl 1
  | succ i ih =>
   intro hi
   rw [ps,Nat.pow_succ]
   exact Nat.mul_le_mul (ih (by omega)) (pw i (by omega))
 have key:∀ (c i fuel:Nat) (b:List Int),i+c=na→c<fuel→Cn b→b.length≤60→vB b=((prN ((List.range' 0 i).map fun i=>s i ^ k i):Nat):Int) →
   ∃ r z,aS N fuel ((List.range' 0 na).map fun i:Nat=>(s i:Int)) ((List.range' 0 na).map fun i:Nat=>(k i:Int)) [] b (i:Int)=some (.inr (r,z))∧vB r=((prN ((List.range' 0 na).map fun i=>s i ^ k i):Nat):Int)∧Cn r∧r.length≤60:=by
  intro c
  induction c with
  | zero =>
   intro i fuel b hi hf hb lb hv
   obtain ⟨fuel,rfl⟩:∃ k',fuel=k'+1:=⟨fuel-1,by omega⟩
   rw [aS,l1,decide_eq_false (by omega),cond_false]
   obtain rfl:i=na:=by omega
   exact ⟨b,_,rfl,hv,hb,lb⟩
  | succ c ih =>
   intro i fuel b hi hf hb lb hv
   obtain ⟨fuel,rfl⟩:∃ k',fuel=k'+1:=⟨fuel-1,by omega⟩
   have hsi:=hs i (by omega)
   have hki:=hk i (by omega)
   have hp:=pw i (by omega)
   obtain ⟨r,e,hr,cr,lr⟩:=mL hN (n:=(s i:Int)) (by omega) (by omega) (d:=k i) (by omega) fun j hj=>by
    have h1:s i ^ (j+1)≤16 ^ 9:=by
     rcases Nat.eq_zero_or_pos (s i) with h0 | h0
     ·rw [h0,Nat.zero_pow (by omega)];decide
     ·exact Nat.le_trans (Nat.pow_le_pow_right h0 (by omega)) (Nat.pow_le_pow_left hsi 9)
    have h2:((s i:Int)) ^ (j+1)=((s i ^ (j+1):Nat):Int):=(Int.natCast_pow ..).symm
    rw [h2]
    have:((s i ^ (j+1):Nat):Int)≤68719476736:=by omega
    exact Int.lt_of_le_of_lt this (by decide)
   have hr':vB r=((s i ^ k i:Nat):Int):=by rw [hr,Int.natCast_pow]
   have hb':=pb i (by omega)
   have hi4:(68719476736:Nat) ^ i≤68719476736 ^ 4:=Nat.pow_le_pow_right (by decide) (by omega)
   have hmul:=Nat.mul_le_mul (Nat.le_trans hb' hi4) hp
   have hm:vB b*vB r=((prN ((List.range' 0 (i+1)).map fun i=>s i ^ k i):Nat):Int):=by
    rw [hv,hr',ps,Int.natCast_mul]
   obtain ⟨y,e2,hy,cy,ly⟩:=st hN hb cr lb lr (by
    rw [hm,ps]
    have:((prN ((List.range' 0 i).map fun i=>s i ^ k i)*s i ^ k i:Nat):Int)≤((68719476736 ^ 4*68719476736:Nat):Int):=Int.ofNat_le.2 hmul
    exact Int.lt_of_le_of_lt this (by decide))
   rw [aS,l1,decide_eq_true (by omega),cond_true,ixD (by rw [l1];omega),bs,g1 s i (by omega),ixD (by rw [l1];omega),bs,g1 k i (by omega),e,bs]
   dsimp only
   rw [e2,bs]
   dsimp only
   rw [cond_true,cond_true,bE (by omega) (by omega),bs]
   exact ih (i+1) fuel y (by omega) (by omega) cy ly (by rw [hy,hm])
 obtain ⟨b,eb,hb,cb,lb⟩:=vq hN
 obtain ⟨r,z,e,h1,h2,h3⟩:=key na 0 N b (by omega) (by omega) cb lb (by rw [hb];rfl)
 refine ⟨r,?_,h1,h2,h3,pb na (Nat.le_refl _)⟩
 unfold bQ
 have e':aS N N ((List.range' 0 na).map fun i:Nat=>(s i:Int)) ((List.range' 0 na).map fun i:Nat=>(k i:Int)) [] b 0=_:=e
 rw [l1,l1,show ((na:Int) != (na:Int))=false by rw [bne_eq_false_iff_eq],cond_false,eb,bs,e',bs,fQ]
def xsF (na:Nat) (k:Nat→Nat) (e i:Nat):List Int:=(List.range' 0 na).map fun j:Nat=>(((if j<i then k j*e else k j):Nat):Int)
theorem io (na:Nat) (k:Nat→Nat) (e i:Nat):(xsF na k e i).length=na:=by unfold xsF;simp
theorem oy {na:Nat} {k:Nat→Nat} {e i j:Nat} (h:j<na):(xsF na k e i).getD j 0=(((if j<i then k j*e else k j):Nat):Int):=by
 rw [eJ (by rw [io];exact h)]
 unfold xsF
 rw [List.getElem_map,List.getElem_range',Nat.zero_add,Nat.one_mul]
theorem qH (na:Nat) (k:Nat→Nat) (e:Nat):xsF na k e 0=(List.range' 0 na).map fun j:Nat=>(k j:Int):=by
 unfold xsF
 simp
theorem qf (na:Nat) (k:Nat→Nat) (e:Nat):xsF na k e na=(List.range' 0 na).map fun j:Nat=>((k j*e:Nat):Int):=by
 unfold xsF
 refine List.map_congr_left fun j hj=>?_
 rw [if_pos (by simp at hj;omega)]
theorem ro {na:Nat} {k:Nat→Nat} {e i:Nat} (h:i<na):(xsF na k e i).set i ((k i*e:Nat):Int)=xsF na k e (i+1):=by
 refine List.ext_getElem (by rw [List.length_set,io,io]) fun j h1 h2=>?_
 rw [List.length_set,io] at h1
 rw [List.getElem_set]
 have g1:=oy (k:=k) (e:=e) (i:=i) h1
 have g2:=oy (k:=k) (e:=e) (i:=i+1) h1
 rw [eJ (by rw [io];exact h1)] at g1 g2
 rw [g1,g2]
 by_cases hij:i=j
 ·subst hij
  rw [if_pos rfl,if_pos (by omega)]
 ·rw [if_neg hij]
  by_cases hl:j<i
  ·rw [if_pos hl,if_pos (by omega)]
  ·rw [if_neg hl,if_neg (by omega)]
theorem vt (hN:1073741824≤N) {ss:List Int} {d e:Nat} (d3:d≤3) (e3:e≤3) {na:Nat} (hna:na≤4) {k q:Nat→Nat} (hk:∀ i,i<na→k i≤3) (hq:∀ i,i<na→q i≤3):∀ (c i fuel:Nat),i+c=na→c<fuel →
  ∃ z,dm N fuel ss (xsF na k e i) (d:Int) (xsF na q d i) (e:Int) (i:Int)=some (xsF na k e na,xsF na q d na,z):=by
 intro c
 induction c with
 | zero =>
  intro i fuel hi hf
  obtain ⟨fuel,rfl⟩:∃ k',fuel=k'+1:=⟨fuel-1,by omega⟩
  rw [dm,io,decide_eq_false (by omega),cond_false]
  obtain rfl:i=na:=by omega
  exact ⟨_,rfl⟩
 | succ c ih =>
  intro i fuel hi hf
  obtain ⟨fuel,rfl⟩:∃ k',fuel=k'+1:=⟨fuel-1,by omega⟩
  have hin:i<na:=by omega
  have m1:k i*e≤3*3:=Nat.mul_le_mul (hk i hin) e3
  have m2:q i*d≤3*3:=Nat.mul_le_mul (hq i hin) d3
  have x1:(xsF na k e i).getD i 0=(k i:Int):=by rw [oy hin,if_neg (by omega)]
  have x2:(xsF na q d i).getD i 0=(q i:Int):=by rw [oy hin,if_neg (by omega)]
  have p1:(k i:Int)*(e:Int)=((k i*e:Nat):Int):=(Int.natCast_mul ..).symm
  have p2:(q i:Int)*(d:Int)=((q i*d:Nat):Int):=(Int.natCast_mul ..).symm
  rw [dm,io,decide_eq_true (by omega),cond_true,ixD (by rw [io];exact hin),bs,x1,eN (by rw [p1];omega) (by rw [p1];omega),bs,p1,bs,kF (by rw [io];exact hin),bs,ro hin,ixD (by rw [io];exact hin),bs,x2,eN (by rw [p2];omega) (by rw [p2];omega),bs,p2,bs,kF (by rw [io];exact hin),bs,ro hin,bE (by omega) (by omega),bs]
  exact ih (i+1) fuel (by omega) (by omega)
def PVx (N:Nat) (na:Nat) (s:Nat→Nat) (x:aW):Nat × Nat :=
 match bG N x with
 | some (ws,d)=>(prN ((List.range' 0 na).map fun i=>s i ^ (ws.getD i 0).toNat),d.toNat)
 | none=>(0,0)
theorem t9 {na:Nat} {s k:Nat→Nat} {d:Nat} {x:aW} (h:bG N x=some ((List.range' 0 na).map (fun i:Nat=>(k i:Int)),(d:Int))):PVx N na s x=(prN ((List.range' 0 na).map fun i=>s i ^ k i),d):=by
 unfold PVx
 rw [h]
 dsimp only
 congr 2
 refine List.map_congr_left fun i hi=>?_
 have hin:i<na:=by simp at hi;omega
 rw [eJ (by simp;exact hin),List.getElem_map,List.getElem_range',Nat.zero_add,Nat.one_mul,Int.toNat_natCast]
def LeV (N na:Nat) (s:Nat→Nat) (x y:aW):Prop:=(PVx N na s x).1 ^ (PVx N na s y).2≤(PVx N na s y).1 ^ (PVx N na s x).2
theorem LeV.refl {na:Nat} {s:Nat→Nat} (x:aW):LeV N na s x x:=Nat.le_refl _
theorem LeV.trans {na:Nat} {s:Nat→Nat} {x y z:aW} (hy:1≤(PVx N na s y).2) (h1:LeV N na s x y) (h2:LeV N na s y z):LeV N na s x z:=by
 unfold LeV at *
 generalize PVx N na s x=X at *
 generalize PVx N na s y=Y at *
 generalize PVx N na s z=Z at *
 refine (Nat.pow_le_pow_iff_left (show Y.2≠0 by omega)).1 ?_
 have a1:=Nat.pow_le_pow_left h1 Z.2
 have a2:=Nat.pow_le_pow_left h2 X.2
 rw [← Nat.pow_mul,← Nat.pow_mul] at a1 a2 ⊢
 rw [Nat.mul_comm Z.2 Y.2,Nat.mul_comm X.2 Y.2]
 rw [Nat.mul_comm X.2 Z.2] at a1
 rw [Nat.mul_comm Z.2 X.2] at a2
 refine Nat.le_trans a1 ?_
 rw [Nat.mul_comm Z.2 X.2]
 exact Nat.le_trans a2 (Nat.le_of_eq (by rw [Nat.mul_comm]))
end
section
variable {N:Nat}
theorem tX {ss:List Int} (hv:∀ v∈ss,0≤v∧v≤16):∃ s:Nat→Nat,(∀ i,i<ss.length→s i≤16)∧ss=(List.range' 0 ss.length).map fun i:Nat=>(s i:Int):=by
 refine ⟨fun i=>(ss.getD i 0).toNat,fun i hi=>?_,List.ext_getElem (by simp) fun i h1 h2=>?_⟩
 ·have:=hv _ (List.getElem_mem hi)
  dsimp only
  rw [eJ hi]
  omega
 ·have:=hv _ (List.getElem_mem h1)
  rw [List.getElem_map,List.getElem_range',Nat.zero_add,Nat.one_mul]
  dsimp only
  rw [eJ h1]
  omega
end
theorem rx {g:Nat→Rat}:∀ {n i:Nat},i<n→(∀ j,j<n→0≤g j)→g i≤cA n g
 | 0,i,h,_=>absurd h (Nat.not_lt_zero i)
 | n+1,i,h,h0=>by
  have hn:0≤cA n g:=by
   clear h
   have:∀ m,m≤n→0≤cA m g:=by
    intro m
    induction m with
    | zero=>intro _;exact Rat.le_refl
    | succ m ih =>
     intro hm
     have h1:=ih (by omega)
     have h2:=h0 m (by omega)
     unfold cA
     grind
   exact this n (Nat.le_refl n)
  have hl:=h0 n (by omega)
  unfold cA
  by_cases e:i=n
  ·subst e
   grind
  ·have:=rx (g:=g) (n:=n) (i:=i) (by omega) fun j hj=>h0 j (by omega)
   grind
section
variable {N:Nat}
theorem ve (hN:1073741824≤N) {n:Nat} {atoms:List aX} {x:aW} (F:FeasR N n atoms x) {i:Nat} (hi:i<atoms.length):0≤rv (ax x i):=by
 have hxl:=F.len
 have h1:=(F.ok i (by omega)).2
 have h3:=((fu hN).1 (F.ok i (by omega)).1).1
 unfold rv
 rw [Rat.div_def]
 exact Rat.mul_nonneg (Rat.intCast_nonneg.2 h1) (Rat.le_of_lt (Rat.inv_pos.2 (Rat.intCast_pos.2 (by omega))))
theorem wM (hN:1073741824≤N) {n:Nat} {atoms:List aX} (a4:atoms.length≤4) {x:aW} (hp:fD N n atoms x) {i:Nat} (hi:i<atoms.length):rv (ax x i)≤1:=by
 obtain ⟨F,l,hl,hs⟩:=hp
 obtain ⟨m1,m2⟩:=iW hl
 have hsh:=lj (n:=n) (atoms:=atoms) m1
 have hbl:(cW n l).length=atoms.length:=by unfold cW gl;rw [List.length_map,List.length_map,m1]
 obtain ⟨x',ok,es,hsol⟩:=jE hN (n:=atoms.length) (by omega) hsh hbl
 rw [hs] at es
 obtain ⟨rfl,rfl⟩:x=x'∧true=ok:=by
  have:=Option.some.inj es
  exact ⟨congrArg Prod.fst this,congrArg Prod.snd this⟩
 obtain ⟨_,_,hiff⟩:=hsol rfl
 have hnn:∀ j,j<atoms.length→0≤rv (ax x j):=fun j hj=>ve hN F hj
 have hX:=(hiff fun j=>rv (ax x j)).2 fun j _=>rfl
 have hrow:∀ r (hr:r<atoms.length),(∀ j,j<atoms.length→cv (df (aM n atoms) n atoms.length l) r j=0∨cv (df (aM n atoms) n atoms.length l) r j=1)∧rv (ax (cW n l) r)≤1:=fun r hr=>by
  have hlr:r<l.length:=by omega
  have hm:=m2 _ (List.getElem_mem hlr)
  have e1:aZ (df (aM n atoms) n atoms.length l) r=fm (aM n atoms) n atoms.length (l[r]'(by omega)).toNat:=by
   unfold aZ df gl
   simp [m1,hr]
  have e2:ax (cW n l) r=f6 n (l[r]'(by omega)).toNat:=by
   unfold ax cW gl
   simp [m1,hr]
  have b1:∀ q:cL,je q→rv q=0∨rv q=1:=fun q hq=>by
   rcases hq with rfl | rfl
   ·left;rw [il];rfl
   ·right;rw [il];rfl
  refine ⟨fun j hj=>b1 _ ?_,?_⟩
  ·unfold cell
   rw [e1]
   unfold fm
   split
   ·rename_i h
    have:=it (atoms:=atoms) h hj
    unfold cell at this
    rw [this]
    exact ja _ _
   ·exact pE (by omega) hj
  ·rw [e2]
   unfold f6
   split
   ·rw [il];exact Rat.le_refl
   ·rw [il]
    have:((0:Int):Rat)=0:=rfl
    rw [this]
    grind
 refine Classical.byContradiction fun hgt=>?_
 have hz:∀ r,r<atoms.length→cv (df (aM n atoms) n atoms.length l) r i=0:=fun r hr=>by
  obtain ⟨h1,h2⟩:=hrow r hr
  rcases h1 i hi with h | h
  ·exact h
  ·exfalso
   have h3:=rx (g:=fun j=>cv (df (aM n atoms) n atoms.length l) r j*rv (ax x j)) hi fun j hj=>by
    have:=hnn j hj
    rcases h1 j hj with h | h
    ·rw [h];grind
    ·rw [h];grind
   have h4:=hX r hr
   rw [h4] at h3
   rw [h] at h3
   grind
 have hy:=(hiff fun j=>if j=i then rv (ax x j)+1 else rv (ax x j)).1 fun r hr=>by
  rw [← hX r hr]
  refine dV fun j hj=>?_
  by_cases e:j=i
  ·subst e
   rw [hz r hr]
   grind
  ·rw [if_neg e]
 have h5:=hy i hi
 rw [if_pos rfl] at h5
 grind
theorem s9 (hN:1073741824≤N) {n:Nat} {atoms:List aX} (n5:n≤5) (a1:1≤atoms.length) (a4:atoms.length≤4) {x:aW} (hp:fD N n atoms x) {d:Nat} {k:Nat→Nat} (ed:bG N x=some ((List.range' 0 atoms.length).map (fun i:Nat=>(k i:Int)),(d:Int))):∀ i,i<atoms.length→k i≤d:=by
 intro i hi
 obtain ⟨K,hD,_⟩:=pD hN n5 a1 a4 hp
 have h1:=wM hN a4 hp hi
 have hxl:=hp.1.len
 obtain ⟨d',_,es,hv⟩:=rJ hN hD
 rw [ed] at es
 have es:=Option.some.inj es
 have e1:((d:Nat):Int)=d':=congrArg Prod.snd es
 have e2:=congrArg Prod.fst es
 dsimp only at e2
 obtain ⟨v,ev,v0,hvv⟩:=hv i (by omega)
 rw [← e2,eJ (by simp;exact hi),List.getElem_map,List.getElem_range',Nat.zero_add,Nat.one_mul] at ev
 rw [← e1] at hvv
 rw [← ev] at hvv
 have h2:(((d:Nat):Int):Rat)*rv (ax x i)≤(((d:Nat):Int):Rat)*1:=Rat.mul_le_mul_of_nonneg_left h1 (Rat.intCast_nonneg.2 (by omega))
 rw [← hvv,Rat.mul_one] at h2
 have:=Rat.intCast_le_intCast.1 h2
 omega
theorem pL (f:Nat→Nat) (c:Nat):∀ L:List Nat,(∀ i∈L,f i≤c)→prN (L.map f)≤c ^ L.length
 | [],_=>Nat.le_refl _
 | i :: L,h=>by
  rw [List.length_cons,Nat.pow_succ,Nat.mul_comm]
  exact Nat.mul_le_mul (h i List.mem_cons_self) (pL f c L fun j hj=>h j (List.mem_cons_of_mem _ hj))
theorem qD {na:Nat} (h4:na≤4) {s k:Nat→Nat} {d:Nat} (d1:1≤d) (hs:∀ i,i<na→s i≤16) (hk:∀ i,i<na→k i≤d):prN ((List.range' 0 na).map fun i=>s i ^ k i)<100001 ^ d:=by
 have h1:=pL (fun i=>s i ^ k i) (16 ^ d) (List.range' 0 na) fun i hi=>by
  have hin:i<na:=by simp at hi;omega
  rcases Nat.eq_zero_or_pos (s i) with h0 | h0
  ·rw [h0]
   rcases Nat.eq_zero_or_pos (k i) with h1 | h1
   ·rw [h1];exact Nat.one_le_pow _ _ (by decide)
   ·rw [Nat.zero_pow h1];exact Nat.zero_le _
  ·exact Nat.le_trans (Nat.pow_le_pow_right h0 (hk i hin)) (Nat.pow_le_pow_left (hs i hin) d)
 rw [List.length_range',← Nat.pow_mul] at h1
 have h2:(16:Nat) ^ (d*na)≤16 ^ (4*d):=Nat.pow_le_pow_right (by decide) (by rw [Nat.mul_comm d na];exact Nat.mul_le_mul_right d h4)
 have h3:(16:Nat) ^ (4*d)=65536 ^ d:=by rw [Nat.pow_mul]
 have h4:(65536:Nat) ^ d<100001 ^ d:=Nat.pow_lt_pow_left (by decide) (by omega)
 omega
end
section
variable {N:Nat}
theorem ms {c:Nat} (hc:c≤9007199254740992) {d:Nat} (hd:d≤3):∀ j,j<d→((c:Int)) ^ (j+1)<10 ^ 60:=fun j hj=>by
 have h1:c ^ (j+1)≤9007199254740992 ^ 3:=by
  rcases Nat.eq_zero_or_pos c with h0 | h0
  ·rw [h0,Nat.zero_pow (by omega)];exact Nat.zero_le _
  ·exact Nat.le_trans (Nat.pow_le_pow_right h0 (by omega)) (Nat.pow_le_pow_left hc 3)
 rw [← Int.natCast_pow]
 exact Int.lt_of_le_of_lt (Int.ofNat_le.2 h1) (by decide)
end
section
variable {N:Nat}
theorem rP (hN:1073741824≤N) {n:Nat} {atoms:List aX} (n5:n≤5) (a1:1≤atoms.length) (a4:atoms.length≤4) {s:Nat→Nat} (hs:∀ i,i<atoms.length→s i≤16) {x:aW} (hx:fD N n atoms x) :
  1≤(PVx N atoms.length s x).2∧(PVx N atoms.length s x).1<100001 ^ (PVx N atoms.length s x).2∧∀ c:Nat,c≤9007199254740992→ck N ((List.range' 0 atoms.length).map fun i:Nat=>(s i:Int)) x (c:Int)=some (decide (c ^ (PVx N atoms.length s x).2≤(PVx N atoms.length s x).1)):=by
 obtain ⟨d,k,d1,d3,hk,ed,_⟩:=kM hN n5 a1 a4 hx
 have hkd:=s9 hN n5 a1 a4 hx ed
 have v1:=t9 (s:=s) ed
 rw [v1]
 refine ⟨d1,qD a4 d1 hs hkd,fun c hc=>?_⟩
 dsimp only
 obtain ⟨r,er,hr,cr,lr,_⟩:=sO hN a4 hs hk
 obtain ⟨y,ey,hy,cy,ly⟩:=mL hN (n:=(c:Int)) (by omega) (by omega) (d:=d) (by omega) (ms hc d3)
 obtain ⟨q,eq,hq⟩:=vi hN cy cr ly lr
 unfold ck
 rw [ed,bs]
 dsimp only
 rw [er,bs,ey,bs]
 dsimp only
 rw [decide_eq_true (by omega),cond_true,cond_true,cond_true,eq,bs]
 have:(q≤0)↔(c ^ d≤prN ((List.range' 0 atoms.length).map fun i=>s i ^ k i)):=by
  rw [hq,hy,hr,← Int.natCast_pow]
  exact Int.ofNat_le
 congr 1
 exact decide_eq_decide.2 this
end
section
variable {N:Nat}
theorem uz {α:Type} (N:Nat) (x:Int) (k:Int→Option α):(iy N x).bind k=(sb 0 x).bind fun y=>k (imx x y):=by
 unfold iy
 cases sb 0 x <;> rfl
theorem ni (N:Nat) (x a b:Int):cx N x a b=cH N x a b:=by
 rw [eH];unfold cx inR
 by_cases h:a≤x
 ·rw [decide_eq_true h,cond_true,Bool.true_and]
 ·rw [decide_eq_false h,cond_false,Bool.false_and]
theorem nH (N:Nat) (n d:Int):eY N n d=bD N n d:=by
 unfold eY bD
 have e:sb 0 4000000000000000000=some (-4000000000000000000):=by decide
 simp only [e,Option.bind_some,ni,kD,nz,uz]
theorem se (N:Nat) (a b c d:Int):eK N a b c d=(ay N a b).bind fun r=>bif r then ay N c d else some false:=by
 unfold eK
 simp only [kD]
 cases bf N a b with
 | none=>rfl
 | some r =>
  cases r
  ·rfl
  ·simp only [Option.bind_some,cond_true]
   cases bf N c d <;> rfl
theorem kO {α:Type} (N:Nat) (a b c d:Int) {x y:Option α}:(eK N a b c d).bind (fun r=>bif r then x else y)=(ay N a b).bind fun r=>bif r then (ay N c d).bind fun r=>bif r then x else y else y:=by
 rw [se]
 cases ay N a b with
 | none=>rfl
 | some r=>cases r <;> rfl
theorem p4 (N:Nat) (a b c d:Int):fH N a b c d=bI N a b c d:=by
 unfold fH bI
 rw [kO];simp only [nH]
theorem qu (N:Nat) (a b c d:Int):fE N a b c d=bJ N a b c d:=by
 unfold fE bJ
 rw [kO];simp only [nH]
theorem uG (N:Nat) (a b c d:Int):fb N a b c d=cn N a b c d:=by
 unfold fb cn
 rw [kO]
 simp only [ii,Option.bind_some,mc]
 have e:∀ x y:Int,(some (if x<y then (-1:Int) else if y<x then 1 else 0))=(bif decide (x<y) then some (-1) else bif decide (y<x) then some 1 else some 0):=by
  intro x y
  by_cases h1:x<y
  ·rw [if_pos h1,decide_eq_true h1,cond_true]
  ·rw [if_neg h1,decide_eq_false h1,cond_false]
   by_cases h2:y<x
   ·rw [if_pos h2,decide_eq_true h2,cond_true]
   ·rw [if_neg h2,decide_eq_false h2,cond_false]
 simp only [e]
theorem uF (N:Nat) (n:Int):bD N n 0=some ((0,0),false):=by
 unfold bD;rfl
theorem qY (hN:1073741824≤N) (a b c d:Int):fL N a b c d=dk N a b c d:=by
 unfold fL dk
 rw [kO];simp only [nH]
 rcases gR hN (a,b) with h | h
 ·rcases gR hN (c,d) with h2 | h2
  ·by_cases hc:c=0
   ·subst hc
    have e1:=(fu hN).1 h
    have e2:=(fu hN).1 h2
    have hm:=ig (a:=a) (b:=d) e1.2.2.1 e1.2.2.2.1 (by have:=e2.1;simp only at this;omega) e2.2.1
    have m1:ml a d=some (a*d):=eN (by omega) (by omega)
    have m2:ml b 0=some (b*0):=eN (by omega) (by omega)
    have h:ay N a b=some true:=h
    have h2:ay N 0 d=some true:=h2
    rw [h,h2,m1,m2]
    simp only [Option.bind_some,cond_true,Int.mul_zero,uF]
    rfl
   ·have e:(c == 0)=false:=by simpa using hc
    simp only [e,cond_false]
  ·have h2:ay N c d=some false:=h2
   rw [h2];rfl
 ·have h:ay N a b=some false:=h
  rw [h];rfl
def Rs (N:Nat) (r:cL) (ok:Bool):Prop:=ok=true∧VR N r∨ok=false∧r=(0,0)
theorem xT {N:Nat} {n d:Int} {r:cL} {ok:Bool} (h:bD N n d=some (r,ok)):Rs N r ok:=by
 unfold bD at h
 have fin:∀ {x y:Int} {q:Bool},ay N x y=some q→(bif q then some ((x,y),true) else some ((0,0),false))=some (r,ok)→Rs N r ok:=by
  intro x y q hq h
  cases q
  ·cases h;exact .inr ⟨rfl,rfl⟩
  ·cases h;exact .inl ⟨rfl,hq⟩
 have no:some (((0:Int),(0:Int)),false)=some (r,ok)→Rs N r ok:=by
  intro h;cases h;exact .inr ⟨rfl,rfl⟩
 rcases oif h with ⟨_,h⟩ | ⟨_,h⟩
 ·exact no h
 obtain ⟨_,_,h⟩:=ob h
 obtain ⟨_,_,h⟩:=ob h
 rcases oif h with ⟨_,h⟩ | ⟨_,h⟩
 rotate_left
 ·exact no h
 obtain ⟨_,_,h⟩:=ob h
 obtain ⟨_,_,h⟩:=ob h
 rcases oif h with ⟨_,h⟩ | ⟨_,h⟩
 rotate_left
 ·exact no h
 rcases oif h with ⟨_,h⟩ | ⟨_,h⟩
 ·obtain ⟨_,_,h⟩:=ob h
  obtain ⟨_,_,h⟩:=ob h
  obtain ⟨_,_,h⟩:=ob h
  obtain ⟨_,_,h⟩:=ob h
  obtain ⟨_,_,h⟩:=ob h
  obtain ⟨_,_,h⟩:=ob h
  obtain ⟨_,hq,h⟩:=ob h
  exact fin hq h
 ·obtain ⟨_,_,h⟩:=ob h
  obtain ⟨_,_,h⟩:=ob h
  obtain ⟨_,_,h⟩:=ob h
  obtain ⟨_,_,h⟩:=ob h
  obtain ⟨_,hq,h⟩:=ob h
  exact fin hq h
theorem tD {N:Nat} {a b c d:Int} {r:cL × Bool} (h:bJ N a b c d=some r):Rs N r.1 r.2:=by
 unfold bJ at h
 have no:some (((0:Int),(0:Int)),false)=some r→Rs N r.1 r.2:=by
  intro h;cases h;exact .inr ⟨rfl,rfl⟩
 obtain ⟨_,_,h⟩:=ob h
 rcases oif h with ⟨_,h⟩ | ⟨_,h⟩
 rotate_left
 ·exact no h
 obtain ⟨_,_,h⟩:=ob h
 rcases oif h with ⟨_,h⟩ | ⟨_,h⟩
 rotate_left
 ·exact no h
 obtain ⟨_,_,h⟩:=ob h
 obtain ⟨_,_,h⟩:=ob h
 obtain ⟨⟨r1,r2⟩,hq,h⟩:=ob h
 cases h
 exact xT hq
theorem nq (hN:1073741824≤N):ay N 0 0=some false:=by
 rcases gR hN (0,0) with h | h
 ·exact absurd ((fu hN).1 h).1 (by decide)
 ·exact h
theorem um (hN:1073741824≤N) (a b:Int) {r:cL} {ok:Bool} (hr:Rs N r ok):gx N a b r.1 r.2=dG N a b r.1 r.2:=by
 unfold gx dG
 simp only [p4]
 rcases hr with ⟨_,h⟩ | ⟨_,rfl⟩
 ·have h':ay N r.1 r.2=some true:=h
  rw [h'];rfl
 ·have e0:sb 0 0=some 0:=by decide
  simp only [e0,nq hN,Option.bind_some,cond_false]
  unfold bI
  rw [nq hN]
  rcases gR hN (a,b) with h | h
  ·have h:ay N a b=some true:=h
   rw [h];rfl
  ·have h:ay N a b=some false:=h
   rw [h];rfl
end
theorem ixI {α:Type} {xs:List α} {i:Int} {x:α} (h:ix xs i=some x):0≤i∧i<xs.length:=by
 obtain ⟨k,rfl,hk,_⟩:=eS h
 omega
theorem oW {α:Type} {xs ys:List α} {i:Int} {y:α} (h:sto xs i y=some ys):0≤i∧i<xs.length∧ys=xs.set i.toNat y:=by
 unfold sto at h
 split at h
 ·rename_i h0;exact ⟨by omega,by omega,(Option.some.inj h).symm⟩
 ·cases h
theorem oU {α:Type} {xs:List α} {i:Int} {y:α} (h0:0≤i) (h1:i<xs.length):sto xs i y=some (xs.set i.toNat y):=by
 obtain ⟨k,rfl⟩:=Int.eq_ofNat_of_zero_le h0
 rw [kF (by omega)];simp
theorem qk {α:Type} {xs ys:List α} {i:Int} {y:α} (h:sto xs i y=some ys):ix ys i=some y:=by
 obtain ⟨h0,h1,rfl⟩:=oW h
 obtain ⟨k,rfl⟩:=Int.eq_ofNat_of_zero_le h0
 rw [aV (by simp;omega)];simp
theorem t7 {α:Type} {xs ys:List α} {i j:Int} {y:α} (h:sto xs i y=some ys) (hn:j≠i):ix ys j=ix xs j:=by
 obtain ⟨h0,h1,rfl⟩:=oW h
 obtain ⟨k,rfl⟩:=Int.eq_ofNat_of_zero_le h0
 unfold ix
 split
 ·rename_i hj
  obtain ⟨l,rfl⟩:=Int.eq_ofNat_of_zero_le hj
  simp only [Int.toNat_natCast]
  rw [List.getElem?_set_ne (by omega)]
 ·rfl
theorem oT {α:Type} {xs ys:List α} {i:Int} {y:α} (h:sto xs i y=some ys):ys.length=xs.length:=by
 obtain ⟨_,_,rfl⟩:=oW h;simp
theorem ug {α:Type} {xs:List α} {i:Int} {y:α} (h:ix xs i=some y):sto xs i y=some xs:=by
 obtain ⟨k,rfl,hk,rfl⟩:=eS h
 rw [kF hk];simp
theorem wE {α:Type} {xs ys:List α} {i:Int} {y z:α} (h:sto xs i y=some ys):sto ys i z=sto xs i z:=by
 obtain ⟨h0,h1,rfl⟩:=oW h
 rw [oU h0 h1,oU h0 (by simpa using h1),List.set_set]
theorem pY {α:Type} {k:Nat} {xs ys zs:List α} (h:apd k xs ys=some zs):zs=xs++ys:=by
 unfold apd at h
 split at h
 ·exact (Option.some.inj h).symm
 ·cases h
section
variable {N:Nat}
theorem vO (hN:1073741824≤N) {p i:Int} (hpi:p≠i) {f1 f2:Int} {P:aW}:∀ (fuel:Nat) (m:ba) (R:aW) (c:Int) (s:ba × Bool × Int),ix m i=some R→ix m p=some P→bT N fuel m p i f1 f2 true c=some s →
  (s.2.1=true∧∃ R',fA N fuel R P f1 f2 c=some (.inr (R',s.2.2))∧sto m i R'=some s.1)∨(s.2.1=false∧∃ R',fA N fuel R P f1 f2 c=some (.inl (false,R'))):=by
 intro fuel
 induction fuel with
 | zero=>intro m R c s _ _ h;cases h
 | succ fuel ih =>
  intro m R c s hi hp h
  rw [bT,hi,bs] at h
  rw [fA]
  rcases oif h with ⟨hc,h⟩ | ⟨hc,h⟩
  ·rw [hc,cond_true]
   rw [cond_true,hp,bs] at h
   obtain ⟨a,ha,h⟩:=ob h
   rw [ha,bs,qu]
   obtain ⟨t,ht,h⟩:=ob h
   rw [ht,bs]
   rw [bs] at h
   obtain ⟨b,hb,h⟩:=ob h
   rw [hb,bs,um hN _ _ (tD ht)]
   obtain ⟨v,hv,h⟩:=ob h
   rw [hv,bs]
   rcases oif h with ⟨h1,h⟩ | ⟨h1,h⟩
   ·rw [h1,cond_true]
    rw [bs,hb,bs] at h
    obtain ⟨R1,hR1,h⟩:=ob h
    obtain ⟨m1,hm1,h⟩:=ob h
    obtain ⟨c1,hc1,h⟩:=ob h
    cases h2:v.2 with
    | true =>
     rw [h2] at h
     rw [cond_true,hR1,bs,hc1,bs]
     rcases ih m1 R1 c1 s (qk hm1) (by rw [t7 hm1 hpi];exact hp) h with ⟨g1,R',g2,g3⟩ | ⟨g1,R',g2⟩
     ·exact .inl ⟨g1,R',g2,by rw [← wE hm1];exact g3⟩
     ·exact .inr ⟨g1,R',g2⟩
    | false =>
     rw [h2] at h
     rw [cond_false]
     refine .inr ⟨?_,_,rfl⟩
     cases fuel with
     | zero=>cases h
     | succ fuel =>
      rw [bT,qk hm1,bs] at h
      rcases oif h with ⟨_,h⟩ | ⟨_,h⟩
      ·rw [cond_false] at h;cases h;rfl
      ·cases h;rfl
   ·rw [h1,cond_false]
    refine .inr ⟨?_,_,rfl⟩
    rw [bs] at h
    obtain ⟨_,_,h⟩:=ob h
    obtain ⟨R1,hR1,h⟩:=ob h
    obtain ⟨m1,hm1,h⟩:=ob h
    obtain ⟨c1,hc1,h⟩:=ob h
    cases fuel with
    | zero=>cases h
    | succ fuel =>
     rw [bT,qk hm1,bs] at h
     rcases oif h with ⟨_,h⟩ | ⟨_,h⟩
     ·rw [cond_false] at h;cases h;rfl
     ·cases h;rfl
  ·rw [hc,cond_false]
   cases h
   exact .inl ⟨rfl,R,rfl,ug hi⟩
theorem uK (hN:1073741824≤N) {p n:Int}:∀ (fuel:Nat) (m:ba) (i:Int) (s:Sum (Bool × ba) (ba × Int)),(m.length:Int)=n→bZ N fuel m p i=some s →
  (∃ m' z,s=.inr (m',z)∧(m'.length:Int)=n∧bW N fuel n m p i=some (.inr (m',z)))∨(∃ m',s=.inl (false,m')∧bW N fuel n m p i=some (.inl ([],false))):=by
 intro fuel
 induction fuel with
 | zero=>intro m i s _ h;cases h
 | succ fuel ih =>
  intro m i s hl h
  rw [bZ,hl] at h
  rw [bW]
  rcases oif h with ⟨hc,h⟩ | ⟨hc,h⟩
  ·rw [hc,cond_true]
   rcases oif h with ⟨he,h⟩ | ⟨he,h⟩
   ·have e:i=p:=by simpa using he
    have e2:(i != p)=false:=by simpa using e
    rw [e2,cond_false]
    obtain ⟨i1,hi1,h⟩:=ob h
    rw [hi1,bs]
    exact ih m i1 s hl h
   ·have e:i≠p:=by simpa using he
    have e2:(i != p)=true:=by simpa using e
    rw [e2,cond_true]
    obtain ⟨R,hR,h⟩:=ob h
    rw [hR,bs]
    obtain ⟨a,ha,h⟩:=ob h
    rw [ha,bs]
    rcases oif h with ⟨hz,h⟩ | ⟨hz,h⟩
    ·have e3:(a.1 != 0)=false:=by simpa using hz
     rw [e3,cond_false]
     obtain ⟨i1,hi1,h⟩:=ob h
     rw [hi1,bs]
     exact ih m i1 s hl h
    ·have e3:(a.1 != 0)=true:=by simpa using hz
     rw [e3,cond_true]
     rw [hR,bs,ha,bs] at h
     rw [bs]
     obtain ⟨P,hP,h⟩:=ob h
     rw [hP,bs]
     unfold jc
     rw [ha,bs]
     obtain ⟨b,hb,h⟩:=ob h
     rw [hb,bs,qY hN]
     obtain ⟨f,hf,h⟩:=ob h
     rw [hf,bs]
     obtain ⟨r,hr,h⟩:=ob h
     cases h0:f.2 with
     | true =>
      rw [h0] at hr
      rw [cond_true]
      rcases vO hN (Ne.symm e) N m R p r hR hP hr with ⟨g1,R',g2,g3⟩ | ⟨g1,R',g2⟩
      ·rw [g2,bs]
       simp only [lpS,bs]
       rw [g3,bs,cond_true]
       rw [lpB] at h
       simp only [g1,cond_true] at h
       obtain ⟨i1,hi1,h⟩:=ob h
       rw [hi1,bs]
       exact ih r.1 i1 s (by rw [oT g3];exact hl) h
      ·rw [g2,bs]
       simp only [lpS,bs]
       obtain ⟨q0,q1⟩:=ixI hR
       rw [oU q0 q1,bs,cond_false]
       rw [lpB] at h
       simp only [g1,cond_false] at h
       cases h
       exact .inr ⟨_,rfl,rfl⟩
     | false =>
      rw [h0] at hr
      rw [cond_false,bs]
      have g1:r.2.1=false:=by
       cases hN':N with
       | zero=>omega
       | succ K =>
        rw [hN'] at hr
        rw [bT,hR,bs] at hr
        rcases oif hr with ⟨_,hr⟩ | ⟨_,hr⟩
        ·rw [cond_false] at hr;cases hr;rfl
        ·cases hr;rfl
      rw [lpB] at h
      simp only [g1,cond_false] at h
      cases h
      obtain ⟨q0,q1⟩:=ixI hR
      refine .inr ⟨_,rfl,?_⟩
      simp only [oU q0 q1,bs,cond_false]
  ·rw [hc,cond_false]
   cases h
   exact .inl ⟨m,_,rfl,hl,rfl⟩
theorem tB (N:Nat):∀ (fuel:Nat) (n p k:Int) (m:ba),eD N fuel n m p k=bv N fuel n m p k:=by
 intro fuel
 induction fuel with
 | zero=>intros;rfl
 | succ fuel ih=>intro n p k m;rw [eD,bv];simp only [ih]
theorem tK {m m1 m2:ba} {p q:Int} {a b:aW} (ha:ix m p=some a) (hb:ix m q=some b) (h1:sto m q a=some m1) (h2:sto m1 p b=some m2):∃ m3,sto m p b=some m3∧sto m3 q a=some m2:=by
 obtain ⟨q0,q1,rfl⟩:=oW h1
 obtain ⟨p0,p1,rfl⟩:=oW h2
 have p2:p<m.length:=by simpa using p1
 refine ⟨_,oU p0 p2,?_⟩
 rw [oU q0 (by simpa using q1)]
 obtain ⟨k,rfl⟩:=Int.eq_ofNat_of_zero_le p0
 obtain ⟨l,rfl⟩:=Int.eq_ofNat_of_zero_le q0
 by_cases e:k=l
 ·subst e
  obtain rfl:a=b:=by rw [ha] at hb;exact Option.some.inj hb
  rfl
 ·simp only [Int.toNat_natCast]
  rw [List.set_comm _ _ e]
theorem uN (hN:1073741824≤N) {n:Int}:∀ (fuel:Nat) (m:ba) (p:Int) (s:Sum (aW × Bool) (ba × Int)),(m.length:Int)=n→bq N fuel n m p=some s →
  eu N fuel n m p=some s:=by
 intro fuel
 induction fuel with
 | zero=>intro m p s _ h;cases h
 | succ fuel ih =>
  intro m p s hl h
  rw [bq] at h
  rw [eu]
  rcases oif h with ⟨hc,h⟩ | ⟨hc,h⟩
  ·rw [hc,cond_true,tB]
   obtain ⟨q,hq,h⟩:=ob h
   rw [hq,bs]
   simp only [lpB] at h ⊢
   rcases oif h with ⟨he,h⟩ | ⟨he,h⟩
   ·rw [he,cond_true];exact h
   ·rw [he,cond_false]
    obtain ⟨b,hb,h⟩:=ob h
    obtain ⟨a,ha,h⟩:=ob h
    rw [hb,bs] at h
    obtain ⟨m1,h1,h⟩:=ob h
    obtain ⟨m2,h2,h⟩:=ob h
    obtain ⟨m3,h3,h4⟩:=tK ha hb h1 h2
    rw [hb,bs,ha,bs,bs,h3,bs,h4,bs]
    obtain ⟨r,hr,h⟩:=ob h
    unfold fq at hr
    obtain ⟨r1,hr1,hr⟩:=ob hr
    have hl2:(m2.length:Int)=n:=by rw [oT h2,oT h1];exact hl
    rcases uK hN N m2 0 r1 hl2 hr1 with ⟨m',z,rfl,hl',g⟩ | ⟨m',rfl,g⟩
    ·rw [g,bs]
     simp only [lpS] at hr ⊢
     cases hr
     simp only [cond_true] at h
     obtain ⟨p1,hp1,h⟩:=ob h
     rw [hp1,bs]
     exact ih m' p1 s hl' h
    ·rw [g,bs]
     simp only [lpS] at hr ⊢
     cases hr
     simp only [cond_false] at h
     exact h
  ·rw [hc,cond_false];exact h
theorem wb (hN:1073741824≤N) {n:Int} {m:ba}:∀ (fuel:Nat) (o:aW) (p:Int),eh N fuel n m o p=bp N fuel n m o p:=by
 intro fuel
 induction fuel with
 | zero=>intros;rfl
 | succ fuel ih=>intro o p;rw [eh,bp];simp only [ih,qY hN]
theorem qn {xs:aW} (h:xs.length≤1048576):e8 N xs=some xs:=by
 unfold e8
 rw [bz (by decide) (by simpa using Nat.le_trans h (by decide)),bs,List.nil_append]
theorem vM (hN:1073741824≤N) {n:Int} {A:ba} {b:aW} (hA:∀ i R,ix A i=some R→(R.length:Int)=n∧R.length≤1000∧dY N R=some true) (hb:∀ i r,ix b i=some r→VR N r) (hl:(A.length:Int)=n):∀ (fuel:Nat) (m:ba) (i:Int) (s:Sum (aW × Bool) (ba × Int)),(m.length:Int)=i→i≤n→bo N fuel A b n m i=some s →
  eC N fuel b n m A n i=some s∧∀ r,s=.inr r→(r.1.length:Int)=n:=by
 intro fuel
 induction fuel with
 | zero=>intro m i s _ _ h;cases h
 | succ fuel ih =>
  intro m i s hm hi h
  rw [bo] at h
  rw [eC]
  rcases oif h with ⟨hc,h⟩ | ⟨hc,h⟩
  ·rw [hc,cond_true]
   obtain ⟨r,hr,h⟩:=ob h
   have hv:ay N r.1 r.2=some true:=hb _ _ hr
   rw [hv,bs,cond_true] at h
   obtain ⟨R,hR,h⟩:=ob h
   obtain ⟨g1,g2,g3⟩:=hA _ _ hR
   have e:((R.length:Int) != n)=false:=by simpa using g1
   rw [hR,bs,e,cond_false,g3,bs,cond_true,hr,bs,qn (by omega),bs]
   rw [hr,bs,bz (by decide) (by simp;omega),bs,List.nil_append] at h
   obtain ⟨R1,h1,h⟩:=ob h
   rw [h1,bs]
   obtain ⟨m1,h2,h⟩:=ob h
   rw [h2,bs]
   obtain ⟨i1,h3,h⟩:=ob h
   rw [h3,bs]
   have e1:=pY h2
   have e2:=rr h3
   have e3:=of_decide_eq_true hc
   exact ih m1 i1 s (by rw [e1,List.length_append,List.length_singleton];omega) (by omega) h
  ·rw [hc,cond_false]
   have e3:=of_decide_eq_false hc
   refine ⟨h,fun r e=>?_⟩
   cases h;cases e
   show (m.length:Int)=n
   omega
theorem wn (N:Nat) {xs:aW} (hl:xs.length≤1000) (hv:∀ i r,ix xs i=some r→VR N r):∀ (c i fuel:Nat),i+c=xs.length→c<fuel→fG N fuel xs (xs.length:Int) (i:Int)=some (.inr (xs.length:Int)):=by
 intro c
 induction c with
 | zero =>
  intro i fuel hi hf
  obtain ⟨fuel,rfl⟩:∃ k',fuel=k'+1:=⟨fuel-1,by omega⟩
  rw [fG,decide_eq_false (by omega),cond_false,show (i:Int)=(xs.length:Int) by omega]
 | succ c ih =>
  intro i fuel hi hf
  obtain ⟨fuel,rfl⟩:∃ k',fuel=k'+1:=⟨fuel-1,by omega⟩
  have e:=ga (r:=xs) (j:=i) (by omega)
  have h:ay N (ax xs i).1 (ax xs i).2=some true:=hv _ _ e
  rw [kD] at h
  rw [fG,decide_eq_true (by omega),cond_true,e,bs,h,bs,cond_true,bE (by omega) (by omega),bs]
  exact ih (i+1) fuel (by omega) (by omega)
theorem o4 (hN:1073741824≤N) {xs:aW} (hl:xs.length≤1000) (hv:∀ i r,ix xs i=some r→VR N r):dY N xs=some true:=by
 unfold dY
 have:=wn N hl hv xs.length 0 N (by omega) (by omega)
 rw [show ((0:Nat):Int)=0 from rfl] at this
 rw [this,bs];rfl
theorem tC (hN:1073741824≤N) {A:ba} {b:aW} (h6:b.length≤6) (hl:A.length=b.length) (hA:∀ i R,ix A i=some R→R.length=b.length∧∀ j r,ix R j=some r→VR N r) (hb:∀ i r,ix b i=some r→VR N r) {s:aW × Bool} (h:bm N A b=some s):eW N A b=some s:=by
 unfold bm at h
 unfold eW
 rw [decide_eq_false (by omega),cond_false] at h ⊢
 have e:((A.length:Int) != (b.length:Int))=false:=by simp [hl]
 rw [e,cond_false,o4 hN (by omega) hb,bs,cond_true]
 obtain ⟨q,hq,h⟩:=ob h
 obtain ⟨q',hq',hqq⟩:=oC hN (A:=A) (by omega) (c:=b.length) (by omega) b.length
 obtain rfl:q=q':=by rw [hq] at hq';exact Option.some.inj hq'
 have hqt:q=true:=hqq.2 ⟨fun i hi=>by
  have e1:=hA _ _ (ixM hi)
  exact ⟨e1.1,fun j hj=>by have:=e1.2 _ _ (ga (r:=aZ A i) (j:=j) (by omega));exact this⟩,hl⟩
 rw [hqt,cond_true] at h
 obtain ⟨s1,h1,h⟩:=ob h
 have g1:=vM hN (n:=(b.length:Int)) (A:=A) (b:=b) (fun i R hR=>by
  obtain ⟨e1,e2⟩:=hA i R hR
  exact ⟨by omega,by omega,o4 hN (by omega) e2⟩) hb (by omega) N [] 0 s1 rfl (by omega) h1
 rw [hl,g1.1,bs]
 cases s1 with
 | inl r=>exact h
 | inr r =>
  simp only [lpS] at h ⊢
  obtain ⟨s2,h2,h⟩:=ob h
  have hml:(r.1.length:Int)=(b.length:Int):=g1.2 r rfl
  rw [uN hN N r.1 0 s2 hml h2,bs]
  cases s2 with
  | inl r=>exact h
  | inr r =>
   simp only [lpS] at h ⊢
   rw [wb hN]
   exact h
end
def Le {α:Type} (a b:Option α):Prop:=∀ r,a=some r→b=some r
theorem Le.refl {α:Type} (a:Option α):Le a a:=fun _ h=>h
theorem Le.bind {α β:Type} {a b:Option α} {f g:α→Option β} (h:Le a b) (hf:∀ x,Le (f x) (g x)):Le (a.bind f) (b.bind g):=fun r hr=>by
 obtain ⟨x,hx,hr⟩:=ob hr
 rw [h x hx]
 exact hf x r hr
theorem Le.cond {α:Type} {c:Bool} {a b x y:Option α} (h:Le a x) (h2:Le b y):Le (bif c then a else b) (bif c then x else y):=by cases c <;> assumption
theorem Le.lpS {R V S:Type} {s:Sum R V} {f f2:R→Option S} {g g2:V→Option S} (h:∀ q,Le (f q) (f2 q)) (h2:∀ v,Le (g v) (g2 v)):Le (lpS s f g) (lpS s f2 g2):=by
 cases s
 ·exact h _
 ·exact h2 _
theorem Le.lpB {V S:Type} {s:V} {g g2:V→Option S} (h2:∀ v,Le (g v) (g2 v)):Le (lpB s g) (lpB s g2):=h2 s
section
variable {N N':Nat}
theorem kG (hN:N≤N') (a0:Int) (a1:Int) (a2:Int):Le (cx N a0 a1 a2) (cx N' a0 a1 a2):=by
  unfold cx
  repeat' first
    | with_reducible exact Le.refl _
    | refine Le.bind ?_ fun _=>?_
    | refine Le.cond ?_ ?_
    | refine Le.lpS (fun _=>?_) (fun v=>?_)
    | refine Le.lpB (fun v=>?_)
theorem nF (hN:N≤N'):∀ k k',k≤k'→∀ x0 x1,Le (cT N k x0 x1) (cT N' k' x0 x1):=by
  intro k
  induction k with
  | zero=>intro k' _ x0 x1 r h;cases h
  | succ k ih =>
    intro k' hk x0 x1
    obtain ⟨k',rfl⟩:∃ j,k'=j+1:=⟨k' - 1,by omega⟩
    rw [cT,cT]
    repeat' first
      | with_reducible exact Le.refl _
      | exact ih _ (Nat.le_of_succ_le_succ hk) _ _
      | refine Le.bind ?_ fun _=>?_
      | refine Le.cond ?_ ?_
      | refine Le.lpS (fun _=>?_) (fun v=>?_)
      | refine Le.lpB (fun v=>?_)
theorem mg (hN:N≤N') (a0:Int) (a1:Int):Le (dW N a0 a1) (dW N' a0 a1):=by
  unfold dW
  repeat' first
    | with_reducible exact Le.refl _
    | exact nF hN _ _ hN _ _
    | refine Le.bind ?_ fun _=>?_
    | refine Le.cond ?_ ?_
    | refine Le.lpS (fun _=>?_) (fun v=>?_)
    | refine Le.lpB (fun v=>?_)
theorem cp (hN:N≤N') (a0:Int) (a1:Int):Le (ay N a0 a1) (ay N' a0 a1):=by
  unfold ay
  repeat' first
    | with_reducible exact Le.refl _
    | exact kG hN _ _ _
    | exact mg hN _ _
    | refine Le.bind ?_ fun _=>?_
    | refine Le.cond ?_ ?_
    | refine Le.lpS (fun _=>?_) (fun v=>?_)
    | refine Le.lpB (fun v=>?_)
theorem iK (hN:N≤N') (a0:Int) (a1:Int):Le (bD N a0 a1) (bD N' a0 a1):=by
  unfold bD
  repeat' first
    | with_reducible exact Le.refl _
    | exact kG hN _ _ _
    | exact mg hN _ _
    | exact cp hN _ _
    | refine Le.bind ?_ fun _=>?_
    | refine Le.cond ?_ ?_
    | refine Le.lpS (fun _=>?_) (fun v=>?_)
    | refine Le.lpB (fun v=>?_)
theorem jJ (hN:N≤N') (a0:Int) (a1:Int) (a2:Int) (a3:Int):Le (bI N a0 a1 a2 a3) (bI N' a0 a1 a2 a3):=by
  unfold bI
  repeat' first
    | with_reducible exact Le.refl _
    | exact cp hN _ _
    | exact iK hN _ _
    | refine Le.bind ?_ fun _=>?_
    | refine Le.cond ?_ ?_
    | refine Le.lpS (fun _=>?_) (fun v=>?_)
    | refine Le.lpB (fun v=>?_)
theorem mj (hN:N≤N') (a0:Int) (a1:Int) (a2:Int) (a3:Int):Le (dG N a0 a1 a2 a3) (dG N' a0 a1 a2 a3):=by
  unfold dG
  repeat' first
    | with_reducible exact Le.refl _
    | exact cp hN _ _
    | exact jJ hN _ _ _ _
    | refine Le.bind ?_ fun _=>?_
    | refine Le.cond ?_ ?_
    | refine Le.lpS (fun _=>?_) (fun v=>?_)
    | refine Le.lpB (fun v=>?_)
theorem jH (hN:N≤N') (a0:Int) (a1:Int) (a2:Int) (a3:Int):Le (bJ N a0 a1 a2 a3) (bJ N' a0 a1 a2 a3):=by
  unfold bJ
  repeat' first
    | with_reducible exact Le.refl _
    | exact cp hN _ _
    | exact iK hN _ _
    | refine Le.bind ?_ fun _=>?_
    | refine Le.cond ?_ ?_
    | refine Le.lpS (fun _=>?_) (fun v=>?_)
    | refine Le.lpB (fun v=>?_)
theorem jI (hN:N≤N') (a0:Int) (a1:Int) (a2:Int) (a3:Int):Le (dk N a0 a1 a2 a3) (dk N' a0 a1 a2 a3):=by
  unfold dk
  repeat' first
    | with_reducible exact Le.refl _
    | exact cp hN _ _
    | exact iK hN _ _
    | refine Le.bind ?_ fun _=>?_
    | refine Le.cond ?_ ?_
    | refine Le.lpS (fun _=>?_) (fun v=>?_)
    | refine Le.lpB (fun v=>?_)
theorem kC (hN:N≤N') (a0:Int) (a1:Int) (a2:Int) (a3:Int):Le (cn N a0 a1 a2 a3) (cn N' a0 a1 a2 a3):=by
  unfold cn
  repeat' first
    | with_reducible exact Le.refl _
    | exact cp hN _ _
    | refine Le.bind ?_ fun _=>?_
    | refine Le.cond ?_ ?_
    | refine Le.lpS (fun _=>?_) (fun v=>?_)
    | refine Le.lpB (fun v=>?_)
theorem li (hN:N≤N'):∀ k k',k≤k'→∀ x0 x1 x2 x3 x4 x5 x6,Le (bw N k x0 x1 x2 x3 x4 x5 x6) (bw N' k' x0 x1 x2 x3 x4 x5 x6):=by
  intro k
  induction k with
  | zero=>intro k' _ x0 x1 x2 x3 x4 x5 x6 r h;cases h
  | succ k ih =>
    intro k' hk x0 x1 x2 x3 x4 x5 x6
    obtain ⟨k',rfl⟩:∃ j,k'=j+1:=⟨k' - 1,by omega⟩
    rw [bw,bw]
    repeat' first
      | with_reducible exact Le.refl _
      | exact jJ hN _ _ _ _
      | exact jH hN _ _ _ _
      | exact ih _ (Nat.le_of_succ_le_succ hk) _ _ _ _ _ _ _
      | refine Le.bind ?_ fun _=>?_
      | refine Le.cond ?_ ?_
      | refine Le.lpS (fun _=>?_) (fun v=>?_)
      | refine Le.lpB (fun v=>?_)
theorem mC (hN:N≤N') (a0:List (Int × Int)) (a1:List (Int × Int)):Le (dj N a0 a1) (dj N' a0 a1):=by
  unfold dj
  repeat' first
    | with_reducible exact Le.refl _
    | exact li hN _ _ hN _ _ _ _ _ _ _
    | refine Le.bind ?_ fun _=>?_
    | refine Le.cond ?_ ?_
    | refine Le.lpS (fun _=>?_) (fun v=>?_)
    | refine Le.lpB (fun v=>?_)
theorem jA (hN:N≤N'):∀ k k',k≤k'→∀ x0 x1 x2 x3,Le (aR N k x0 x1 x2 x3) (aR N' k' x0 x1 x2 x3):=by
  intro k
  induction k with
  | zero=>intro k' _ x0 x1 x2 x3 r h;cases h
  | succ k ih =>
    intro k' hk x0 x1 x2 x3
    obtain ⟨k',rfl⟩:∃ j,k'=j+1:=⟨k' - 1,by omega⟩
    rw [aR,aR]
    repeat' first
      | with_reducible exact Le.refl _
      | exact mC hN _ _
      | exact ih _ (Nat.le_of_succ_le_succ hk) _ _ _ _
      | refine Le.bind ?_ fun _=>?_
      | refine Le.cond ?_ ?_
      | refine Le.lpS (fun _=>?_) (fun v=>?_)
      | refine Le.lpB (fun v=>?_)
theorem j1 (hN:N≤N') (a0:List (List (Int × Int))) (a1:List (Int × Int)):Le (bB N a0 a1) (bB N' a0 a1):=by
  unfold bB
  repeat' first
    | with_reducible exact Le.refl _
    | exact jA hN _ _ hN _ _ _ _
    | refine Le.bind ?_ fun _=>?_
    | refine Le.cond ?_ ?_
    | refine Le.lpS (fun _=>?_) (fun v=>?_)
    | refine Le.lpB (fun v=>?_)
theorem kl (hN:N≤N'):∀ k k',k≤k'→∀ x0 x1 x2,Le (bu N k x0 x1 x2) (bu N' k' x0 x1 x2):=by
  intro k
  induction k with
  | zero=>intro k' _ x0 x1 x2 r h;cases h
  | succ k ih =>
    intro k' hk x0 x1 x2
    obtain ⟨k',rfl⟩:∃ j,k'=j+1:=⟨k' - 1,by omega⟩
    rw [bu,bu]
    repeat' first
      | with_reducible exact Le.refl _
      | exact ih _ (Nat.le_of_succ_le_succ hk) _ _ _
      | refine Le.bind ?_ fun _=>?_
      | refine Le.cond ?_ ?_
      | refine Le.lpS (fun _=>?_) (fun v=>?_)
      | refine Le.lpB (fun v=>?_)
theorem k9 (hN:N≤N') (a0:List (Int × Int)) (a1:List (Int × Int)):Le (cP N a0 a1) (cP N' a0 a1):=by
  unfold cP
  repeat' first
    | with_reducible exact Le.refl _
    | exact kl hN _ _ hN _ _ _
    | refine Le.bind ?_ fun _=>?_
    | refine Le.cond ?_ ?_
    | refine Le.lpS (fun _=>?_) (fun v=>?_)
    | refine Le.lpB (fun v=>?_)
theorem lN (hN:N≤N'):∀ k k',k≤k'→∀ x0 x1 x2 x3 x4,Le (cV N k x0 x1 x2 x3 x4) (cV N' k' x0 x1 x2 x3 x4):=by
  intro k
  induction k with
  | zero=>intro k' _ x0 x1 x2 x3 x4 r h;cases h
  | succ k ih =>
    intro k' hk x0 x1 x2 x3 x4
    obtain ⟨k',rfl⟩:∃ j,k'=j+1:=⟨k' - 1,by omega⟩
    rw [cV,cV]
    repeat' first
      | with_reducible exact Le.refl _
      | exact cp hN _ _
      | exact ih _ (Nat.le_of_succ_le_succ hk) _ _ _ _ _
      | refine Le.bind ?_ fun _=>?_
      | refine Le.cond ?_ ?_
      | refine Le.lpS (fun _=>?_) (fun v=>?_)
      | refine Le.lpB (fun v=>?_)
theorem lS (hN:N≤N'):∀ k k',k≤k'→∀ x0 x1 x2 x3,Le (cY N k x0 x1 x2 x3) (cY N' k' x0 x1 x2 x3):=by
  intro k
  induction k with
  | zero=>intro k' _ x0 x1 x2 x3 r h;cases h
  | succ k ih =>
    intro k' hk x0 x1 x2 x3
    obtain ⟨k',rfl⟩:∃ j,k'=j+1:=⟨k' - 1,by omega⟩
    rw [cY,cY]
    repeat' first
      | with_reducible exact Le.refl _
      | exact lN hN _ _ hN _ _ _ _ _
      | exact ih _ (Nat.le_of_succ_le_succ hk) _ _ _ _
      | refine Le.bind ?_ fun _=>?_
      | refine Le.cond ?_ ?_
      | refine Le.lpS (fun _=>?_) (fun v=>?_)
      | refine Le.lpB (fun v=>?_)
theorem ke (hN:N≤N') (a0:List (List (Int × Int))) (a1:Int) (a2:Int):Le (di N a0 a1 a2) (di N' a0 a1 a2):=by
  unfold di
  repeat' first
    | with_reducible exact Le.refl _
    | exact lS hN _ _ hN _ _ _ _
    | refine Le.bind ?_ fun _=>?_
    | refine Le.cond ?_ ?_
    | refine Le.lpS (fun _=>?_) (fun v=>?_)
    | refine Le.lpB (fun v=>?_)
theorem jP (hN:N≤N') (a0:List (List (Int × Int))) (a1:List (Int × Int)) (a2:List (Int × Int)):Le (bL N a0 a1 a2) (bL N' a0 a1 a2):=by
  unfold bL
  repeat' first
    | with_reducible exact Le.refl _
    | exact kG hN _ _ _
    | exact ke hN _ _ _
    | refine Le.bind ?_ fun _=>?_
    | refine Le.cond ?_ ?_
    | refine Le.lpS (fun _=>?_) (fun v=>?_)
    | refine Le.lpB (fun v=>?_)
theorem mq (hN:N≤N'):∀ k k',k≤k'→∀ x0 x1 x2 x3 x4 x5 x6,Le (bT N k x0 x1 x2 x3 x4 x5 x6) (bT N' k' x0 x1 x2 x3 x4 x5 x6):=by
  intro k
  induction k with
  | zero=>intro k' _ x0 x1 x2 x3 x4 x5 x6 r h;cases h
  | succ k ih =>
    intro k' hk x0 x1 x2 x3 x4 x5 x6
    obtain ⟨k',rfl⟩:∃ j,k'=j+1:=⟨k' - 1,by omega⟩
    rw [bT,bT]
    repeat' first
      | with_reducible exact Le.refl _
      | exact mj hN _ _ _ _
      | exact jH hN _ _ _ _
      | exact ih _ (Nat.le_of_succ_le_succ hk) _ _ _ _ _ _ _
      | refine Le.bind ?_ fun _=>?_
      | refine Le.cond ?_ ?_
      | refine Le.lpS (fun _=>?_) (fun v=>?_)
      | refine Le.lpB (fun v=>?_)
theorem mu (hN:N≤N'):∀ k k',k≤k'→∀ x0 x1 x2,Le (bZ N k x0 x1 x2) (bZ N' k' x0 x1 x2):=by
  intro k
  induction k with
  | zero=>intro k' _ x0 x1 x2 r h;cases h
  | succ k ih =>
    intro k' hk x0 x1 x2
    obtain ⟨k',rfl⟩:∃ j,k'=j+1:=⟨k' - 1,by omega⟩
    rw [bZ,bZ]
    repeat' first
      | with_reducible exact Le.refl _
      | exact jI hN _ _ _ _
      | exact mq hN _ _ hN _ _ _ _ _ _ _
      | exact ih _ (Nat.le_of_succ_le_succ hk) _ _ _
      | refine Le.bind ?_ fun _=>?_
      | refine Le.cond ?_ ?_
      | refine Le.lpS (fun _=>?_) (fun v=>?_)
      | refine Le.lpB (fun v=>?_)
theorem n7 (hN:N≤N') (a0:List (List (Int × Int))) (a1:Int):Le (fq N a0 a1) (fq N' a0 a1):=by
  unfold fq
  repeat' first
    | with_reducible exact Le.refl _
    | exact mu hN _ _ hN _ _ _
    | refine Le.bind ?_ fun _=>?_
    | refine Le.cond ?_ ?_
    | refine Le.lpS (fun _=>?_) (fun v=>?_)
    | refine Le.lpB (fun v=>?_)
theorem jR (hN:N≤N'):∀ k k',k≤k'→∀ x0 x1 x2 x3 x4,Le (bo N k x0 x1 x2 x3 x4) (bo N' k' x0 x1 x2 x3 x4):=by
  intro k
  induction k with
  | zero=>intro k' _ x0 x1 x2 x3 x4 r h;cases h
  | succ k ih =>
    intro k' hk x0 x1 x2 x3 x4
    obtain ⟨k',rfl⟩:∃ j,k'=j+1:=⟨k' - 1,by omega⟩
    rw [bo,bo]
    repeat' first
      | with_reducible exact Le.refl _
      | exact cp hN _ _
      | exact ih _ (Nat.le_of_succ_le_succ hk) _ _ _ _ _
      | refine Le.bind ?_ fun _=>?_
      | refine Le.cond ?_ ?_
      | refine Le.lpS (fun _=>?_) (fun v=>?_)
      | refine Le.lpB (fun v=>?_)
theorem jW (hN:N≤N'):∀ k k',k≤k'→∀ x0 x1 x2 x3,Le (bv N k x0 x1 x2 x3) (bv N' k' x0 x1 x2 x3):=by
  intro k
  induction k with
  | zero=>intro k' _ x0 x1 x2 x3 r h;cases h
  | succ k ih =>
    intro k' hk x0 x1 x2 x3
    obtain ⟨k',rfl⟩:∃ j,k'=j+1:=⟨k' - 1,by omega⟩
    rw [bv,bv]
    repeat' first
      | with_reducible exact Le.refl _
      | exact ih _ (Nat.le_of_succ_le_succ hk) _ _ _ _
      | refine Le.bind ?_ fun _=>?_
      | refine Le.cond ?_ ?_
      | refine Le.lpS (fun _=>?_) (fun v=>?_)
      | refine Le.lpB (fun v=>?_)
theorem jO (hN:N≤N'):∀ k k',k≤k'→∀ x0 x1 x2,Le (bq N k x0 x1 x2) (bq N' k' x0 x1 x2):=by
  intro k
  induction k with
  | zero=>intro k' _ x0 x1 x2 r h;cases h
  | succ k ih =>
    intro k' hk x0 x1 x2
    obtain ⟨k',rfl⟩:∃ j,k'=j+1:=⟨k' - 1,by omega⟩
    rw [bq,bq]
    repeat' first
      | with_reducible exact Le.refl _
      | exact n7 hN _ _
      | exact jW hN _ _ hN _ _ _ _
      | exact ih _ (Nat.le_of_succ_le_succ hk) _ _ _
      | refine Le.bind ?_ fun _=>?_
      | refine Le.cond ?_ ?_
      | refine Le.lpS (fun _=>?_) (fun v=>?_)
      | refine Le.lpB (fun v=>?_)
theorem jT (hN:N≤N'):∀ k k',k≤k'→∀ x0 x1 x2 x3,Le (bp N k x0 x1 x2 x3) (bp N' k' x0 x1 x2 x3):=by
  intro k
  induction k with
  | zero=>intro k' _ x0 x1 x2 x3 r h;cases h
  | succ k ih =>
    intro k' hk x0 x1 x2 x3
    obtain ⟨k',rfl⟩:∃ j,k'=j+1:=⟨k' - 1,by omega⟩
    rw [bp,bp]
    repeat' first
      | with_reducible exact Le.refl _
      | exact jI hN _ _ _ _
      | exact ih _ (Nat.le_of_succ_le_succ hk) _ _ _ _
      | refine Le.bind ?_ fun _=>?_
      | refine Le.cond ?_ ?_
      | refine Le.lpS (fun _=>?_) (fun v=>?_)
      | refine Le.lpB (fun v=>?_)
theorem ko (hN:N≤N') (a0:List (List (Int × Int))) (a1:List (Int × Int)):Le (bm N a0 a1) (bm N' a0 a1):=by
  unfold bm
  repeat' first
    | with_reducible exact Le.refl _
    | exact ke hN _ _ _
    | exact jR hN _ _ hN _ _ _ _ _
    | exact jO hN _ _ hN _ _ _
    | exact jT hN _ _ hN _ _ _ _
    | refine Le.bind ?_ fun _=>?_
    | refine Le.cond ?_ ?_
    | refine Le.lpS (fun _=>?_) (fun v=>?_)
    | refine Le.lpB (fun v=>?_)
theorem mK (hN:N≤N'):∀ k k',k≤k'→∀ x0 x1 x2 x3 x4 x5,Le (cw N k x0 x1 x2 x3 x4 x5) (cw N' k' x0 x1 x2 x3 x4 x5):=by
  intro k
  induction k with
  | zero=>intro k' _ x0 x1 x2 x3 x4 x5 r h;cases h
  | succ k ih =>
    intro k' hk x0 x1 x2 x3 x4 x5
    obtain ⟨k',rfl⟩:∃ j,k'=j+1:=⟨k' - 1,by omega⟩
    rw [cw,cw]
    repeat' first
      | with_reducible exact Le.refl _
      | exact cp hN _ _
      | exact ih _ (Nat.le_of_succ_le_succ hk) _ _ _ _ _ _
      | refine Le.bind ?_ fun _=>?_
      | refine Le.cond ?_ ?_
      | refine Le.lpS (fun _=>?_) (fun v=>?_)
      | refine Le.lpB (fun v=>?_)
theorem mt (hN:N≤N'):∀ k k',k≤k'→∀ x0 x1 x2 x3 x4 x5 x6,Le (bU N k x0 x1 x2 x3 x4 x5 x6) (bU N' k' x0 x1 x2 x3 x4 x5 x6):=by
  intro k
  induction k with
  | zero=>intro k' _ x0 x1 x2 x3 x4 x5 x6 r h;cases h
  | succ k ih =>
    intro k' hk x0 x1 x2 x3 x4 x5 x6
    obtain ⟨k',rfl⟩:∃ j,k'=j+1:=⟨k' - 1,by omega⟩
    rw [bU,bU]
    repeat' first
      | with_reducible exact Le.refl _
      | exact kC hN _ _ _ _
      | exact ih _ (Nat.le_of_succ_le_succ hk) _ _ _ _ _ _ _
      | refine Le.bind ?_ fun _=>?_
      | refine Le.cond ?_ ?_
      | refine Le.lpS (fun _=>?_) (fun v=>?_)
      | refine Le.lpB (fun v=>?_)
theorem nO (hN:N≤N') (a0:List (List (Int × Int))) (a1:List (Int × Int)) (a2:List (Int × Int)) (a3:List (Int × Int)) (a4:Int):Le (dA N a0 a1 a2 a3 a4) (dA N' a0 a1 a2 a3 a4):=by
  unfold dA
  repeat' first
    | with_reducible exact Le.refl _
    | exact j1 hN _ _
    | exact jP hN _ _ _
    | exact mK hN _ _ hN _ _ _ _ _ _
    | exact mt hN _ _ hN _ _ _ _ _ _ _
    | refine Le.bind ?_ fun _=>?_
    | refine Le.cond ?_ ?_
    | refine Le.lpS (fun _=>?_) (fun v=>?_)
    | refine Le.lpB (fun v=>?_)
theorem lV (hN:N≤N'):∀ k k',k≤k'→∀ x0 x1 x2 x3 x4 x5 x6 x7 x8 x9 x10 x11 x12 x13 x14,Le (bR N k x0 x1 x2 x3 x4 x5 x6 x7 x8 x9 x10 x11 x12 x13 x14) (bR N' k' x0 x1 x2 x3 x4 x5 x6 x7 x8 x9 x10 x11 x12 x13 x14):=by
  intro k
  induction k with
  | zero=>intro k' _ x0 x1 x2 x3 x4 x5 x6 x7 x8 x9 x10 x11 x12 x13 x14 r h;cases h
  | succ k ih =>
    intro k' hk x0 x1 x2 x3 x4 x5 x6 x7 x8 x9 x10 x11 x12 x13 x14
    obtain ⟨k',rfl⟩:∃ j,k'=j+1:=⟨k' - 1,by omega⟩
    rw [bR,bR]
    repeat' first
      | with_reducible exact Le.refl _
      | exact ih _ (Nat.le_of_succ_le_succ hk) _ _ _ _ _ _ _ _ _ _ _ _ _ _ _
      | refine Le.bind ?_ fun _=>?_
      | refine Le.cond ?_ ?_
      | refine Le.lpS (fun _=>?_) (fun v=>?_)
      | refine Le.lpB (fun v=>?_)
theorem lR (hN:N≤N'):∀ k k',k≤k'→∀ x0 x1 x2 x3 x4 x5 x6 x7 x8 x9 x10 x11,Le (bN N k x0 x1 x2 x3 x4 x5 x6 x7 x8 x9 x10 x11) (bN N' k' x0 x1 x2 x3 x4 x5 x6 x7 x8 x9 x10 x11):=by
  intro k
  induction k with
  | zero=>intro k' _ x0 x1 x2 x3 x4 x5 x6 x7 x8 x9 x10 x11 r h;cases h
  | succ k ih =>
    intro k' hk x0 x1 x2 x3 x4 x5 x6 x7 x8 x9 x10 x11
    obtain ⟨k',rfl⟩:∃ j,k'=j+1:=⟨k' - 1,by omega⟩
    rw [bN,bN]
    repeat' first
      | with_reducible exact Le.refl _
      | exact lV hN _ _ hN _ _ _ _ _ _ _ _ _ _ _ _ _ _ _
      | exact ih _ (Nat.le_of_succ_le_succ hk) _ _ _ _ _ _ _ _ _ _ _ _
      | refine Le.bind ?_ fun _=>?_
      | refine Le.cond ?_ ?_
      | refine Le.lpS (fun _=>?_) (fun v=>?_)
      | refine Le.lpB (fun v=>?_)
theorem lO (hN:N≤N'):∀ k k',k≤k'→∀ x0 x1 x2 x3 x4 x5 x6 x7 x8 x9 x10 x11,Le (bO N k x0 x1 x2 x3 x4 x5 x6 x7 x8 x9 x10 x11) (bO N' k' x0 x1 x2 x3 x4 x5 x6 x7 x8 x9 x10 x11):=by
  intro k
  induction k with
  | zero=>intro k' _ x0 x1 x2 x3 x4 x5 x6 x7 x8 x9 x10 x11 r h;cases h
  | succ k ih =>
    intro k' hk x0 x1 x2 x3 x4 x5 x6 x7 x8 x9 x10 x11
    obtain ⟨k',rfl⟩:∃ j,k'=j+1:=⟨k' - 1,by omega⟩
    rw [bO,bO]
    repeat' first
      | with_reducible exact Le.refl _
      | exact k9 hN _ _
      | exact ih _ (Nat.le_of_succ_le_succ hk) _ _ _ _ _ _ _ _ _ _ _ _
      | refine Le.bind ?_ fun _=>?_
      | refine Le.cond ?_ ?_
      | refine Le.lpS (fun _=>?_) (fun v=>?_)
      | refine Le.lpB (fun v=>?_)
theorem lH (hN:N≤N'):∀ k k',k≤k'→∀ x0 x1 x2 x3 x4 x5 x6 x7 x8,Le (bl N k x0 x1 x2 x3 x4 x5 x6 x7 x8) (bl N' k' x0 x1 x2 x3 x4 x5 x6 x7 x8):=by
  intro k
  induction k with
  | zero=>intro k' _ x0 x1 x2 x3 x4 x5 x6 x7 x8 r h;cases h
  | succ k ih =>
    intro k' hk x0 x1 x2 x3 x4 x5 x6 x7 x8
    obtain ⟨k',rfl⟩:∃ j,k'=j+1:=⟨k' - 1,by omega⟩
    rw [bl,bl]
    repeat' first
      | with_reducible exact Le.refl _
      | exact ko hN _ _
      | exact nO hN _ _ _ _ _
      | exact lR hN _ _ hN _ _ _ _ _ _ _ _ _ _ _ _
      | exact lO hN _ _ hN _ _ _ _ _ _ _ _ _ _ _ _
      | exact ih _ (Nat.le_of_succ_le_succ hk) _ _ _ _ _ _ _ _ _
      | refine Le.bind ?_ fun _=>?_
      | refine Le.cond ?_ ?_
      | refine Le.lpS (fun _=>?_) (fun v=>?_)
      | refine Le.lpB (fun v=>?_)
end
theorem v8 (a b:Int):ml a b=ml b a:=by unfold ml;rw [Int.mul_comm]
section
variable {N:Nat}
theorem wO (hN:1073741824≤N) (a b:Int):bI N a b 0 0=some ((0,0),false):=by
 unfold bI
 rw [nq hN]
 rcases gR hN (a,b) with h | h
 ·have h:ay N a b=some true:=h
  rw [h];rfl
 ·have h:ay N a b=some false:=h
  rw [h];rfl
theorem s0 (hN:1073741824≤N) {a b:aW} {u v:Int}:∀ (fuel:Nat) (x y i:Int),fR N fuel a b u v x y (a.length:Int) i=bw N fuel a b u v x y i:=by
 intro fuel
 induction fuel with
 | zero=>intros;rfl
 | succ fuel ih =>
  intro x y i
  rw [fR,bw]
  simp only [qu,p4]
  cases decide (i<(a.length:Int)) with
  | false=>rfl
  | true =>
   simp only [cond_true]
   cases ix a i with
   | none=>rfl
   | some p =>
    cases ix b i with
    | none=>rfl
    | some q =>
     simp only [bs]
     cases hm:bJ N p.1 p.2 q.1 q.2 with
     | none=>rfl
     | some r =>
      simp only [bs]
      cases hr:r.2 with
      | false =>
       have:=tD hm
       rw [hr] at this
       rcases this with ⟨h,_⟩ | ⟨_,h⟩
       ·cases h
       ·rw [h]
        simp only [wO hN,bs,cond_false]
      | true =>
       simp only [cond_true]
       cases bI N x y r.1.1 r.1.2 with
       | none=>rfl
       | some s =>
        simp only [bs]
        cases s.2 with
        | false=>rfl
        | true =>
         simp only [cond_true]
         cases ad i 1 with
         | none=>rfl
         | some i1=>simp only [bs];exact ih _ _ _
theorem vd (hN:1073741824≤N) (a b:aW):gV N a b=dj N a b:=by
 unfold gV dj
 simp only [s0 hN]
theorem th (hN:1073741824≤N) {A:ba} {x:aW}:∀ (fuel:Nat) (y:aW) (i:Int),dT N fuel x y A (A.length:Int) i=aR N fuel A x y i:=by
 intro fuel
 induction fuel with
 | zero=>intros;rfl
 | succ fuel ih =>
  intro y i
  rw [dT,aR]
  simp only [vd hN,ih]
theorem ud (hN:1073741824≤N) (A:ba) (x:aW):eI N A x=bB N A x:=by
 unfold eI bB
 simp only [th hN]
theorem ub {A:ba} {x:aW}:∀ (fuel:Nat) (y:aW) (i:Int) (q:aW × Bool),aR N fuel A x y i=some (.inl q)→q=([],false):=by
 intro fuel
 induction fuel with
 | zero=>intro y i q h;cases h
 | succ fuel ih =>
  intro y i q h
  rw [aR] at h
  rcases oif h with ⟨_,h⟩ | ⟨_,h⟩
  ·obtain ⟨_,_,h⟩:=ob h
   obtain ⟨_,_,h⟩:=ob h
   rcases oif h with ⟨_,h⟩ | ⟨_,h⟩
   ·obtain ⟨_,_,h⟩:=ob h
    obtain ⟨_,_,h⟩:=ob h
    exact ih _ _ _ h
   ·cases h;rfl
  ·cases h
theorem s6 {A:ba} {x:aW} {r:aW × Bool} (h:bB N A x=some r) (hr:r.2=false):r.1=[]:=by
 unfold bB at h
 obtain ⟨s,hs,h⟩:=ob h
 cases s with
 | inl q =>
  have:=ub N [] 0 q hs
  simp only [lpS] at h
  cases h;rw [this]
 | inr v =>
  simp only [lpS] at h
  cases h;cases hr
theorem vN {x:aW} (hv:∀ i r,ix x i=some r→VR N r) {sg:Int} {A:ba} {B C:aW}:∀ (fuel:Nat) (i:Int),gz N fuel x sg A B C x (x.length:Int) i=cw N fuel x sg A B C i:=by
 intro fuel
 induction fuel with
 | zero=>intros;rfl
 | succ fuel ih =>
  intro i
  rw [gz,cw]
  cases decide (i<(x.length:Int)) with
  | false=>rfl
  | true =>
   simp only [cond_true]
   cases hx:ix x i with
   | none=>rfl
   | some r =>
    have h:ay N r.1 r.2=some true:=hv _ _ hx
    simp only [bs,h,cond_true,ih]
theorem vI {sg:Int} {A:ba} {B C y:aW} {u:Bool}:∀ (fuel:Nat) (i:Int),gD N fuel sg A B C y (y.length:Int) i=bU N fuel sg A B C y u i:=by
 intro fuel
 induction fuel with
 | zero=>intros;rfl
 | succ fuel ih =>
  intro i
  rw [gD,bU]
  simp only [uG,ih,v8 sg]
theorem tm (hN:1073741824≤N) {A:ba} {B C x:aW} {sg:Int} (h1:c7 N A B C=some true) (h2:bL N A B C=some true) (hl:x.length≤1000) (hv:∀ i r,ix x i=some r→VR N r):iB N A B C x sg=dA N A B C x sg:=by
 unfold iB dA
 rw [h1,h2]
 simp only [bs,cond_true]
 cases ((x.length:Int) != (C.length:Int)) with
 | true=>rfl
 | false =>
  simp only [cond_false,o4 hN hl hv,bs,cond_true,vN hv]
  cases cw N N x sg A B C 0 with
  | none=>rfl
  | some s =>
   simp only [bs]
   cases s with
   | inl q=>rfl
   | inr q =>
    simp only [lpS]
    rw [ud hN]
    cases hm:bB N A x with
    | none=>rfl
    | some r =>
     simp only [bs]
     cases hr:r.2 with
     | true=>simp only [cond_true,vI (u:=true)]
     | false =>
      have he:=s6 hm hr
      rw [he,cond_false]
      have:bU N N sg A B C [] false 0=some (.inr 0):=by
       obtain ⟨K,rfl⟩:∃ K,N=K+1:=⟨N-1,by omega⟩
       rw [bU];rfl
      rw [this];rfl
theorem yg (hN:1073741824≤N) {A:ba} {c:Nat} (hA:A.length≤1000) (hc:c≤1000) (hr:∀ i R,ix A i=some R→R.length=c∧∀ j r,ix R j=some r→VR N r):∀ (k i fuel:Nat),i+k=A.length→k<fuel→dg N fuel (c:Int) A (A.length:Int) (i:Int)=some (.inr (A.length:Int)):=by
 intro k
 induction k with
 | zero =>
  intro i fuel hi hf
  obtain ⟨fuel,rfl⟩:∃ k',fuel=k'+1:=⟨fuel-1,by omega⟩
  rw [dg,decide_eq_false (by omega),cond_false,show (i:Int)=(A.length:Int) by omega]
 | succ k ih =>
  intro i fuel hi hf
  obtain ⟨fuel,rfl⟩:∃ k',fuel=k'+1:=⟨fuel-1,by omega⟩
  have e:=ixM (m:=A) (i:=i) (by omega)
  obtain ⟨g1,g2⟩:=hr _ _ e
  have e2:(((aZ A i).length:Int) != (c:Int))=false:=by simp [g1]
  rw [dg,decide_eq_true (by omega),cond_true,e,bs,e2,cond_false,o4 hN (by omega) g2,bs,cond_true,bE (by omega) (by omega),bs]
  exact ih (i+1) fuel (by omega) (by omega)
theorem lv {α:Type} {xs:List α} {i:Int} {x:α} (h:ix xs i=some x):x∈xs:=by
 obtain ⟨k,rfl,hk,rfl⟩:=eS h
 exact List.getElem_mem hk
theorem qJ (hN:1073741824≤N) {n:Nat} (i:Int) (r:cL) (h:ix (aA n) i=some r):VR N r:=by
 have:=lv h
 unfold aA at this
 rw [List.eq_of_mem_replicate this]
 exact gB hN (by decide) (by decide)
theorem ru (hN:1073741824≤N) {n:Nat} {atoms:List aX} (i:Int) (R:aW) (h:ix (aM n atoms) i=some R):R.length=atoms.length∧∀ j r,ix R j=some r→VR N r:=by
 have:=lv h
 unfold aM at this
 obtain ⟨v,_,rfl⟩:=List.mem_map.1 this
 refine ⟨by unfold dF;rw [List.length_map],fun j r hr=>?_⟩
 have:=lv hr
 unfold dF at this
 obtain ⟨a,_,rfl⟩:=List.mem_map.1 this
 exact qI hN (ja _ _)
theorem sK (hN:1073741824≤N) {n:Nat} {atoms:List aX} (n1:1≤n) (n5:n≤5) (a1:1≤atoms.length) (a4:atoms.length≤4):c7 N (aM n atoms) (aA n) (aA atoms.length)=some true:=by
 have l1:(aA n).length=n:=by unfold aA;simp
 have l2:(aA atoms.length).length=atoms.length:=by unfold aA;simp
 unfold c7
 have e:(((aM n atoms).length:Int) != (n:Int))=false:=by simp [cg]
 have hL:=yg hN (A:=aM n atoms) (c:=atoms.length) (by rw [cg];omega) (by omega) (ru hN) (aM n atoms).length 0 N (by omega) (by rw [cg];omega)
 rw [show ((0:Nat):Int)=0 from rfl] at hL
 rw [l1,l2,eH,bs,show inR (atoms.length:Int) 1 5=true from cz.2 (by omega),cond_true,eH,bs,show inR (n:Int) 1 5=true from cz.2 (by omega),cond_true,e,cond_false,o4 hN (by omega) (qJ hN),bs,cond_true,o4 hN (by omega) (qJ hN),bs,cond_true,hL,bs]
 rfl
end
end Go.Proofs.YtijmbnbnojicjaaDoor
