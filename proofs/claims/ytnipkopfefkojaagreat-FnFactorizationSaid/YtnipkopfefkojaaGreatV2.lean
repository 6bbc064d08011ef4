/- Plain laws: LeapfrogIntersect: what the program and the reference come to. -/
import Derived.Test.YtnipkopfefkojaaGreatV1
namespace Go.Proofs.YtnipkopfefkojaaGreat
open Go.RowKit
def fX (l:List Int):Int:=l.getD 0 0
def mb (hs:List Int) (h:Int):Nat→Nat
 | 0=>0
 | k+1=>if h<hs.getD k 0 then mb hs h k else k+1
theorem yo (hs:List Int) (h:Int):∀ k,mb hs h k≤k
 | 0=>Nat.le_refl _
 | k+1=>by
  unfold mb;split
  ·have:=yo hs h k;omega
  ·exact Nat.le_refl _
theorem yQ (hs:List Int) (h:Int):∀ k j,mb hs h k≤j→j<k→h<hs.getD j 0
 | 0,j,_,h2=>absurd h2 (by omega)
 | k+1,j,h1,h2=>by
  unfold mb at h1
  split at h1
  ·rename_i hh
   by_cases e:j=k
   ·rw [e];exact hh
   ·exact yQ hs h k j h1 (by omega)
  ·omega
theorem yC (hs:List Int) (h:Int):∀ k,mb hs h k=0∨hs.getD (mb hs h k-1) 0≤h
 | 0=>.inl rfl
 | k+1=>by
  unfold mb;split
  ·exact yC hs h k
  ·rename_i hh;exact .inr (by rw [Nat.add_sub_cancel];omega)
def hdI (ls:aK) (j:Int):Int:=fX (ls.getD j.toNat [])
def jn (ls:aK) (O:List Int) (i:Nat):Nat:=mb (O.map (hdI ls)) (hdI ls (i:Int)) O.length
def pE (ls:aK) (O:List Int) (i:Nat):List Int:=O.take (jn ls O i)++[(i:Int)]++O.drop (jn ls O i)
def cO (ls:aK) (i:Nat):List Int:=(List.range' 0 i).foldl (pE ls) []
def lsO (ls:aK) (O:List Int):aK:=O.map fun j=>ls.getD j.toNat []
theorem q9 (ls:aK) (i:Nat):cO ls (i+1)=pE ls (cO ls i) i:=by unfold cO;rw [List.range'_concat,List.foldl_append];simp
theorem uY (ls:aK) (O:List Int) (i:Nat):jn ls O i≤O.length:=yo _ _ _
theorem vI (ls:aK) (O:List Int) (i:Nat):(pE ls O i).Perm ((i:Int) :: O):=by
 unfold pE
 rw [List.append_assoc,List.singleton_append]
 have h:=List.perm_middle (a:=(i:Int)) (l₁:=O.take (jn ls O i)) (l₂:=O.drop (jn ls O i))
 rwa [List.take_append_drop] at h
theorem BC (ls:aK) (O:List Int) (i:Nat):(pE ls O i).length=O.length+1:=by rw [(vI ls O i).length_eq,List.length_cons]
def leI (a b:Int):Prop:=a≤b
theorem xQ {ls:aK} {O:List Int} {i:Nat} (h:(O.map (hdI ls)).Pairwise leI):((pE ls O i).map (hdI ls)).Pairwise leI:=by
 have hk:=uY ls O i
 have hat:∀ j (hj:j<O.length),hdI ls O[j]=(O.map (hdI ls)).getD j 0:=fun j hj=>by rw [bk (by rw [List.length_map];exact hj),List.getElem_map]
 unfold pE
 rw [List.map_append,List.map_append,List.append_assoc]
 have h1:(O.map (hdI ls))=(O.take (jn ls O i)).map (hdI ls)++(O.drop (jn ls O i)).map (hdI ls):=by rw [← List.map_append,List.take_append_drop]
 rw [h1] at h
 obtain ⟨p1,p2,p3⟩:=List.pairwise_append.1 h
 refine List.pairwise_append.2 ⟨p1,?_,?_⟩
 ·rw [List.map_cons,List.map_nil,List.singleton_append]
  refine List.pairwise_cons.2 ⟨fun y hy=>?_,p2⟩
  obtain ⟨x,hx,rfl⟩:=List.mem_map.1 hy
  obtain ⟨j,hj,rfl⟩:=List.getElem_of_mem hx
  rw [List.length_drop] at hj
  rw [List.getElem_drop]
  have:=yQ (O.map (hdI ls)) (hdI ls (i:Int)) O.length (jn ls O i+j) (by unfold jn;omega) (by omega)
  rw [← hat _ (by omega)] at this
  exact Int.le_of_lt this
 ·intro x hx y hy
  have hx':leI x (hdI ls (i:Int)):=by
   obtain ⟨z,hz,rfl⟩:=List.mem_map.1 hx
   obtain ⟨j,hj,rfl⟩:=List.getElem_of_mem hz
   rw [List.length_take] at hj
   rw [List.getElem_take]
   have hj1:j<jn ls O i:=by omega
   rcases yC (O.map (hdI ls)) (hdI ls (i:Int)) O.length with h0 | h0
   ·have:jn ls O i=0:=h0
    omega
   ·have h0':(O.map (hdI ls)).getD (jn ls O i-1) 0≤hdI ls (i:Int):=h0
    by_cases e:j=jn ls O i-1
    ·unfold leI;rw [hat j (by omega),e];exact h0'
    ·have hp:=List.pairwise_iff_getElem.1 p1 j (jn ls O i-1) (by rw [List.length_map,List.length_take];omega) (by rw [List.length_map,List.length_take];omega) (by omega)
     rw [List.getElem_map,List.getElem_map,List.getElem_take,List.getElem_take] at hp
     unfold leI at hp ⊢
     rw [hat (jn ls O i-1) (by omega)] at hp
     omega
  rw [List.map_cons,List.map_nil,List.singleton_append] at hy
  rcases List.mem_cons.1 hy with rfl | hy
  ·exact hx'
  ·exact p3 x hx y hy
structure OrdOk (ls:aK) (O:List Int) (i:Nat):Prop where
 len:O.length=i
 nd:O.Nodup
 bd:∀ j∈O,0≤j∧j<i
 so:(O.map (hdI ls)).Pairwise leI
theorem mC (ls:aK):∀ i,OrdOk ls (cO ls i) i
 | 0=>⟨rfl,List.nodup_nil,fun j h=>absurd h (List.not_mem_nil),List.Pairwise.nil⟩
 | i+1=>by
  have h:=mC ls i
  rw [q9]
  have hp:=vI ls (cO ls i) i
  refine ⟨by rw [BC,h.len],hp.nodup_iff.2 (List.nodup_cons.2 ⟨fun hm=>by have:=h.bd _ hm;omega,h.nd⟩),fun j hj=>?_,xQ h.so⟩
  rcases List.mem_cons.1 (hp.mem_iff.1 hj) with rfl | hj
  ·omega
  ·have:=h.bd j hj;omega
def shS (ls:aK) (i:Nat) (s:Int):Int:=bif Nat.beq i 0||decide (((ls.getD i []).length:Int)<s) then ((ls.getD i []).length:Int) else s
def shT (ls:aK) (i:Nat):Int:=(List.range' 0 i).foldl (fun s i=>shS ls i s) 0
theorem qk (ls:aK) (i:Nat):shT ls (i+1)=shS ls i (shT ls i):=by unfold shT;rw [List.range'_concat,List.foldl_append];simp
theorem Az (ls:aK):∀ i,0≤shT ls i∧∀ j,j<i→shT ls i≤((ls.getD j []).length:Int)
 | 0=>⟨Int.le_refl _,fun j h=>absurd h (by omega)⟩
 | i+1=>by
  obtain ⟨h1,h2⟩:=Az ls i
  rw [qk]
  unfold shS
  cases i with
  | zero=>exact ⟨by rw [show (Nat.beq 0 0)=true from rfl,Bool.true_or,cond_true];omega,fun j hj=>by rw [show (Nat.beq 0 0)=true from rfl,Bool.true_or,cond_true,show j=0 by omega];exact Int.le_refl _⟩
  | succ i =>
   rw [show Nat.beq (i+1) 0=false from rfl,Bool.false_or]
   by_cases h:((ls.getD (i+1) []).length:Int)<shT ls (i+1)
   ·rw [decide_eq_true h,cond_true]
    refine ⟨by omega,fun j hj=>?_⟩
    by_cases e:j=i+1
    ·rw [e];exact Int.le_refl _
    ·have:=h2 j (by omega);omega
   ·rw [decide_eq_false h,cond_false]
    refine ⟨h1,fun j hj=>?_⟩
    by_cases e:j=i+1
    ·rw [e];omega
    ·exact h2 j (by omega)
def eR (n:Nat):List Nat:=List.replicate n 0
def wa (ls:aK):List Int × Nat:=fV (lsO ls (cO ls ls.length)) (kY (lsO ls (cO ls ls.length)) (eR ls.length)+1) (eR ls.length) (fX ((lsO ls (cO ls ls.length)).getD (ls.length-1) [])) [] 0
def km (ls:aK):List Int × Int:=bif gB ls&&!(shT ls ls.length == 0) then ((wa ls).1,((wa ls).2:Int)) else ([],0)
theorem pJ:∀ {xs:List Int},asc xs=true→fL xs
 | [],_=>List.Pairwise.nil
 | [_],_=>List.pairwise_singleton _ _
 | x :: y :: t,h=>by
  unfold asc at h
  rw [Bool.and_eq_true,decide_eq_true_eq] at h
  have ih:=pJ h.2
  refine List.pairwise_cons.2 ⟨fun z hz=>?_,ih⟩
  rcases List.mem_cons.1 hz with rfl | hz
  ·exact h.1
  ·have:=(List.pairwise_cons.1 ih).1 z hz;omega
theorem tw:∀ {xs:List Int},fL xs→asc xs=true
 | [],_=>rfl
 | [_],_=>rfl
 | x :: y :: t,h=>by
  obtain ⟨h1,h2⟩:=List.pairwise_cons.1 h
  unfold asc
  rw [decide_eq_true (h1 y List.mem_cons_self),tw h2];rfl
theorem si (ls:aK):(lsO ls (cO ls ls.length)).length=ls.length:=by unfold lsO;rw [List.length_map,(mC ls ls.length).len]
theorem jF {ls:aK} {l:List Int}:l∈lsO ls (cO ls ls.length)↔l∈ls:=by
 have h:=mC ls ls.length
 unfold lsO
 rw [List.mem_map]
 constructor
 ·rintro ⟨j,hj,rfl⟩
  have:=h.bd j hj
  exact fo (by omega)
 ·intro hl
  obtain ⟨i,hi,rfl⟩:=List.getElem_of_mem hl
  refine ⟨(i:Int),t0 h.nd h.len h.bd (i:Int) (by omega) (by omega),?_⟩
  rw [show ((i:Nat):Int).toNat=i from rfl,dL hi]
theorem tY {ls:aK} {O:List Int} {i:Nat} (h:i<O.length):(lsO ls O).getD i []=ls.getD O[i].toNat []:=by unfold lsO;simp [h]
theorem tD (n k:Nat):(eR n).getD k 0=0:=by
 unfold eR
 by_cases h:k<n <;> simp [h]
theorem pz {ls:aK} (h:(gB ls&&!(shT ls ls.length == 0))=true) :
  LInv (lsO ls (cO ls ls.length)) (eR ls.length) (fX ((lsO ls (cO ls ls.length)).getD (ls.length-1) [])) [] 0∧∀ l∈ls,0<l.length:=by
 rw [Bool.and_eq_true,Bool.not_eq_true',beq_eq_false_iff_ne] at h
 obtain ⟨h1,h2⟩:=h
 unfold gB at h1
 rw [Bool.and_eq_true,List.all_eq_true,decide_eq_true_eq] at h1
 obtain ⟨h3,h4⟩:=Az ls ls.length
 have hne:∀ l∈ls,0<l.length:=fun l hl=>by
  obtain ⟨i,hi,rfl⟩:=List.getElem_of_mem hl
  have:=h4 i hi
  rw [dL hi] at this;omega
 have ho:=mC ls ls.length
 have hlen:=si ls
 have hkey:∀ k,kX (lsO ls (cO ls ls.length)) (eR ls.length) k=fX ((lsO ls (cO ls ls.length)).getD k []):=fun k=>by unfold kX fX;rw [tD]
 refine ⟨⟨by omega,by rw [hlen];simp [eR],fun l hl=>pJ (h1.1 l (jF.1 hl)),fun k hk=>?_,fun i j hij hj=>?_,?_,List.Pairwise.nil,by simp,by simp,fun x hx=>.inr fun k hk=>?_⟩,hne⟩
 ·rw [tD];exact hne _ (jF.1 (fo hk))
 ·rw [Nat.zero_add,Nat.zero_add,Nat.mod_eq_of_lt hj,Nat.mod_eq_of_lt (by omega),hkey,hkey]
  by_cases e:i=j
  ·rw [e];exact Int.le_refl _
  ·have hs:=List.pairwise_iff_getElem.1 ho.so i j (by rw [List.length_map,ho.len];omega) (by rw [List.length_map,ho.len];omega) (by omega)
   rw [List.getElem_map,List.getElem_map] at hs
   rw [tY (by rw [ho.len];omega),tY (by rw [ho.len];omega)]
   exact hs
 ·rw [Nat.zero_add,Nat.mod_eq_of_lt (by omega),hkey,hlen]
 ·rw [hkey]
  have hl:=jF.1 (fo hk)
  obtain ⟨j,hj,e⟩:=At (hx _ (fo hk))
  have hp:=hne _ hl
  unfold fX
  rw [bk hp,← e]
  rcases Nat.eq_zero_or_pos j with h0 | h0
  ·subst h0;exact Int.le_refl _
  ·exact Int.le_of_lt (pp (pJ (h1.1 _ hl)) h0 hj)
theorem ot:∀ (Ls:aK) (B n:Nat),(∀ l∈Ls,l.length≤B)→kY Ls (eR n)≤Ls.length*B
 | [],B,n,_=>by simp [kY]
 | l :: Ls,B,0,_=>by simp [kY,eR]
 | l :: Ls,B,n+1,h=>by
  have ih:=ot Ls B n fun x hx=>h x (List.mem_cons_of_mem _ hx)
  have hl:=h l List.mem_cons_self
  unfold kY eR at ih ⊢
  rw [List.replicate_succ,List.zipWith_cons_cons,List.sum_cons,List.length_cons,Nat.succ_mul]
  omega
theorem pB {ls:aK} {B:Nat} (h:∀ l∈ls,l.length≤B):fL (km ls).1∧(∀ x∈(km ls).1,∀ l∈ls,x∈l)∧0≤(km ls).2∧(km ls).2≤(ls.length*B+1:Nat)∧(gB ls=true→∀ x,(∀ l∈ls,x∈l)→x∈(km ls).1):=by
 unfold km
 cases hc:gB ls&&!(shT ls ls.length == 0) with
 | false =>
  refine ⟨List.Pairwise.nil,by simp,Int.le_refl _,by rw [cond_false];omega,fun ha x hx=>?_⟩
  rw [ha,Bool.true_and,Bool.not_eq_false',beq_iff_eq] at hc
  exfalso
  -- some list is empty
  have hex:∀ i,i≤ls.length→0<i→shT ls i=0→∃ j,j<i∧(ls.getD j []).length=0:=by
   intro i
   induction i with
   | zero=>intro _ h;omega
   | succ i ih =>
    intro hi _ hz
    rw [qk] at hz
    unfold shS at hz
    cases i with
    | zero =>
     rw [show (Nat.beq 0 0)=true from rfl,Bool.true_or,cond_true] at hz
     exact ⟨0,by omega,by omega⟩
    | succ i =>
     rw [show Nat.beq (i+1) 0=false from rfl,Bool.false_or] at hz
     by_cases hlt:((ls.getD (i+1) []).length:Int)<shT ls (i+1)
     ·rw [decide_eq_true hlt,cond_true] at hz
      exact ⟨i+1,by omega,by omega⟩
     ·rw [decide_eq_false hlt,cond_false] at hz
      obtain ⟨j,hj,e⟩:=ih (by omega) (by omega) hz
      exact ⟨j,by omega,e⟩
  unfold gB at ha
  rw [Bool.and_eq_true,decide_eq_true_eq] at ha
  obtain ⟨j,hj,e⟩:=hex ls.length (Nat.le_refl _) ha.2 hc
  have hm:=hx _ (fo hj)
  rw [List.length_eq_zero_iff.1 e] at hm
  simp at hm
 | true =>
  rw [cond_true]
  obtain ⟨I,_⟩:=pz hc
  obtain ⟨g1,g2,g3⟩:=sQ (kY (lsO ls (cO ls ls.length)) (eR ls.length)+1) _ _ _ _ I (by omega)
  have hr:=ot (lsO ls (cO ls ls.length)) B ls.length fun l hl=>h l (jF.1 hl)
  rw [si] at hr
  refine ⟨g1,fun x hx l hl=>(g2 x).1 hx l (jF.2 hl),Int.natCast_nonneg _,?_,fun _ x hx=>(g2 x).2 fun l hl=>hx l (jF.1 hl)⟩
  have g4:(wa ls).2≤ls.length*B+1:=by
   have:(wa ls).2≤0+(kY (lsO ls (cO ls ls.length)) (eR ls.length)+1):=g3
   omega
  exact Int.ofNat_le.2 g4
theorem ixR {ls:aK} {k:Nat} (h:k<ls.length):ix ls (k:Int)=some (ls.getD k []):=by rw [aR h,dL h]
theorem ixD {xs:List Int} {k:Nat} (h:k<xs.length):ix xs (k:Int)=some (xs.getD k 0):=by rw [aR h,bk h]
theorem ixH {xs:List Int} (h:0<xs.length):ix xs 0=some (fX xs):=ixD h
def cz (A:List Nat):List Int:=A.map fun (a:Nat)=>((a:Nat):Int)
theorem pX {A:List Nat} {k:Nat} (h:k<A.length):ix (cz A) (k:Int)=some ((A.getD k 0:Nat):Int):=by
 unfold cz
 rw [aR (by rw [List.length_map];exact h),List.getElem_map]
 simp [h]
theorem uA {A:List Nat} {k a:Nat} (h:k<A.length):sto (cz A) (k:Int) (a:Int)=some (cz (A.set k a)):=by
 unfold cz
 rw [i5 (by rw [List.length_map];exact h),List.map_set]
theorem DQ {a b:Nat} (h:0<b):rm (a:Int) (b:Int)=some ((a % b:Nat):Int):=by
 rw [sf (by omega),← Int.ofNat_tmod]
theorem D0 (ls:aK) (O:List Int):(lsO ls O).map fX=O.map (hdI ls):=by unfold lsO;rw [List.map_map];rfl
theorem Cx (ls:aK) (O:List Int) (i:Nat):lsO ls (pE ls O i)=(lsO ls O).take (jn ls O i)++[ls.getD i []]++(lsO ls O).drop (jn ls O i):=by
 unfold lsO pE
 rw [List.map_append,List.map_append,List.map_take,List.map_drop];rfl
section
variable {N:Nat}
theorem CF {order ls:aK} {l:List Int} {b c:Int} (hne:∀ x∈order,0<x.length) (hl:0<l.length) (hlen:order.length≤1000):∀ k f,k≤order.length→k<f →
  dI N f order l (k:Int) ls b c=some ((mb (order.map fX) (fX l) k:Nat):Int):=by
 intro k
 induction k with
 | zero =>
  intro f _ hf
  obtain ⟨f,rfl⟩:∃ g,f=g+1:=⟨f-1,by omega⟩
  rw [dI,decide_eq_false (by omega),cond_false];rfl
 | succ k ih =>
  intro f hk hf
  obtain ⟨f,rfl⟩:∃ g,f=g+1:=⟨f-1,by omega⟩
  have hk':k<order.length:=by omega
  rw [dI,decide_eq_true (by omega),cond_true,dT (by omega) (by omega),bs,show (((k+1:Nat):Int)-1)=(k:Int) by omega,aR hk',bs,ixH (hne _ (List.getElem_mem hk')),bs,ixH hl,bs,bs,mb]
  have e:(order.map fX).getD k 0=fX order[k]:=by simp [hk']
  rw [e]
  by_cases h:fX l<fX order[k]
  ·rw [decide_eq_true h,cond_true,if_pos h,ih f (by omega) (by omega)]
  ·rw [decide_eq_false h,cond_false,if_neg h]
theorem Ck (hN:1073741824≤N) {ls:aK} (hne:∀ x∈ls,0<x.length) (hlen:ls.length≤1000):ci N N [] ls (ls.length:Int) 0=some (lsO ls (cO ls ls.length),(ls.length:Int)) :=
 dK (fun k (o:aK) i=>ci N k o ls (ls.length:Int) i) ls.length (fun i=>lsO ls (cO ls i)) (lsO ls (cO ls ls.length),(ls.length:Int))
  (fun k i h=>by
   have ho:=mC ls i
   have hol:(lsO ls (cO ls i)).length=i:=by unfold lsO;rw [List.length_map,ho.len]
   have hp:=uY ls (cO ls i) i
   rw [ho.len] at hp
   have hne':∀ x∈lsO ls (cO ls i),0<x.length:=fun x hx=>by
    obtain ⟨j,hj,rfl⟩:=List.mem_map.1 hx
    have:=ho.bd j hj
    exact hne _ (fo (by omega))
   have e:mb ((lsO ls (cO ls i)).map fX) (fX ls[i]) (lsO ls (cO ls i)).length=jn ls (cO ls i) i:=by
    unfold jn hdI
    rw [D0,hol,ho.len,show ((i:Nat):Int).toNat=i from rfl,dL h];rfl
   show ci N (k+1) (lsO ls (cO ls i)) ls (ls.length:Int) (i:Int)=ci N k (lsO ls (cO ls (i+1))) ls (ls.length:Int) ((i+1:Nat):Int)
   rw [ci,dlt h,cond_true,aR h,bs,CF hne' (hne _ (List.getElem_mem h)) (by omega) _ N (Nat.le_refl _) (by omega),bs,lpB,e,uO (by omega),bs,iN (by omega) (Nat.le_refl _),bs,List.take_length,bu (by decide) (by simp;omega),bs,bu (by decide) (by simp;omega),bs,bu (by decide) (by simp;omega),bs,ad1 (by omega),bs,q9,Cx,dL h]
   rfl)
  (fun k=>by
   show ci N (k+1) (lsO ls (cO ls ls.length)) ls (ls.length:Int) (ls.length:Int)=_
   rw [ci,dge (by omega),cond_false]) N 0 (by omega) (by omega)
theorem Cp {ls:aK} {O:List Int} {i:Nat} (hi:i<ls.length) (hO:∀ j∈O,0≤j∧j<ls.length) (hne:∀ x∈ls,0<x.length) (hlen:O.length≤1000):∀ k f,k≤O.length→k<f →
  gL N f ls O (i:Int) (k:Int)=some ((mb (O.map (hdI ls)) (hdI ls (i:Int)) k:Nat):Int):=by
 intro k
 induction k with
 | zero =>
  intro f _ hf
  obtain ⟨f,rfl⟩:∃ g,f=g+1:=⟨f-1,by omega⟩
  rw [gL,decide_eq_false (by omega),cond_false];rfl
 | succ k ih =>
  intro f hk hf
  obtain ⟨f,rfl⟩:∃ g,f=g+1:=⟨f-1,by omega⟩
  have hk':k<O.length:=by omega
  have hj:=hO _ (List.getElem_mem hk')
  have hji:O[k].toNat<ls.length:=by omega
  rw [gL,decide_eq_true (by omega),cond_true,dT (by omega) (by omega),bs,show (((k+1:Nat):Int)-1)=(k:Int) by omega,aR hk',bs,ixL hj,bs,ixH (hne _ (fo hji)),bs,ixR hi,bs,ixH (hne _ (fo hi)),bs,bs,mb]
  have e:(O.map (hdI ls)).getD k 0=fX (ls.getD O[k].toNat []):=by simp [hk',hdI]
  rw [e]
  show (bif decide (fX (ls.getD i [])<fX (ls.getD O[k].toNat [])) then _ else _)=some (((if fX (ls.getD i [])<fX (ls.getD O[k].toNat []) then _ else _:Nat)):Int)
  by_cases h:fX (ls.getD i [])<fX (ls.getD O[k].toNat [])
  ·rw [decide_eq_true h,cond_true,if_pos h,ih f (by omega) (by omega)]
  ·rw [decide_eq_false h,cond_false,if_neg h]
theorem yg (hN:1073741824≤N) {ls:aK} (hne:∀ x∈ls,0<x.length) (hlen:ls.length≤1000):j4 N ls=some (cO ls ls.length):=by
 have h:=dK (fun k (o:List Int) i=>dF N k ls o i) ls.length (fun i=>cO ls i) (cO ls ls.length,(ls.length:Int))
  (fun k i h=>by
   have ho:=mC ls i
   have hp:=uY ls (cO ls i) i
   rw [ho.len] at hp
   have hlo:=ho.len
   show dF N (k+1) ls (cO ls i) (i:Int)=dF N k ls (cO ls (i+1)) ((i+1:Nat):Int)
   rw [dF,dlt h,cond_true,Cp h (fun j hj=>by have:=ho.bd j hj;omega) hne (by omega) _ N (Nat.le_refl _) (by omega),bs,lpB]
   show (slc (cO ls i) 0 ((jn ls (cO ls i) i:Nat):Int)).bind _=_
   rw [uO (by omega),bs]
   show (slc (cO ls i) ((jn ls (cO ls i) i:Nat):Int) _).bind _=_
   rw [iN (by omega) (Nat.le_refl _),bs,List.take_length,bu (by decide) (by simp;omega),bs,bu (by decide) (by simp;omega),bs,bu (by decide) (by simp;omega),bs,ad1 (by omega),bs,q9]
   rfl)
  (fun k=>by
   show dF N (k+1) ls (cO ls ls.length) (ls.length:Int)=_
   rw [dF,dge (by omega),cond_false]) N 0 (by omega) (by omega)
 have h':dF N N ls [] 0=_:=h
 unfold j4
 rw [h',bs,lpB]
theorem sG (hN:1073741824≤N) {l:List Int} {a:Nat} {v:Int} (ha:a≤l.length) (hl:l.length≤1048576):iD N l (a:Int) v=some ((d5 l a v:Nat):Int):=by
 have key:∀ k i,i≤l.length→l.length-i<k→ib N k l v (i:Int)=some (if d5 l i v<l.length then .inl ((d5 l i v:Nat):Int) else .inr (l.length:Int)):=by
  intro k
  induction k with
  | zero=>intro i _ h;omega
  | succ k ih =>
   intro i h1 h2
   rw [ib]
   by_cases h:i<l.length
   ·rw [dlt h,cond_true,aR h,bs]
    have e:d5 l i v=if l[i]<v then d5 l (i+1) v else i:=by
     unfold d5
     rw [eV h,List.takeWhile_cons]
     by_cases hv:l[i]<v
     ·rw [if_pos (by simpa using hv),if_pos hv,List.length_cons];omega
     ·rw [if_neg (by simpa using hv),if_neg hv];rfl
    by_cases hv:v≤l[i]
    ·have e2:d5 l i v=i:=by rw [e,if_neg (by omega)]
     rw [decide_eq_true hv,cond_true,e2,if_pos h]
    ·have e2:d5 l i v=d5 l (i+1) v:=by rw [e,if_pos (by omega)]
     rw [decide_eq_false hv,cond_false,ad1 (by omega),bs,ih (i+1) (by omega) (by omega),e2]
   ·rw [dge h,cond_false]
    have hi:i=l.length:=by omega
    have e:d5 l i v=l.length:=by unfold d5;rw [List.drop_of_length_le (by omega),hi];rfl
    rw [e,if_neg (by omega),hi]
 unfold iD
 have hm:imx 0 (a:Int)=(a:Int):=by unfold imx;split <;> omega
 rw [hm,key N a ha (by omega),bs]
 have hle:=s6 (v:=v) ha
 by_cases h:d5 l a v<l.length
 ·rw [if_pos h,za]
 ·rw [if_neg h,tc,show d5 l a v=l.length by omega]
theorem su (hN:1073741824≤N) {l:List Int} {a:Nat} {v:Int} (ha:a≤l.length) (hl:l.length≤1048576):jA N l (a:Int) v=some ((d5 l a v:Nat):Int):=by
 have h:=re (fun k i=>dP N k l v i) l (fun x=>decide (x<v))
  (fun k i h=>by
   show dP N (k+1) l v (i:Int)=_
   rw [dP,dlt h,cond_true,aR h,bs,ad1 (by omega),bs])
  (fun k=>by
   show dP N (k+1) l v (l.length:Int)=_
   rw [dP,dge (by omega),cond_false]) N a ha (by omega)
 have hm:imx 0 (a:Int)=(a:Int):=by unfold imx;split <;> omega
 have hle:=s6 (v:=v) ha
 have h':dP N N l v (a:Int)=some ((d5 l a v:Nat):Int):=h
 unfold jA
 rw [hm,h',bs,lpB]
 congr 1
 unfold imn imx
 (repeat' split) <;> omega
theorem o3 (hN:1073741824≤N) {ls:aK} (hl:ls.length≤1048576):gv N ls=some (shT ls ls.length):=by
 have h:=dK (fun k (s:Int) i=>bY N k s ls (ls.length:Int) i) ls.length (fun i=>shT ls i) (shT ls ls.length,(ls.length:Int))
  (fun k i h=>by
   show bY N (k+1) (shT ls i) ls (ls.length:Int) (i:Int)=bY N k (shT ls (i+1)) ls (ls.length:Int) ((i+1:Nat):Int)
   rw [bY,dlt h,cond_true,aR h,bs,ad1 (by omega),bs,bs,qk]
   unfold shS
   rw [dL h]
   cases i with
   | zero=>rfl
   | succ i =>
    rw [show (((i+1:Nat):Int) == 0)=false by simp;omega,cond_false,show Nat.beq (i+1) 0=false from rfl,Bool.false_or]
    cases decide ((ls[i+1].length:Int)<shT ls (i+1)) <;> rfl)
  (fun k=>by
   show bY N (k+1) (shT ls ls.length) ls (ls.length:Int) (ls.length:Int)=_
   rw [bY,dge (by omega),cond_false]) N 0 (by omega) (by omega)
 have h':bY N N 0 ls (ls.length:Int) 0=_:=h
 unfold gv
 rw [h',bs,lpB]
theorem oY (hN:1073741824≤N) {ls:aK} (hl:ls.length≤1048576):gt N ls=some (shT ls ls.length):=by
 have h:=dK (fun k (s:Int) i=>bX N k ls s i) ls.length (fun i=>shT ls i) (shT ls ls.length,(ls.length:Int))
  (fun k i h=>by
   show bX N (k+1) ls (shT ls i) (i:Int)=bX N k ls (shT ls (i+1)) ((i+1:Nat):Int)
   rw [bX,dlt h,cond_true,aR h,bs,ad1 (by omega),bs,bs,bs,qk]
   unfold shS
   rw [dL h]
   cases i with
   | zero=>rfl
   | succ i =>
    rw [show (((i+1:Nat):Int) == 0)=false by simp;omega,cond_false,show Nat.beq (i+1) 0=false from rfl,Bool.false_or]
    cases decide ((ls[i+1].length:Int)<shT ls (i+1)) <;> rfl)
  (fun k=>by
   show bX N (k+1) ls (shT ls ls.length) (ls.length:Int)=_
   rw [bX,dge (by omega),cond_false]) N 0 (by omega) (by omega)
 have h':bX N N ls 0 0=_:=h
 unfold gt
 rw [h',bs,lpB]
end
theorem yP (Ls:aK) (A:List Nat) (most:Int) (out:List Int) (s:Nat):(lkO Ls A most out s).length≤out.length+1:=by
 unfold lkO;split
 ·simp
 ·omega
theorem zZ (A:List Nat):(cz A).length=A.length:=by simp [cz]
theorem nN (a b:Nat):((a:Int) == (b:Int))=decide (a=b):=by
 by_cases h:a=b
 ·rw [decide_eq_true h,h];simp
 ·rw [decide_eq_false h];simp;omega
section
variable {N:Nat}
theorem ED (hN:1073741824≤N) {Ls:aK} (hb:∀ l∈Ls,l.length≤1000000):∀ (m:Nat) (A:List Nat) (most:Int) (out:List Int) (s k:Nat),LInv Ls A most out s→kY Ls A<m→m≤k→out.length+m≤1073741824→s+m≤1073741824 →
  da N k Ls (cz A) most out ((s+1:Nat):Int)=some ((fV Ls m A most out s).1,((fV Ls m A most out s).2:Int)):=by
 intro m
 induction m with
 | zero=>intro A most out s k _ h;omega
 | succ m ih =>
  intro A most out s k I h hmk h1 h2
  obtain ⟨k,rfl⟩:∃ g,k=g+1:=⟨k-1,by omega⟩
  obtain ⟨hk,ha,hgt,hle,_,hstep⟩:=rz I
  have hkA:s % Ls.length<A.length:=by rw [I.len];exact hk
  have ha':lkP Ls A s<(lkL Ls s).length:=ha
  have hle':lkA Ls A most s≤(lkL Ls s).length:=hle
  have hlb:=hb _ (fo hk)
  have hlb':(lkL Ls s).length≤1000000:=hlb
  have hset:s % Ls.length<(A.set (s % Ls.length) (lkA Ls A most s)).length:=by rw [List.length_set];exact hkA
  have hrec:¬ lkA Ls A most s=(lkL Ls s).length→da N k Ls (cz (A.set (s % Ls.length) (lkA Ls A most s))) ((lkL Ls s).getD (lkA Ls A most s) 0) (lkO Ls A most out s) ((s+1+1:Nat):Int)=some ((fV Ls (m+1) A most out s).1,((fV Ls (m+1) A most out s).2:Int)):=fun hne=>by
   have hr:=pZ Ls A (s % Ls.length) (lkA Ls A most s) hk I.len (by
    have h4:lkP Ls A s<lkA Ls A most s:=hgt
    show (lkL Ls s).length-lkA Ls A most s<(lkL Ls s).length-lkP Ls A s
    omega)
   have hol:=yP Ls A most out s
   rw [ih _ _ _ (s+1) k (hstep hne) (by omega) (by omega) (by omega) (by omega),fV,if_neg hne]
  have hend:lkA Ls A most s=(lkL Ls s).length→(fV Ls (m+1) A most out s)=(lkO Ls A most out s,s+1):=fun he=>by rw [fV,if_pos he]
  rw [da,dT (by omega) (by omega),bs,show (((s+1:Nat):Int)-1)=(s:Int) by omega,DQ I.pos,bs,ixR hk,bs]
  show ((ix (cz A) ((s % Ls.length:Nat):Int)).bind fun x854=>(ix (lkL Ls s) x854).bind _)=_
  rw [pX hkA,bs]
  show ((ix (lkL Ls s) ((lkP Ls A s:Nat):Int)).bind _)=_
  rw [ixD ha',bs]
  by_cases e:(lkL Ls s).getD (lkP Ls A s) 0=most
  ·have eA:lkA Ls A most s=lkP Ls A s+1:=if_pos e
   have eO:lkO Ls A most out s=out++[most]:=if_pos e
   rw [show ((lkL Ls s).getD (lkP Ls A s) 0 == most)=true by rw [e];simp,cond_true,bu (by decide) (by simp;omega),bs,bs,ad1 (show A.getD (s % Ls.length) 0<1099511627776 by have:lkP Ls A s=A.getD (s % Ls.length) 0:=rfl;omega),bs,bs]
   show ((sto (cz A) ((s % Ls.length:Nat):Int) ((lkP Ls A s+1:Nat):Int)).bind _)=_
   rw [uA hkA,bs,← eA,← eO,pX hset,bs,tf hkA]
   show (bif (((lkA Ls A most s:Nat):Int) == ((lkL Ls s).length:Int)) then _ else _)=_
   rw [nN]
   by_cases he:lkA Ls A most s=(lkL Ls s).length
   ·rw [decide_eq_true he,cond_true,hend he]
   ·rw [decide_eq_false he,cond_false,bs]
    show ((ix (lkL Ls s) ((lkA Ls A most s:Nat):Int)).bind _)=_
    rw [ixD (show lkA Ls A most s<(lkL Ls s).length by omega),bs,ad1 (by omega),bs]
    exact hrec he
  ·have eA:lkA Ls A most s=d5 (lkL Ls s) (lkP Ls A s) most:=if_neg e
   have eO:lkO Ls A most out s=out:=if_neg e
   rw [show ((lkL Ls s).getD (lkP Ls A s) 0 == most)=false by simpa using e,cond_false,bs]
   show ((iD N (lkL Ls s) ((lkP Ls A s:Nat):Int) most).bind _)=_
   rw [sG hN (by omega) (by omega),bs,bs,← eA]
   show ((sto (cz A) ((s % Ls.length:Nat):Int) ((lkA Ls A most s:Nat):Int)).bind _)=_
   rw [uA hkA,bs,pX hset,bs,tf hkA]
   show (bif (((lkA Ls A most s:Nat):Int) == ((lkL Ls s).length:Int)) then _ else _)=_
   rw [nN]
   by_cases he:lkA Ls A most s=(lkL Ls s).length
   ·rw [decide_eq_true he,cond_true,hend he,eO]
   ·rw [decide_eq_false he,cond_false,bs]
    show ((ix (lkL Ls s) ((lkA Ls A most s:Nat):Int)).bind _)=_
    rw [ixD (show lkA Ls A most s<(lkL Ls s).length by omega),bs,ad1 (by omega),bs]
    have:=hrec he
    rw [eO] at this
    exact this
def atO (O:List Int) (B:List Nat):List Nat:=O.map fun j=>B.getD j.toNat 0
theorem DC {O:List Int} {B:List Nat} {k:Nat} (h:k<O.length):(atO O B).getD k 0=B.getD O[k].toNat 0:=by unfold atO;simp [h]
theorem CD {O:List Int} {B:List Nat} {k a n:Nat} (hn:O.Nodup) (hO:∀ j∈O,0≤j∧j<n) (hB:B.length=n) (h:k<O.length):atO O (B.set O[k].toNat a)=(atO O B).set k a:=by
 unfold atO
 refine List.ext_getElem (by simp) fun i h1 h2=>?_
 rw [List.length_map] at h1
 rw [List.getElem_map,List.getElem_set,List.getElem_map]
 have hj:=hO _ (List.getElem_mem h)
 have hi:=hO _ (List.getElem_mem h1)
 by_cases e:k=i
 ·subst e
  rw [if_pos rfl,tf (by omega)]
 ·rw [if_neg e,uR]
  intro e2
  exact e (rP hn h h1 (by omega))
theorem EF (hN:1073741824≤N) {ls:aK} {O:List Int} (hO:OrdOk ls O ls.length) (hb:∀ l∈ls,l.length≤1000000):∀ (m:Nat) (B:List Nat) (most:Int) (out:List Int) (s k:Nat),B.length=ls.length→LInv (lsO ls O) (atO O B) most out s→kY (lsO ls O) (atO O B)<m→m≤k→out.length+m≤1073741824→s+m≤1073741824 →
  c6 N k ls out O (cz B) ((s % (lsO ls O).length:Nat):Int) most (s:Int)=some ((fV (lsO ls O) m (atO O B) most out s).1,((fV (lsO ls O) m (atO O B) most out s).2:Int)):=by
 have hLO:(lsO ls O).length=O.length:=by unfold lsO;rw [List.length_map]
 intro m
 induction m with
 | zero=>intro B most out s k _ _ h;omega
 | succ m ih =>
  intro B most out s k hB I h hmk h1 h2
  obtain ⟨k,rfl⟩:∃ g,k=g+1:=⟨k-1,by omega⟩
  obtain ⟨hk,ha,hgt,hle,_,hstep⟩:=rz I
  have hkO:s % (lsO ls O).length<O.length:=by rw [← hLO];exact hk
  have hj:=hO.bd _ (List.getElem_mem hkO)
  have hjB:O[s % (lsO ls O).length].toNat<B.length:=by omega
  have hjl:O[s % (lsO ls O).length].toNat<ls.length:=by omega
  have ej:(O[s % (lsO ls O).length]:Int)=((O[s % (lsO ls O).length].toNat:Nat):Int):=by omega
  have eL:ls.getD O[s % (lsO ls O).length].toNat []=lkL (lsO ls O) s:=(tY hkO).symm
  have eP:B.getD O[s % (lsO ls O).length].toNat 0=lkP (lsO ls O) (atO O B) s:=(DC hkO).symm
  have hkA:s % (lsO ls O).length<(atO O B).length:=by rw [I.len];exact hk
  have ha':lkP (lsO ls O) (atO O B) s<(lkL (lsO ls O) s).length:=ha
  have hle':lkA (lsO ls O) (atO O B) most s≤(lkL (lsO ls O) s).length:=hle
  have hlb':(lkL (lsO ls O) s).length≤1000000:=by rw [← eL];exact hb _ (fo hjl)
  have hset:O[s % (lsO ls O).length].toNat<(B.set O[s % (lsO ls O).length].toNat (lkA (lsO ls O) (atO O B) most s)).length:=by rw [List.length_set];exact hjB
  have eset:=CD (a:=lkA (lsO ls O) (atO O B) most s) hO.nd hO.bd hB hkO
  have hmod:((s % (lsO ls O).length+1:Nat):Int).tmod (O.length:Int)=((s+1) % (lsO ls O).length:Nat):=by
   rw [← hLO,← Int.ofNat_tmod]
   congr 1
   rw [Nat.add_mod s 1]
   simp
  have hrec:¬ lkA (lsO ls O) (atO O B) most s=(lkL (lsO ls O) s).length→c6 N k ls (lkO (lsO ls O) (atO O B) most out s) O (cz (B.set O[s % (lsO ls O).length].toNat (lkA (lsO ls O) (atO O B) most s))) (((s+1) % (lsO ls O).length:Nat):Int) ((lkL (lsO ls O) s).getD (lkA (lsO ls O) (atO O B) most s) 0) ((s+1:Nat):Int)=some ((fV (lsO ls O) (m+1) (atO O B) most out s).1,((fV (lsO ls O) (m+1) (atO O B) most out s).2:Int)):=fun hne=>by
   have hr:=pZ (lsO ls O) (atO O B) (s % (lsO ls O).length) (lkA (lsO ls O) (atO O B) most s) hk I.len (by
    have h4:lkP (lsO ls O) (atO O B) s<lkA (lsO ls O) (atO O B) most s:=hgt
    show (lkL (lsO ls O) s).length-lkA (lsO ls O) (atO O B) most s<(lkL (lsO ls O) s).length-lkP (lsO ls O) (atO O B) s
    omega)
   have hol:=yP (lsO ls O) (atO O B) most out s
   have hI:=hstep hne
   rw [ih (B.set O[s % (lsO ls O).length].toNat (lkA (lsO ls O) (atO O B) most s)) _ _ (s+1) k (by rw [List.length_set];exact hB) (by rw [eset];exact hI) (by rw [eset];omega) (by omega) (by omega) (by omega),eset,fV,if_neg hne]
  have hend:lkA (lsO ls O) (atO O B) most s=(lkL (lsO ls O) s).length→(fV (lsO ls O) (m+1) (atO O B) most out s)=(lkO (lsO ls O) (atO O B) most out s,s+1):=fun he=>by rw [fV,if_pos he]
  have hOp:0<O.length:=by omega
  have hms:s % (lsO ls O).length≤s:=Nat.mod_le _ _
  rw [c6,aR hkO,bs,ej,ixR hjl,bs,pX hjB,bs,eL,eP,ixD ha',bs,ad1 (by omega),bs]
  by_cases e:(lkL (lsO ls O) s).getD (lkP (lsO ls O) (atO O B) s) 0=most
  ·have eA:lkA (lsO ls O) (atO O B) most s=lkP (lsO ls O) (atO O B) s+1:=if_pos e
   have eO:lkO (lsO ls O) (atO O B) most out s=out++[most]:=if_pos e
   rw [e,show (most == most)=true by simp,cond_true,bu (by decide) (by simp;omega),bs,bs,ad1 (by omega),bs,bs,uA hjB,bs,← eA,← eO,pX hset,bs,tf hjB,bs,nN]
   by_cases he:lkA (lsO ls O) (atO O B) most s=(lkL (lsO ls O) s).length
   ·rw [decide_eq_true he,cond_true,hend he]
   ·rw [decide_eq_false he,cond_false,bs,bs,ixD (show lkA (lsO ls O) (atO O B) most s<(lkL (lsO ls O) s).length by omega),bs,ad1 (by omega),bs,sf (by omega),bs,hmod]
    exact hrec he
  ·have eA:lkA (lsO ls O) (atO O B) most s=d5 (lkL (lsO ls O) s) (lkP (lsO ls O) (atO O B) s) most:=if_neg e
   have eO:lkO (lsO ls O) (atO O B) most out s=out:=if_neg e
   rw [show ((lkL (lsO ls O) s).getD (lkP (lsO ls O) (atO O B) s) 0 == most)=false by simpa using e,cond_false,bs,bs,su hN (by omega) (by omega),bs,bs,← eA,uA hjB,bs,pX hset,bs,tf hjB,bs,nN]
   by_cases he:lkA (lsO ls O) (atO O B) most s=(lkL (lsO ls O) s).length
   ·rw [decide_eq_true he,cond_true,hend he,eO]
   ·rw [decide_eq_false he,cond_false,bs,bs,ixD (show lkA (lsO ls O) (atO O B) most s<(lkL (lsO ls O) s).length by omega),bs,ad1 (by omega),bs,sf (by omega),bs,hmod]
    have:=hrec he
    rw [eO] at this
    exact this
theorem w6 (n:Nat):List.replicate n (0:Int)=cz (eR n):=by unfold cz eR;rw [List.map_replicate];rfl
theorem rr {O:List Int} {n:Nat} (h:O.length=n):atO O (eR n)=eR n:=by
 unfold atO eR
 refine List.ext_getElem (by simp [h]) fun i h1 h2=>?_
 rw [List.getElem_map,List.getElem_replicate]
 exact tD n _
theorem nJ (hN:1073741824≤N) {ls:aK} (hl:ls.length≤1000) (hb:∀ l∈ls,l.length≤1000000):fK N ls=some (km ls):=by
 have hok:dN ls:=⟨by omega,fun l h=>⟨by have:=hb l h;omega,fun _ _=>trivial⟩⟩
 unfold fK km
 rw [sx hN hok,bs]
 cases h1:gB ls with
 | false=>rfl
 | true =>
  rw [cond_true,o3 hN (by omega),bs,Bool.true_and]
  cases h2:(shT ls ls.length == 0) with
  | true=>rfl
  | false =>
   obtain ⟨I,hne⟩:=pz (ls:=ls) (by rw [h1,h2];rfl)
   have hpos:=I.pos
   have hlen:=si ls
   have hrem:=ot (lsO ls (cO ls ls.length)) 1000000 ls.length fun l hl=>hb l (jF.1 hl)
   rw [hlen] at hrem
   have hmul:=Nat.mul_le_mul_right 1000000 hl
   have h1p:0<((lsO ls (cO ls ls.length)).getD (ls.length-1) []).length:=hne _ (jF.1 (fo (by omega)))
   rw [cond_false,Bool.not_false,cond_true,Ck hN hne hl,bs,lpB]
   show ((mk 8 (0:Int) ((lsO ls (cO ls ls.length)).length:Int)).bind _)=_
   rw [hlen,qb (by decide) (by omega),bs,w6,dT (by omega) (by omega),bs,show ((ls.length:Int)-1)=((ls.length-1:Nat):Int) by omega,ixR (by omega),bs,ixH h1p,bs]
   have:=ED hN (Ls:=lsO ls (cO ls ls.length)) (fun l h=>hb l (jF.1 h)) (kY (lsO ls (cO ls ls.length)) (eR ls.length)+1) (eR ls.length) _ [] 0 N I (by omega) (by omega) (by simp;omega) (by omega)
   exact this
theorem nK (hN:1073741824≤N) {ls:aK} (hl:ls.length≤1000) (hb:∀ l∈ls,l.length≤1000000):ek N ls=some (km ls):=by
 have hok:dN ls:=⟨by omega,fun l h=>⟨by have:=hb l h;omega,fun _ _=>trivial⟩⟩
 unfold ek km
 rw [Aw hN hok,bs]
 cases h1:gB ls with
 | false=>rfl
 | true =>
  rw [cond_true,oY hN (by omega),bs,Bool.true_and]
  cases h2:(shT ls ls.length == 0) with
  | true=>rfl
  | false =>
   obtain ⟨I,hne⟩:=pz (ls:=ls) (by rw [h1,h2];rfl)
   have hpos:=I.pos
   have hlen:=si ls
   have ho:=mC ls ls.length
   have hol:=ho.len
   have hrem:=ot (lsO ls (cO ls ls.length)) 1000000 ls.length fun l hl=>hb l (jF.1 hl)
   rw [hlen] at hrem
   have hmul:=Nat.mul_le_mul_right 1000000 hl
   have hlast:ls.length-1<(cO ls ls.length).length:=by omega
   have hj:=ho.bd _ (List.getElem_mem hlast)
   have eL:ls.getD (cO ls ls.length)[ls.length-1].toNat []=(lsO ls (cO ls ls.length)).getD (ls.length-1) []:=(tY hlast).symm
   have h1p:0<((lsO ls (cO ls ls.length)).getD (ls.length-1) []).length:=hne _ (jF.1 (fo (by omega)))
   rw [cond_false,Bool.not_false,cond_true,yg hN hne hl,bs,qb (by decide) (by omega),bs,w6,hol,dT (by omega) (by omega),bs,show ((ls.length:Int)-1)=((ls.length-1:Nat):Int) by omega,aR hlast,bs,ixL hj,bs,eL,ixH h1p,bs]
   have hI:LInv (lsO ls (cO ls ls.length)) (atO (cO ls ls.length) (eR ls.length)) (fX ((lsO ls (cO ls ls.length)).getD (ls.length-1) [])) [] 0:=by rw [rr hol];exact I
   have:=EF hN ho hb (kY (lsO ls (cO ls ls.length)) (eR ls.length)+1) (eR ls.length) _ [] 0 N (by simp [eR]) hI (by rw [rr hol];omega) (by omega) (by simp;omega) (by omega)
   rw [rr hol,Nat.zero_mod] at this
   exact this
end
theorem B1 {A:List Nat} {k:Nat} (h:k<A.length):A.getD k 0=A[k]:=by simp [h]
def fj (atoms:List aY) (i:Nat):aY:=atoms.getD i (ByteArray.empty,[])
theorem fU {atoms:List aY} {i:Nat} (h:i<atoms.length):fj atoms i=atoms[i]:=by unfold fj;simp [h]
def ku (atoms:List aY) (v:Int) (n:Nat):List Nat:=(List.range' 0 n).filter fun i=>decide (v∈(fj atoms i).2)
def jy (atoms:List aY) (v:Int):List Nat:=ku atoms v atoms.length
def fG (vs order p:List Int) (n:Nat):List Int:=((List.range' 0 n).filter fun k=>decide (order.getD k 0∈vs)).map fun k=>p.getD k 0
def kZ (vs order p:List Int):List Int:=fG vs order p p.length
def atV (ts:List be) (order:List Int) (atoms:List aY) (p:List Int) (i:Nat):List Int :=
 kL (il ts order (fj atoms i)).1 (il ts order (fj atoms i)).2 (kZ (fj atoms i).2 order p)
def eD (ts:List be) (order:List Int) (atoms:List aY) (p:List Int):aK:=(jy atoms (order.getD p.length 0)).map (atV ts order atoms p)
theorem vo (atoms:List aY) (v:Int) (n:Nat):ku atoms v (n+1)=bif decide (v∈(fj atoms n).2) then ku atoms v n++[n] else ku atoms v n:=by
 unfold ku
 rw [List.range'_concat,List.filter_append]
 simp only [Nat.zero_add,Nat.one_mul,List.filter_cons,List.filter_nil]
 cases decide (v∈(fj atoms n).2) <;> simp
theorem pv (atoms:List aY) (v:Int) (n:Nat):(ku atoms v n).length≤n:=by
 unfold ku
 refine Nat.le_trans (List.length_filter_le _ _) ?_
 simp
theorem ly {atoms:List aY} {v:Int} {i:Nat}:i∈jy atoms v↔i<atoms.length∧v∈(fj atoms i).2:=by
 unfold jy ku
 rw [List.mem_filter,decide_eq_true_eq]
 simp
theorem jQ (vs order p:List Int) (n:Nat):fG vs order p (n+1)=bif decide (order.getD n 0∈vs) then fG vs order p n++[p.getD n 0] else fG vs order p n:=by
 unfold fG
 rw [List.range'_concat,List.filter_append,List.map_append]
 simp only [Nat.zero_add,Nat.one_mul,List.filter_cons,List.filter_nil]
 cases decide (order.getD n 0∈vs) <;> simp
theorem wX (vs order p:List Int) (n:Nat):(fG vs order p n).length≤n:=by
 unfold fG
 rw [List.length_map]
 refine Nat.le_trans (List.length_filter_le _ _) ?_
 simp
theorem vG {ts:List be} {order:List Int} {atoms:List aY} {i:Nat} (h:i<atoms.length):ix (bC ts order atoms) (i:Int)=some (il ts order (fj atoms i)):=by
 rw [aR (by rw [lY];exact h)]
 unfold bC
 rw [List.getElem_map,fU h]
theorem th {atoms:List aY} {i:Nat} (h:i<atoms.length):fj atoms i∈atoms:=by rw [fU h];exact List.getElem_mem h
theorem vM {atoms:List aY} (ha:cW atoms) {i:Nat} (h:i<atoms.length):okI (fj atoms i).2:=by rw [fU h];exact lB ha h
theorem xD {atoms:List aY} {i:Nat} (h:i<atoms.length):ix atoms (i:Int)=some (fj atoms i):=by rw [aR h,fU h]
theorem nE (ts:List be) (order:List Int) (atoms:List aY) (p:List Int):(eD ts order atoms p).length≤atoms.length:=by
 unfold eD;rw [List.length_map];exact pv _ _ _
theorem gU {ts:List be} {n:Nat} {atoms:List aY} {order p:List Int} (q:QFor ts n atoms order):∀ l∈eD ts order atoms p,l.length≤16∧fL l∧∀ v∈l,0≤v∧v≤99:=by
 intro l hl
 obtain ⟨i,hi,rfl⟩:=List.mem_map.1 hl
 have hm:=th (ly.1 hi).1
 obtain ⟨_,_,g3,g4,_⟩:=mL q hm
 unfold atV
 exact ⟨Nat.le_trans (vK _ _ _) g4,AS g3,zx g3⟩
theorem uz {ts:List be} {n:Nat} {atoms:List aY} {order p:List Int} (q:QFor ts n atoms order) (hp:p.length<n):gB (eD ts order atoms p)=true:=by
 unfold gB
 rw [Bool.and_eq_true,List.all_eq_true,decide_eq_true_eq]
 refine ⟨fun l hl=>tw (gU q l hl).2.1,?_⟩
 have ho:=(iw q.os).2 (order.getD p.length 0) (by rw [bk (by rw [q.ol];exact hp)];exact List.getElem_mem _)
 obtain ⟨a,ha,hv⟩:=q.cov (order.getD p.length 0) (by omega) (by omega)
 obtain ⟨i,hi,rfl⟩:=List.getElem_of_mem ha
 unfold eD
 rw [List.length_map]
 exact List.length_pos_of_mem (ly.2 ⟨hi,by rw [fU hi];exact hv⟩)
section
variable {N:Nat}
theorem En (hN:1073741824≤N) {t1:List oE} {order p vs:List Int} {s:ByteArray} {b1:aK} {b2 b5 b6:Int} {b4:List aY} (hv:okI vs) (hp:p.length≤1000) (ho:p.length≤order.length) :
  c4 N N t1 order p b1 b2 s vs [] b4 b5 b6 p (p.length:Int) 0=some (kZ vs order p,(p.length:Int)) :=
 dK (fun k (o:List Int) i=>c4 N k t1 order p b1 b2 s vs o b4 b5 b6 p (p.length:Int) i) p.length (fG vs order p) (kZ vs order p,(p.length:Int))
  (fun k i h=>by
   have hl:=wX vs order p i
   show c4 N (k+1) t1 order p b1 b2 s vs (fG vs order p i) b4 b5 b6 p (p.length:Int) (i:Int)=c4 N k t1 order p b1 b2 s vs (fG vs order p (i+1)) b4 b5 b6 p (p.length:Int) ((i+1:Nat):Int)
   rw [c4,dlt h,cond_true,ixD h,bs,ixD (show i<order.length by omega),bs,iG hN hv,bs,ad1 (by omega),jQ]
   cases decide (order.getD i 0∈vs) with
   | true=>rw [cond_true,cond_true,bu (by decide) (by simp;omega),bs,bs]
   | false=>rw [cond_false,cond_false,bs])
  (fun k=>by
   show c4 N (k+1) t1 order p b1 b2 s vs (fG vs order p p.length) b4 b5 b6 p (p.length:Int) (p.length:Int)=_
   rw [c4,dge (by omega),cond_false];rfl) N 0 (by omega) (by omega)
theorem wt (hN:1073741824≤N) {ts:List be} {n:Nat} {m:Int} {atoms:List aY} {out order p:List Int} (q:QFor ts n atoms order) (ha:cW atoms) (hp:p.length<n) :
  jz N m atoms out (bC ts order atoms) order p=some (eD ts order atoms p):=by
 have hn5:=q.n5
 have hol:=q.ol
 have h4:=q.a4
 have h:=dK (fun k (o:aK) i=>cZ N k (bC ts order atoms) order p o atoms (atoms.length:Int) i) atoms.length (fun i=>(ku atoms (order.getD p.length 0) i).map (atV ts order atoms p)) (eD ts order atoms p,(atoms.length:Int))
  (fun k i h=>by
   have hl:=pv atoms (order.getD p.length 0) i
   have hm:=List.getElem_mem h
   obtain ⟨_,_,g3,_,_⟩:=mL q (th h)
   show cZ N (k+1) (bC ts order atoms) order p ((ku atoms (order.getD p.length 0) i).map (atV ts order atoms p)) atoms (atoms.length:Int) (i:Int)=cZ N k (bC ts order atoms) order p ((ku atoms (order.getD p.length 0) (i+1)).map (atV ts order atoms p)) atoms (atoms.length:Int) ((i+1:Nat):Int)
   rw [cZ,dlt h,cond_true,xD h,bs,ixD (show p.length<order.length by omega),bs,iG hN (vM ha h),bs,ad1 (by omega),vo]
   cases decide (order.getD p.length 0∈(fj atoms i).2) with
   | true =>
    rw [cond_true,cond_true,En hN (vM ha h) (by omega) (by omega),bs,lpB]
    show ((ix (bC ts order atoms) (i:Int)).bind _)=_
    rw [vG h,bs,pQ hN g3,bs,bu (by decide) (by rw [List.length_map,List.length_singleton];omega),bs,bs,List.map_append];rfl
   | false=>rw [cond_false,cond_false,bs])
  (fun k=>by
   show cZ N (k+1) (bC ts order atoms) order p ((ku atoms (order.getD p.length 0) atoms.length).map (atV ts order atoms p)) atoms (atoms.length:Int) (atoms.length:Int)=_
   rw [cZ,dge (by omega),cond_false];rfl) N 0 (by omega) (by omega)
 have h':cZ N N (bC ts order atoms) order p [] atoms (atoms.length:Int) 0=_:=h
 unfold jz
 rw [h',bs,lpB]
theorem pY (hN:1073741824≤N) {n:Int} {atoms:List aY} {out:List Int} {v:Int} (ha:cW atoms) (ho:okI out) (hq:eN n atoms out=true) :
  fJ N n atoms out v=some (cz (jy atoms v)):=by
 have h4:=(oz hq).2.2.2
 have h:=dK (fun k (o:List Int) i=>bU N k v n atoms out o i) atoms.length (fun i=>cz (ku atoms v i)) (cz (jy atoms v),(atoms.length:Int))
  (fun k i h=>by
   have hl:=pv atoms v i
   have hcl:=zZ (ku atoms v i)
   show bU N (k+1) v n atoms out (cz (ku atoms v i)) (i:Int)=bU N k v n atoms out (cz (ku atoms v (i+1))) ((i+1:Nat):Int)
   rw [bU,dlt h,cond_true,im hN ha ho,bs,hq,cond_true,aR h,bs,gg hN (lB ha h),bs,ad1 (by omega),vo,fU h]
   cases decide (v∈atoms[i].2) with
   | true =>
    rw [cond_true,cond_true,bu (by decide) (by simp;omega),bs,bs]
    unfold cz
    rw [List.map_append];rfl
   | false=>rw [cond_false,cond_false,bs])
  (fun k=>by
   show bU N (k+1) v n atoms out (cz (ku atoms v atoms.length)) (atoms.length:Int)=_
   rw [bU,dge (by omega),cond_false];rfl) N 0 (by omega) (by omega)
 have h':bU N N v n atoms out [] 0=_:=h
 unfold fJ
 rw [h',bs,lpB]
theorem w5 (hN:1073741824≤N) {order p vs:List Int} {s:ByteArray} (hv:okI vs) (hp:p.length≤1000) (ho:p.length≤order.length):iE N s vs order p=some (kZ vs order p):=by
 have h:=dK (fun k (o:List Int) i=>c3 N k order p s vs o i) p.length (fG vs order p) (kZ vs order p,(p.length:Int))
  (fun k i h=>by
   have hl:=wX vs order p i
   show c3 N (k+1) order p s vs (fG vs order p i) (i:Int)=c3 N k order p s vs (fG vs order p (i+1)) ((i+1:Nat):Int)
   rw [c3,dlt h,cond_true,ixD (show i<order.length by omega),bs,gg hN hv,bs,ad1 (by omega),ixD h,jQ]
   cases decide (order.getD i 0∈vs) with
   | true=>rw [cond_true,cond_true,bs,bu (by decide) (by simp;omega),bs,bs]
   | false=>rw [cond_false,cond_false,bs])
  (fun k=>by
   show c3 N (k+1) order p s vs (fG vs order p p.length) (p.length:Int)=_
   rw [c3,dge (by omega),cond_false];rfl) N 0 (by omega) (by omega)
 have h':c3 N N order p s vs [] 0=_:=h
 unfold iE
 rw [h',bs,lpB]
theorem DS (hN:1073741824≤N) {ts:List be} {n:Nat} {atoms:List aY} {order p:List Int} (q:QFor ts n atoms order) (ha:cW atoms) (hp:p.length<n) {i:Nat} (h:i<atoms.length) :
  iE N (fj atoms i).1 (fj atoms i).2 order p=some (kZ (fj atoms i).2 order p)∧gk N (il ts order (fj atoms i)).1 (il ts order (fj atoms i)).2 (kZ (fj atoms i).2 order p)=some (atV ts order atoms p i):=by
 have hn5:=q.n5
 have hol:=q.ol
 obtain ⟨_,_,g3,_,_⟩:=mL q (th h)
 refine ⟨w5 hN ?_ (by omega) (by omega),pW hN g3⟩
 rw [fU h];exact lB ha h
theorem qr {α β:Type} {xs:List α} {f:α→β} {i:Nat} (h:i<xs.length):(xs.take (i+1)).map f=(xs.take i).map f++[f xs[i]]:=by
 rw [List.take_succ_eq_append_getElem h,List.map_append];rfl
theorem zc (hN:1073741824≤N) {ts:List be} {n:Nat} {atoms:List aY} {out order p:List Int} (q:QFor ts n atoms order) (ha:cW atoms) (ho:okI out) (hq:eN (n:Int) atoms out=true) (hp:p.length<n) :
  kC N (bC ts order atoms) (n:Int) atoms out order p=some (km (eD ts order atoms p)):=by
 have hol:=q.ol
 have h4:=q.a4
 have hil:=pv atoms (order.getD p.length 0) atoms.length
 have hcl:=zZ (jy atoms (order.getD p.length 0))
 have hil':(jy atoms (order.getD p.length 0)).length≤atoms.length:=hil
 have h:=dK (fun k (o:aK) i=>d7 N k (bC ts order atoms) order p (n:Int) atoms out (cz (jy atoms (order.getD p.length 0))) o i) (jy atoms (order.getD p.length 0)).length (fun i=>((jy atoms (order.getD p.length 0)).take i).map (atV ts order atoms p)) (eD ts order atoms p,((jy atoms (order.getD p.length 0)).length:Int))
  (fun k i h=>by
   have hc:=pX h
   rw [B1 h] at hc
   have hi:=(ly.1 (List.getElem_mem h)).1
   obtain ⟨o1,o2⟩:=DS hN q ha hp hi
   show d7 N (k+1) (bC ts order atoms) order p (n:Int) atoms out (cz (jy atoms (order.getD p.length 0))) (((jy atoms (order.getD p.length 0)).take i).map (atV ts order atoms p)) (i:Int)=d7 N k (bC ts order atoms) order p (n:Int) atoms out (cz (jy atoms (order.getD p.length 0))) (((jy atoms (order.getD p.length 0)).take (i+1)).map (atV ts order atoms p)) ((i+1:Nat):Int)
   rw [d7,hcl,dlt h,cond_true,hc,bs,vG hi,bs,bs,xD hi,bs,o1,bs,o2,bs,bu (by decide) (by rw [List.length_map,List.length_take,List.length_singleton];omega),bs,ad1 (by omega),bs,qr h])
  (fun k=>by
   show d7 N (k+1) (bC ts order atoms) order p (n:Int) atoms out (cz (jy atoms (order.getD p.length 0))) (((jy atoms (order.getD p.length 0)).take (jy atoms (order.getD p.length 0)).length).map (atV ts order atoms p)) ((jy atoms (order.getD p.length 0)).length:Int)=_
   rw [d7,hcl,dge (by omega),cond_false,List.take_length];rfl) N 0 (by omega) (by omega)
 have h':d7 N N (bC ts order atoms) order p (n:Int) atoms out (cz (jy atoms (order.getD p.length 0))) [] 0=_:=h
 have hll:=nE ts order atoms p
 unfold kC
 rw [ixD (show p.length<order.length by omega),bs,pY hN ha ho hq,bs,h',bs,lpB]
 show ((ek N (eD ts order atoms p)).bind _)=_
 rw [nK hN (by omega) (fun l hl=>by have:=(gU q l hl).1;omega),bs]
end
def tG (ls:aK) (sh v:Int) (i:Nat):Bool:=((i:Int) == sh)||decide (v∈ls.getD i [])
theorem Cy (ls:aK) (sh v:Int):∀ m j c,(inF ls sh v j m (c,true)).2=(List.range' j m).all (tG ls sh v):=by
 intro m
 induction m with
 | zero=>intro j c;rfl
 | succ m ih =>
  intro j c
  rw [tB,List.range'_succ,List.all_cons]
  unfold sZ tG
  by_cases e:(j:Int)=sh
  ·rw [show ((j:Int) != sh)=false by simpa using e,show ((j:Int) == sh)=true by simpa using e,Bool.and_false,cond_false,Bool.true_or,Bool.true_and]
   exact ih (j+1) c
  ·rw [show ((j:Int) != sh)=true by simpa using e,show ((j:Int) == sh)=false by simpa using e,Bool.and_true,cond_true,Bool.false_or]
   cases decide (v∈ls.getD j []) with
   | true=>rw [Bool.true_and];exact ih (j+1) (c+1)
   | false=>rw [A6];rfl
def rN (ls:aK) (sh v:Int):Bool:=(List.range' 0 ls.length).all (tG ls sh v)
theorem B9 {ls:aK} {sh:Int} {vs:List Int}:∀ i,i≤vs.length →
  ((List.range' 0 i).foldl (fun s i=>rT ls sh vs i s) ([],0)).1=(vs.take i).filter (rN ls sh)∧0≤((List.range' 0 i).foldl (fun s i=>rT ls sh vs i s) ([],0)).2∧((List.range' 0 i).foldl (fun s i=>rT ls sh vs i s) ([],0)).2≤((i*ls.length:Nat):Int):=by
 intro i
 induction i with
 | zero=>intro _;exact ⟨rfl,Int.le_refl _,by simp⟩
 | succ i ih =>
  intro hi
  obtain ⟨h1,h2,h3⟩:=ih (by omega)
  rw [List.range'_concat,List.foldl_append]
  simp only [Nat.zero_add,Nat.one_mul,List.foldl_cons,List.foldl_nil]
  generalize (List.range' 0 i).foldl (fun s i=>rT ls sh vs i s) ([],0)=s at h1 h2 h3 ⊢
  have hb:=Ed ls sh (vs.getD i 0) ls.length 0 (s.2,true)
  have ha:=Cy ls sh (vs.getD i 0) ls.length 0 s.2
  unfold rT
  simp only []
  rw [List.take_succ_eq_append_getElem (by omega),List.filter_append,ha,h1,bk (by omega)]
  rw [bk (by omega)] at hb
  have hm:(((i+1)*ls.length:Nat):Int)=((i*ls.length:Nat):Int)+(ls.length:Int):=by rw [Nat.succ_mul];omega
  simp only [] at hb
  refine ⟨?_,by omega,by rw [hm];omega⟩
  show (bif rN ls sh vs[i] then _ else _)=_
  cases hc:rN ls sh vs[i] <;> simp [hc]
theorem oQ {ls:aK} {B:Nat} (hB:∀ l∈ls,l.length≤B):fL (mi ls).1∧(∀ x∈(mi ls).1,∀ l∈ls,x∈l)∧0≤(mi ls).2∧(mi ls).2≤((B*ls.length:Nat):Int)∧(gB ls=true→∀ x,(∀ l∈ls,x∈l)→x∈(mi ls).1):=by
 unfold mi
 cases ha:gB ls with
 | false=>exact ⟨List.Pairwise.nil,by simp,Int.le_refl _,by simp only [cond_false];omega,fun h=>by cases h⟩
 | true =>
  unfold gB at ha
  rw [Bool.and_eq_true,List.all_eq_true,decide_eq_true_eq] at ha
  have hin:=A7 ha.2
  have hs:(kx ls).toNat<ls.length:=by omega
  have hvm:=fo hs
  obtain ⟨h1,h2,h3⟩:=B9 (ls:=ls) (sh:=kx ls) (vs:=ls.getD (kx ls).toNat []) (ls.getD (kx ls).toNat []).length (Nat.le_refl _)
  rw [List.take_length] at h1
  rw [cond_true,h1]
  have hl:=hB _ hvm
  have hmul:=Nat.mul_le_mul_right ls.length hl
  refine ⟨List.Pairwise.filter _ (pJ (ha.1 _ hvm)),fun x hx l hl=>?_,h2,by omega,fun _ x hx=>?_⟩
  ·rw [List.mem_filter] at hx
   obtain ⟨i,hi,rfl⟩:=List.getElem_of_mem hl
   have h4:=hx.2
   unfold rN at h4
   rw [List.all_eq_true] at h4
   have h5:=h4 i (by simp;omega)
   unfold tG at h5
   rw [Bool.or_eq_true,beq_iff_eq,decide_eq_true_eq] at h5
   rcases h5 with h5 | h5
   ·have:(kx ls).toNat=i:=by omega
    rw [this,dL hi] at hx;exact hx.1
   ·rwa [dL hi] at h5
  ·rw [List.mem_filter]
   refine ⟨hx _ hvm,?_⟩
   unfold rN
   rw [List.all_eq_true]
   intro i hi
   have hi':i<ls.length:=by simp at hi;omega
   unfold tG
   rw [decide_eq_true (hx _ (fo hi')),Bool.or_true]
def bb (ts:List be) (order:List Int) (atoms:List aY):Nxt:=fun p=>km (eD ts order atoms p)
def ug (ts:List be) (order:List Int) (atoms:List aY):Nxt:=fun p=>mi (eD ts order atoms p)
theorem zy {xs:List Int} (h:fL xs):xs.Nodup:=List.Pairwise.imp (fun {a b} (hab:a<b) (e:a=b)=>by omega) h
theorem vP {ls:aK} {xs:List Int} (h:∀ l∈ls,l.length≤16∧fL l∧∀ v∈l,0≤v∧v≤99) (ha:fL xs) (hx:∀ x∈xs,∀ l∈ls,x∈l) (he:ls=[]→xs=[]):xs.length≤16∧∀ v∈xs,0≤v∧v≤99:=by
 cases ls with
 | nil=>rw [he rfl];simp
 | cons l ls =>
  obtain ⟨h1,_,h3⟩:=h l List.mem_cons_self
  refine ⟨Nat.le_trans (uh xs l (zy ha) fun x hx'=>hx x hx' l List.mem_cons_self) h1,fun v hv=>h3 v (hx v hv l List.mem_cons_self)⟩
theorem zL:(km []).1=[]:=rfl
theorem y4:(mi []).1=[]:=rfl
theorem jo {ts:List be} {n:Nat} {atoms:List aY} {order:List Int} (q:QFor ts n atoms order):NxtOk (bb ts order atoms):=by
 have h4:=q.a4
 have key:=fun p=>pB (ls:=eD ts order atoms p) (B:=16) fun l hl=>(gU q l hl).1
 have com:=fun p=>vP (fun l hl=>gU q (p:=p) l hl) (key p).1 (key p).2.1 fun e=>by rw [e];exact zL
 have hll:=fun p=>nE ts order atoms p
 refine ⟨fun p=>(com p).1,fun p=>(key p).1,fun p=>(com p).2,fun p=>(key p).2.2.1,fun p=>?_⟩
 have h1:=(key p).2.2.2.1
 have h2:=hll p
 show (km (eD ts order atoms p)).2≤1000
 omega
theorem Bp {ts:List be} {n:Nat} {atoms:List aY} {order:List Int} (q:QFor ts n atoms order):NxtOk (ug ts order atoms):=by
 have h4:=q.a4
 have key:=fun p=>oQ (ls:=eD ts order atoms p) (B:=16) fun l hl=>(gU q l hl).1
 have com:=fun p=>vP (fun l hl=>gU q (p:=p) l hl) (key p).1 (key p).2.1 fun e=>by rw [e];exact y4
 have hll:=fun p=>nE ts order atoms p
 refine ⟨fun p=>(com p).1,fun p=>(key p).1,fun p=>(com p).2,fun p=>(key p).2.2.1,fun p=>?_⟩
 have h1:=(key p).2.2.2.1
 have h2:=hll p
 show (mi (eD ts order atoms p)).2≤1000
 omega
theorem Ex {ts:List be} {n:Nat} {atoms:List aY} {order p:List Int} (q:QFor ts n atoms order) (hp:p.length<n):∀ x,x∈(bb ts order atoms p).1↔x∈(ug ts order atoms p).1:=by
 have ha:=uz q hp
 have k1:=pB (ls:=eD ts order atoms p) (B:=16) fun l hl=>(gU q l hl).1
 have k2:=oQ (ls:=eD ts order atoms p) (B:=16) fun l hl=>(gU q l hl).1
 exact fun x=>⟨fun h=>k2.2.2.2.2 ha x (k1.2.1 x h),fun h=>k1.2.2.2.2 ha x (k2.2.1 x h)⟩
theorem sO {α β:Type} {xs:List α} {g:α→List β} {i:Nat} (h:i<xs.length):(xs.take (i+1)).flatMap g=(xs.take i).flatMap g++g xs[i]:=by
 rw [List.take_succ_eq_append_getElem h,List.flatMap_append];simp
theorem tF {α:Type} {xs:List α} {g:α→Int} {i:Nat} (h:i<xs.length):((xs.take (i+1)).map g).sum=((xs.take i).map g).sum+g xs[i]:=by
 rw [qr h,List.sum_append];simp
theorem xz {f:Nxt} {rows:aK} {i:Nat} (h:i<rows.length):jM f (rows.take (i+1))=jM f (rows.take i)+(f rows[i]).2:=tF h
theorem vN (f:Nxt):∀ (m:Nat) (L:aK) (c:Int),ke f (m+1) L c=((ke f m L c).1.flatMap (oW f),(ke f m L c).2+jM f (ke f m L c).1)
 | 0,_,_=>rfl
 | m+1,L,c=>by
  rw [ke,vN f m];rfl
theorem wK:∀ {i:Nat},i≤5→mj i≤1000000000
 | 0,_=>by decide
 | 1,_=>by decide
 | 2,_=>by decide
 | 3,_=>by decide
 | 4,_=>by decide
 | 5,_=>by decide
section
variable {N:Nat}
theorem yd {xs:List Int} (h:xs.length≤1048576):dl N xs=some xs:=by
 unfold dl
 rw [kH (by decide) (by omega),bs]
theorem xl (hN:1073741824≤N) {t1:List oE} {order out p vs:List Int} {b1 b2 b3 b4 b5 b6:Int} {atoms:List aY} {next rows:aK} (hp:p.length≤1000) (hv:vs.length≤1000) (hn:next.length≤1073741824) :
  bm N N t1 order b1 b2 atoms out b3 b4 next p rows b5 b6 vs (vs.length:Int) 0=some (next++vs.map (fun v=>p++[v]),(vs.length:Int)):=by
 have h:=dK (fun k (o:aK) i=>bm N k t1 order b1 b2 atoms out b3 b4 o p rows b5 b6 vs (vs.length:Int) i) vs.length (fun i=>next++(vs.take i).map (fun v=>p++[v])) (next++vs.map (fun v=>p++[v]),(vs.length:Int))
  (fun k i h=>by
   show bm N (k+1) t1 order b1 b2 atoms out b3 b4 (next++(vs.take i).map (fun v=>p++[v])) p rows b5 b6 vs (vs.length:Int) (i:Int)=bm N k t1 order b1 b2 atoms out b3 b4 (next++(vs.take (i+1)).map (fun v=>p++[v])) p rows b5 b6 vs (vs.length:Int) ((i+1:Nat):Int)
   rw [bm,dlt h,cond_true,aR h,bs,yd (by omega),bs,bu (by decide) (by simp;omega),bs,bu (by decide) (by rw [List.length_append,List.length_map,List.length_take,List.length_singleton];omega),bs,ad1 (by omega),bs,qr h,List.append_assoc])
  (fun k=>by
   show bm N (k+1) t1 order b1 b2 atoms out b3 b4 (next++(vs.take vs.length).map (fun v=>p++[v])) p rows b5 b6 vs (vs.length:Int) (vs.length:Int)=_
   rw [bm,dge (by omega),cond_false,List.take_length]) N 0 (by omega) (by omega)
 rw [List.take_zero,List.map_nil,List.append_nil] at h
 exact h
theorem xi (hN:1073741824≤N) {ts:List be} {n:Nat} {m b1 b4 c:Int} {atoms:List aY} {out order:List Int} (q:QFor ts n atoms order) (ha:cW atoms) {rows:aK} {lv:Nat} (hlv:lv<n) (hrow:∀ r∈rows,r.length=lv) (hl:rows.length≤1048576) (hc:0≤c∧c≤1073741824) :
  bl N N (bC ts order atoms) order b1 m atoms out c b4 [] rows (rows.length:Int) 0=some (c+jM (bb ts order atoms) rows,rows.flatMap (oW (bb ts order atoms)),(rows.length:Int)):=by
 have hf:=jo q
 have hn5:=q.n5
 have h4:=q.a4
 have h:=dK (fun k (s:Int × aK) i=>bl N k (bC ts order atoms) order b1 m atoms out s.1 b4 s.2 rows (rows.length:Int) i) rows.length (fun i=>(c+jM (bb ts order atoms) (rows.take i),(rows.take i).flatMap (oW (bb ts order atoms)))) (c+jM (bb ts order atoms) rows,rows.flatMap (oW (bb ts order atoms)),(rows.length:Int))
  (fun k i h=>by
   have hr:=hrow _ (List.getElem_mem h)
   have hll:=nE ts order atoms rows[i]
   have hk:=hf.len rows[i];have h0:=hf.st0 rows[i];have h1:=hf.st1 rows[i]
   have hsb:=uC (g:=fun p=>((bb ts order atoms) p).2) hf.st0 hf.st1 (rows.take i)
   have hsb2:0≤jM (bb ts order atoms) (rows.take i)∧jM (bb ts order atoms) (rows.take i)≤(((rows.take i).length:Nat):Int)*1000:=hsb
   have hfl:=mV (BP hf) (rows.take i)
   rw [List.length_take] at hsb2 hfl
   show bl N (k+1) (bC ts order atoms) order b1 m atoms out (c+jM (bb ts order atoms) (rows.take i)) b4 ((rows.take i).flatMap (oW (bb ts order atoms))) rows (rows.length:Int) (i:Int)=bl N k (bC ts order atoms) order b1 m atoms out (c+jM (bb ts order atoms) (rows.take (i+1))) b4 ((rows.take (i+1)).flatMap (oW (bb ts order atoms))) rows (rows.length:Int) ((i+1:Nat):Int)
   rw [bl,dlt h,cond_true,aR h,bs,wt hN q ha (by omega),bs,nJ hN (by omega) (fun l hl=>by have:=(gU q l hl).1;omega),bs]
   show ((ad _ ((bb ts order atoms) rows[i]).2).bind fun x501=>(bm N N (bC ts order atoms) order b1 m atoms out x501 b4 _ rows[i] rows (rows.length:Int) (i:Int) ((bb ts order atoms) rows[i]).1 (((bb ts order atoms) rows[i]).1.length:Int) 0).bind _)=_
   rw [gX (by omega) (by omega),bs,xl hN (by omega) (by omega) (by omega),bs,lpB,sO h,xz h,← Int.add_assoc,ad1 (by omega)];rfl)
  (fun k=>by
   show bl N (k+1) (bC ts order atoms) order b1 m atoms out (c+jM (bb ts order atoms) (rows.take rows.length)) b4 ((rows.take rows.length).flatMap (oW (bb ts order atoms))) rows (rows.length:Int) (rows.length:Int)=_
   rw [bl,dge (by omega),cond_false,List.take_length]) N 0 (by omega) (by omega)
 have h':bl N N (bC ts order atoms) order b1 m atoms out (c+0) b4 [] rows (rows.length:Int) 0=_:=h
 rw [Int.add_zero] at h'
 exact h'
theorem xr (hN:1073741824≤N) {ts:List be} {n:Nat} {m:Int} {atoms:List aY} {out order:List Int} (q:QFor ts n atoms order) (ha:cW atoms) {len:Nat} (hlen:len≤n) :
  cB N m atoms out (bC ts order atoms) order (len:Int)=some ((bz (bb ts order atoms) len []).1,(bz (bb ts order atoms) len []).2,decide (((bz (bb ts order atoms) len []).1.length:Int)≤4000)):=by
 have hf:=jo q
 have hn5:=q.n5
 have h:=dK (fun k (s:aK × Int) i=>bw N k (bC ts order atoms) order (len:Int) m atoms out s.1 s.2 i) len (fun i=>ke (bb ts order atoms) i [[]] 0) ((ke (bb ts order atoms) len [[]] 0).1,(ke (bb ts order atoms) len [[]] 0).2,(len:Int))
  (fun k i h=>by
   have hw:=wI (bb ts order atoms) i
   have hl:=nj hf i []
   have hs:=mO hf i []
   have hp:16 ^ i≤16 ^ 5:=Nat.pow_le_pow_right (by decide) (by omega)
   have hb:=wK (show i≤5 by omega)
   show bw N (k+1) (bC ts order atoms) order (len:Int) m atoms out (ke (bb ts order atoms) i [[]] 0).1 (ke (bb ts order atoms) i [[]] 0).2 (i:Int)=bw N k (bC ts order atoms) order (len:Int) m atoms out (ke (bb ts order atoms) (i+1) [[]] 0).1 (ke (bb ts order atoms) (i+1) [[]] 0).2 ((i+1:Nat):Int)
   rw [vN,hw,bw,dlt h,cond_true,xi hN q ha (show i<n by omega) (fun r hr=>by obtain ⟨s,e1,e⟩:=kq hr;rw [e1];exact e) (by omega) (by omega),bs,lpB,ad1 (by omega)];rfl)
  (fun k=>by
   show bw N (k+1) (bC ts order atoms) order (len:Int) m atoms out (ke (bb ts order atoms) len [[]] 0).1 (ke (bb ts order atoms) len [[]] 0).2 (len:Int)=_
   rw [bw,dge (by omega),cond_false]) N 0 (by omega) (by omega)
 have h':bw N N (bC ts order atoms) order (len:Int) m atoms out [[]] 0 0=_:=h
 unfold cB
 rw [h',wI,bs,lpB]
theorem yW {ts:List be} {n:Nat} {atoms:List aY} {out order:List Int} (q:QFor ts n atoms order) (ha:cW atoms) (ho:okI out) (hq:eN (n:Int) atoms out=true) :
  ∀ (m:Nat) (M:Nat) (p:List Int),p.length+m=n→1073741824+m+1≤M→dn M (bC ts order atoms) (n:Int) atoms out order p=some (bz (bb ts order atoms) m p):=by
 have hf:=jo q
 have hn5:=q.n5
 have hol:=q.ol
 intro m
 induction m with
 | zero =>
  intro M p hp hM
  obtain ⟨M,rfl⟩:∃ K,M=K+1:=⟨M-1,by omega⟩
  rw [dn,show ((p.length:Int) == (order.length:Int))=true by simp;omega,cond_true,kH (by decide) (by omega),bs];rfl
 | succ m ih =>
  intro M p hp hM
  obtain ⟨M,rfl⟩:∃ K,M=K+1:=⟨M-1,by omega⟩
  have h0:=hf.st0 p;have h1:=hf.st1 p;have hk:=hf.len p
  rw [dn,show ((p.length:Int) == (order.length:Int))=false by simp;omega,cond_false,zc (by omega) q ha ho hq (by omega),bs]
  show ((dA (dn M) M M (bC ts order atoms) order p (n:Int) atoms out [] ((bb ts order atoms) p).1 ((bb ts order atoms) p).2 0).bind _)=_
  have h:=dK (fun k (s:aK × Int) i=>dA (dn M) M k (bC ts order atoms) order p (n:Int) atoms out s.1 ((bb ts order atoms) p).1 s.2 i) ((bb ts order atoms) p).1.length (fun i=>((((bb ts order atoms) p).1.take i).flatMap (fun v=>(bz (bb ts order atoms) m (p++[v])).1),((bb ts order atoms) p).2+((((bb ts order atoms) p).1.take i).map fun v=>(bz (bb ts order atoms) m (p++[v])).2).sum)) ((bz (bb ts order atoms) (m+1) p).1,(bz (bb ts order atoms) (m+1) p).2,(((bb ts order atoms) p).1.length:Int))
   (fun k i h=>by
    have hp16:16 ^ m≤16 ^ 5:=Nat.pow_le_pow_right (by decide) (by omega)
    have hw:=nj hf m (p++[((bb ts order atoms) p).1[i]])
    have hfl:=mV (g:=fun v=>(bz (bb ts order atoms) m (p++[v])).1) (fun v=>nj hf m _) (((bb ts order atoms) p).1.take i)
    have hst:=mO hf m (p++[((bb ts order atoms) p).1[i]])
    have hsb:=uC (g:=fun v=>(bz (bb ts order atoms) m (p++[v])).2) (fun v=>(mO hf m _).1) (fun v=>(mO hf m _).2) (((bb ts order atoms) p).1.take i)
    have hb:=wK (show m≤5 by omega)
    have hb0:=uU m
    rw [List.length_take] at hfl hsb
    have hmul:=Nat.mul_le_mul (show min i ((bb ts order atoms) p).1.length≤16 by omega) hp16
    have hmul2:((min i ((bb ts order atoms) p).1.length:Nat):Int)*mj m≤16*mj m:=Int.mul_le_mul_of_nonneg_right (by omega) hb0
    show dA (dn M) M (k+1) (bC ts order atoms) order p (n:Int) atoms out ((((bb ts order atoms) p).1.take i).flatMap (fun v=>(bz (bb ts order atoms) m (p++[v])).1)) ((bb ts order atoms) p).1 (((bb ts order atoms) p).2+((((bb ts order atoms) p).1.take i).map fun v=>(bz (bb ts order atoms) m (p++[v])).2).sum) (i:Int)=dA (dn M) M k (bC ts order atoms) order p (n:Int) atoms out ((((bb ts order atoms) p).1.take (i+1)).flatMap (fun v=>(bz (bb ts order atoms) m (p++[v])).1)) ((bb ts order atoms) p).1 (((bb ts order atoms) p).2+((((bb ts order atoms) p).1.take (i+1)).map fun v=>(bz (bb ts order atoms) m (p++[v])).2).sum) ((i+1:Nat):Int)
    rw [dA,dlt h,cond_true,aR h,bs,kH (by decide) (by omega),bs,bu (by decide) (by simp;omega),bs,ih M (p++[((bb ts order atoms) p).1[i]]) (by rw [List.length_append,List.length_singleton];omega) (by omega),bs,bu (by decide) (by omega),bs,gX (by omega) (by omega),bs,ad1 (by omega),bs,sO h,tF h,Int.add_assoc])
   (fun k=>by
    show dA (dn M) M (k+1) (bC ts order atoms) order p (n:Int) atoms out ((((bb ts order atoms) p).1.take ((bb ts order atoms) p).1.length).flatMap (fun v=>(bz (bb ts order atoms) m (p++[v])).1)) ((bb ts order atoms) p).1 (((bb ts order atoms) p).2+((((bb ts order atoms) p).1.take ((bb ts order atoms) p).1.length).map fun v=>(bz (bb ts order atoms) m (p++[v])).2).sum) (((bb ts order atoms) p).1.length:Int)=_
    rw [dA,dge (by omega),cond_false,List.take_length];rfl) M 0 (by omega) (by omega)
  have h':dA (dn M) M M (bC ts order atoms) order p (n:Int) atoms out [] ((bb ts order atoms) p).1 (((bb ts order atoms) p).2+0) 0=_:=h
  rw [Int.add_zero] at h'
  rw [h',bs,lpB]
end
def iM (ts:List oE):Bool:=ts.any fun t=>decide (t.2.length=0)
def okQ (ts:List be) (n:Int) (atoms:List aY) (out order:List Int):Bool:=hH ts n atoms out&&ka n atoms out order
abbrev v9:=(Int × aK) × Int × Bool
def ko:v9:=((0,[]),0,false)
def jh (k:Int) (w:aK × Int):v9:=bif decide ((w.1.length:Int)≤4000) then ((k,w.1),w.2,true) else ko
def eq (ts:List be) (n:Int) (atoms:List aY) (out order:List Int):v9 :=
 bif okQ ts n atoms out order then (bif iM (bC ts order atoms) then ((n,[]),0,true) else jh n (bz (bb ts order atoms) n.toNat [])) else ko
theorem lO {f:Nxt} (hf:NxtOk f) {k:Nat} (hk:k≤5):dN (bz f k []).1∧(∀ r∈(bz f k []).1,r.length=k∧bi r=true)∧fq (bz f k []).1:=by
 have h1:=nj hf k []
 have hp:16 ^ k≤16 ^ 5:=Nat.pow_le_pow_right (by decide) (by omega)
 have h2:∀ r∈(bz f k []).1,r.length=k∧bi r=true:=fun r hr=>by
  obtain ⟨s,e1,e⟩:=kq hr
  exact ⟨by rw [e1];exact e,tP hf rfl hr⟩
 exact ⟨⟨by omega,fun r hr=>⟨by have:=(h2 r hr).1;omega,fun _ _=>trivial⟩⟩,h2,vn hf k []⟩
theorem Bh {f:Nxt} (hf:NxtOk f) {k:Nat} (hk:k≤5):jJ (k:Int) (bz f k []).1=((jh k (bz f k [])).1,(jh k (bz f k [])).2.2):=by
 obtain ⟨h1,h2,h3⟩:=lO hf hk
 rw [ye (by omega) h1.1 (fun r hr=>by have:=h2 r hr;exact ⟨by omega,this.2⟩) h3]
 unfold jh
 cases decide (((bz f k []).1.length:Int)≤4000) <;> rfl
theorem Aj {f:Nxt} (hf:NxtOk f) {k:Nat} (hk:k≤5):dN (jh k (bz f k [])).1.2:=by
 unfold jh
 cases decide (((bz f k []).1.length:Int)≤4000)
 ·exact ⟨by simp [ko],by simp [ko]⟩
 ·exact (lO hf hk).1
theorem tM {ts:List be} {n:Int} {atoms:List aY} {out order:List Int} (h:okQ ts n atoms out order=true):∃ m:Nat,n=(m:Int)∧QFor ts m atoms order∧eN n atoms out=true:=by
 unfold okQ at h
 rw [Bool.and_eq_true] at h
 obtain ⟨m,e,q⟩:=xF h.1 h.2
 refine ⟨m,e,q,?_⟩
 have:=h.1
 unfold hH at this
 rw [Bool.and_eq_true] at this
 exact this.1
theorem y5 {ts:List be} {n:Int} {atoms:List aY} {out order:List Int}:dN (eq ts n atoms out order).1.2:=by
 unfold eq
 cases h:okQ ts n atoms out order with
 | false=>exact ⟨by simp [ko],by simp [ko]⟩
 | true =>
  obtain ⟨m,rfl,q,_⟩:=tM h
  cases iM (bC ts order atoms)
  ·exact Aj (jo q) q.n5
  ·exact ⟨by simp,by simp⟩
theorem oU {α:Type} (p:α→Bool):∀ xs:List α,(xs.all fun x=>!p x)=!xs.any p
 | []=>rfl
 | x :: xs=>by rw [List.all_cons,List.any_cons,oU p xs,Bool.not_or]
section
variable {N:Nat}
theorem w8 (hN:1073741824≤N) {ts:List oE} (hl:ts.length≤1048576):iC N ts=some (iM ts):=by
 have h:=gp (L:=fun k i=>dQ N k ts (ts.length:Int) i) ts.length (by omega) true (fun i=>if h:i<ts.length then !decide (ts[i].2.length=0) else true) (ts.length:Int)
  (fun k i h=>by
   show dQ N (k+1) ts (ts.length:Int) (i:Int)=_
   rw [dQ,dlt h,cond_true,aR h,bs,show ((ts[i].2.length:Int) == 0)=decide (ts[i].2.length=0) from nN _ 0,ad1 (by omega),bs]
   simp only [dif_pos h]
   cases decide (ts[i].2.length=0) <;> rfl)
  (fun k=>by
   show dQ N (k+1) ts (ts.length:Int) (ts.length:Int)=_
   rw [dQ,dge (by omega),cond_false]) N 0 (by omega) (by omega)
 rw [Nat.sub_zero,gm ts (fun t=>!decide (t.2.length=0)) _ (fun i hi=>by rw [dif_pos hi]),oU] at h
 have h':dQ N N ts (ts.length:Int) 0=some (bif !iM ts then .inr (ts.length:Int) else .inl true):=h
 unfold iC
 rw [h',bs]
 cases iM ts <;> rfl
theorem x9 (hN:1073741824≤N) {ts:List oE} (hl:ts.length≤1048576):iZ N ts=some (iM ts):=by
 have h:=gp (L:=fun k i=>ee N k ts i) ts.length (by omega) true (fun i=>if h:i<ts.length then !decide (ts[i].2.length=0) else true) (ts.length:Int)
  (fun k i h=>by
   show ee N (k+1) ts (i:Int)=_
   rw [ee,dlt h,cond_true,aR h,bs,show ((ts[i].2.length:Int) == 0)=decide (ts[i].2.length=0) from nN _ 0,ad1 (by omega),bs]
   simp only [dif_pos h]
   cases decide (ts[i].2.length=0) <;> rfl)
  (fun k=>by
   show ee N (k+1) ts (ts.length:Int)=_
   rw [ee,dge (by omega),cond_false]) N 0 (by omega) (by omega)
 rw [Nat.sub_zero,gm ts (fun t=>!decide (t.2.length=0)) _ (fun i hi=>by rw [dif_pos hi]),oU] at h
 have h':ee N N ts 0=some (bif !iM ts then .inr (ts.length:Int) else .inl true):=h
 unfold iZ
 rw [h',bs]
 cases iM ts <;> rfl
theorem xd (ts:List be) (n:Int) (atoms:List aY) (out order:List Int):xM ts n atoms out order=bif okQ ts n atoms out order then (bC ts order atoms,true) else ([],false):=rfl
theorem pF (hM:1073742848≤N) {ts:List be} {n:Int} {atoms:List aY} {out order:List Int} (ht:kd ts) (ha:cW atoms) (ho:okI out) (hr:okI order):ij N ts n atoms out order=some (eq ts n atoms out order):=by
 unfold ij eq
 rw [rn hM ht ha ho hr,bs,xd]
 cases h:okQ ts n atoms out order with
 | false=>rfl
 | true =>
  obtain ⟨m,rfl,q,_⟩:=tM h
  have h4:=q.a4
  rw [cond_true,cond_true]
  show ((iC N (bC ts order atoms)).bind _)=_
  rw [w8 (by omega) (by rw [lY];omega),bs]
  cases iM (bC ts order atoms) with
  | true=>rfl
  | false =>
   rw [cond_false,cond_false]
   show ((cB N (m:Int) atoms out (bC ts order atoms) order (m:Int)).bind _)=_
   rw [xr (by omega) q ha (Nat.le_refl _),bs]
   unfold jh
   rw [show ((m:Nat):Int).toNat=m from rfl]
   show (bif decide (((bz (bb ts order atoms) m []).1.length:Int)≤4000) then _ else _)=_
   cases decide (((bz (bb ts order atoms) m []).1.length:Int)≤4000) <;> rfl
theorem pT (hM:1073742848≤N) {ts:List be} {n:Int} {atoms:List aY} {out order:List Int} (ht:kd ts) (ha:cW atoms) (ho:okI out) (hr:okI order):ia N ts n atoms out order=some (eq ts n atoms out order):=by
 unfold ia eq
 rw [rx hM ht ha ho hr,bs,xd]
 cases h:okQ ts n atoms out order with
 | false=>rfl
 | true =>
  obtain ⟨m,rfl,q,hq⟩:=tM h
  have h4:=q.a4
  have h5:=q.n5
  have hol:=q.ol
  rw [cond_true,cond_true]
  show ((iZ N (bC ts order atoms)).bind _)=_
  rw [x9 (by omega) (by rw [lY];omega),bs,hol]
  cases iM (bC ts order atoms) with
  | true=>rfl
  | false =>
   obtain ⟨w1,_,_⟩:=lO (jo q) h5
   rw [cond_false,cond_false]
   show ((dn N (bC ts order atoms) (m:Int) atoms out order []).bind _)=_
   rw [yW q ha ho hq m N [] (by simp) (by omega),bs,iQ hM w1,bs,Bh (jo q) h5]
   unfold jh
   rw [show ((m:Nat):Int).toNat=m from rfl]
   cases decide (((bz (bb ts order atoms) m []).1.length:Int)≤4000) <;> rfl
end
theorem xU {f:Nxt} (hf:NxtOk f) {k:Nat} (hk:k≤5):(∀ r∈(jh k (bz f k [])).1.2,r.length=k)∧fq (jh k (bz f k [])).1.2∧(jh k (bz f k [])).1.2.length≤4000:=by
 obtain ⟨_,h2,h3⟩:=lO hf hk
 unfold jh
 cases h:decide (((bz f k []).1.length:Int)≤4000) with
 | false=>exact ⟨by simp [ko],List.Pairwise.nil,by simp [ko]⟩
 | true =>
  rw [decide_eq_true_eq] at h
  exact ⟨fun r hr=>(h2 r hr).1,h3,by rw [cond_true];show (bz f k []).1.length≤4000;omega⟩
theorem wQ {ts:List be} {n:Int} {atoms:List aY} {out order:List Int}:∃ k:Nat,1≤k∧k≤5∧((eq ts n atoms out order).2.2=true→n=(k:Int))∧(∀ r∈(eq ts n atoms out order).1.2,r.length=k)∧fq (eq ts n atoms out order).1.2∧(eq ts n atoms out order).1.2.length≤4000:=by
 unfold eq
 cases h:okQ ts n atoms out order with
 | false=>exact ⟨1,by omega,by omega,by simp [ko],by simp [ko],List.Pairwise.nil,by simp [ko]⟩
 | true =>
  obtain ⟨m,rfl,q,_⟩:=tM h
  cases iM (bC ts order atoms)
  ·obtain ⟨h1,h2,h3⟩:=xU (jo q) q.n5
   exact ⟨m,q.n1,q.n5,fun _=>rfl,h1,h2,h3⟩
  ·exact ⟨m,q.n1,q.n5,fun _=>rfl,by simp,List.Pairwise.nil,by simp⟩
def zd (j:v9) (order:List Int):(List Int × List aS) × Bool:=bif j.2.2 then ((order,dS j.1.1.toNat j.1.2),true) else (([],[]),false)
section
variable {N:Nat}
theorem xP {ts:List be} {n:Int} {atoms:List aY} {out order:List Int} (h:(eq ts n atoms out order).2.2=true):∃ k:Nat,k≤5∧(eq ts n atoms out order).1.1=(k:Int)∧mQ k (eq ts n atoms out order).1.2:=by
 obtain ⟨k,k1,k5,hk,hr,_,hl⟩:=wQ (ts:=ts) (n:=n) (atoms:=atoms) (out:=out) (order:=order)
 refine ⟨k,k5,?_,hl,fun i hi=>by rw [dL hi];exact hr _ (List.getElem_mem hi)⟩
 have e:=hk h
 unfold eq at h ⊢
 cases h2:okQ ts n atoms out order with
 | false=>rw [h2] at h;cases h
 | true =>
  rw [h2,cond_true] at h
  rw [cond_true]
  cases h3:iM (bC ts order atoms) with
  | true=>exact e
  | false =>
   rw [h3,cond_false] at h
   rw [cond_false]
   unfold jh at h ⊢
   cases h4:decide (((bz (bb ts order atoms) n.toNat []).1.length:Int)≤4000) with
   | true=>exact e
   | false=>rw [h4] at h;cases h
theorem sA (hM:1073742848≤N) {ts:List be} {n:Int} {atoms:List aY} {out order:List Int} (ht:kd ts) (ha:cW atoms) (ho:okI out) (hr:okI order):jH N ts n atoms out order=some (zd (eq ts n atoms out order) order):=by
 unfold jH zd
 rw [pF hM ht ha ho hr,bs]
 cases h:(eq ts n atoms out order).2.2 with
 | false=>rfl
 | true =>
  obtain ⟨k,k5,e,hall⟩:=xP h
  rw [cond_true,cond_true,vT hM k5 hall hr.1,bs,e];rfl
end
theorem vf (a:Int) {m:Nat} (hm:m≤4611686018427387904):0≤gH a (m:Int)∧gH a (m:Int)≤(m:Int):=by
 have h1:(BitVec.ofInt IntKind.i64.bits a &&& BitVec.ofInt IntKind.i64.bits (m:Int)).toNat≤m:=by
  rw [BitVec.toNat_and]
  refine Nat.le_trans Nat.and_le_right ?_
  rw [BitVec.toNat_ofInt]
  have:IntKind.i64.bits=64:=rfl
  rw [this]
  omega
 unfold gH
 rw [lA (nS (by omega) (by omega))]
 omega
theorem yF (a:Int) {b:Nat}:∃ v,sr a (b:Int)=some v:=by unfold sr;rw [if_pos (by omega)];exact ⟨_,rfl⟩
abbrev eQ (a:List Int):Prop:=a.length≤1048576∧∀ v∈a,0≤v∧v≤255
def cw (a:List Int) (p:Int):Prop:=0≤p∧p≤(a.length:Int)
section
variable {N:Nat}
theorem Ca (a:List Int) (ha:eQ a):∀ (m i k:Nat) (h:Int),i+m=4000→m<k→0≤h→h≤1073741823→∃ v,hQ N k a h (i:Int)=some v:=by
 intro m
 induction m with
 | zero =>
  intro i k h hi hk _ _
  obtain ⟨k,rfl⟩:∃ g,k=g+1:=⟨k-1,by omega⟩
  rw [hQ,decide_eq_false (show ¬ (i:Int)<4000 by omega)]
  cases decide ((i:Int)<(a.length:Int)) <;> exact ⟨_,rfl⟩
 | succ m ih =>
  intro i k h hi hk h0 h1
  obtain ⟨k,rfl⟩:∃ g,k=g+1:=⟨k-1,by omega⟩
  rw [hQ]
  by_cases hl:i<a.length
  ·have hb:=ha.2 _ (List.getElem_mem hl)
   rw [dlt hl,cond_true,decide_eq_true (show (i:Int)<4000 by omega),cond_true,uq (by omega) (by omega),bs,aR hl,bs,lA (nS (by omega) (by omega)),gX (by omega) (by omega),bs,gX (by omega) (by omega),bs,ad1 (by omega),bs]
   have hi':=vf (h*131+a[i]+7) (m:=1073741823) (by decide)
   exact ih (i+1) k _ (by omega) (by omega) hi'.1 hi'.2
  ·rw [dge hl,cond_false];exact ⟨_,rfl⟩
theorem zj (hN:1073741824≤N) {a:List Int} (ha:eQ a):∃ h,md N a=some (0,h):=by
 have hl:=ha.1
 obtain ⟨v,hv⟩:=Ca (N:=N) a ha 4000 0 N (10101+(a.length:Int)) (by omega) (by omega) (by omega) (by omega)
 unfold md
 rw [gX (by omega) (by omega),bs]
 have hv':hQ N N a (10101+(a.length:Int)) 0=some v:=hv
 rw [hv',bs]
 exact ⟨_,rfl⟩
theorem lm {a:List Int} (ha:eQ a) {p h:Int} (hc:cw a p):∃ x q g,gQ N a p h=some (x,q,g)∧0≤x∧x≤255∧cw a q:=by
 have hl:=ha.1
 have h0:=hc.1;have h1:=hc.2
 unfold gQ
 obtain ⟨x1,e1⟩:=yF (IntKind.i64.wrap ((IntKind.i64.wrap (h*6364136223846793005))+1442695040888963407)) (b:=33)
 obtain ⟨x2,e2⟩:=yF (IntKind.i64.wrap ((IntKind.i64.wrap (h*6364136223846793005))+1442695040888963407)) (b:=45)
 have e1':sr (IntKind.i64.wrap ((IntKind.i64.wrap (h*6364136223846793005))+1442695040888963407)) 33=some x1:=e1
 have e2':sr (IntKind.i64.wrap ((IntKind.i64.wrap (h*6364136223846793005))+1442695040888963407)) 45=some x2:=e2
 rw [e1',bs,e2',bs]
 by_cases hp:p<(a.length:Int)
 ·rw [decide_eq_true hp,cond_true,ii h0 hp,bs]
  have hb:=vf (IntKind.i64.wrap ((gH (kp x1 x2) 255)+(IntKind.i64.wrap a[p.toNat]))) (m:=255) (by decide)
  refine ⟨_,_,_,rfl,hb.1,hb.2,?_⟩
  rw [lA (nS (by omega) (by omega))]
  exact ⟨by omega,by omega⟩
 ·rw [decide_eq_false hp,cond_false]
  have hb:=vf (kp x1 x2) (m:=255) (by decide)
  exact ⟨_,_,_,rfl,hb.1,hb.2,hc⟩
theorem cx {a:List Int} (ha:eQ a) {p h n:Int} (hc:cw a p):∃ x q g,bW N a p h n=some (x,q,g)∧0≤x∧(0<n→x<n)∧(n≤0→x=0)∧cw a q:=by
 unfold bW
 by_cases h0:n≤0
 ·rw [decide_eq_true h0,cond_true]
  exact ⟨_,_,_,rfl,Int.le_refl _,fun h=>by omega,fun _=>rfl,hc⟩
 ·rw [decide_eq_false h0,cond_false]
  by_cases h1:n≤256
  ·obtain ⟨x,q,g,e,b0,b1,hc'⟩:=lm (N:=N) ha (h:=h) hc
   rw [decide_eq_true h1,cond_true,e,bs,sf (by omega),bs]
   have:=yK b0 (show 0<n by omega)
   exact ⟨_,_,_,rfl,this.1,fun _=>this.2,fun h=>by omega,hc'⟩
  ·rw [decide_eq_false h1,cond_false]
   obtain ⟨x,q,g,e,b0,b1,hc1⟩:=lm (N:=N) ha (h:=h) hc
   rw [e,bs]
   obtain ⟨y,q2,g2,e2,c0,c1,hc2⟩:=lm (N:=N) ha (h:=g) hc1
   dsimp only
   rw [e2,bs]
   obtain ⟨z,q3,g3,e3,d0,d1,hc3⟩:=lm (N:=N) ha (h:=g2) hc2
   dsimp only
   rw [e3,bs]
   obtain ⟨w,q4,g4,e4,f0,f1,hc4⟩:=lm (N:=N) ha (h:=g3) hc3
   dsimp only
   rw [e4,bs]
   dsimp only
   rw [uq (by omega) (by omega),bs,uq (by omega) (by omega),bs,gX (by omega) (by omega),bs,uq (by omega) (by omega),bs,gX (by omega) (by omega),bs,gX (by omega) (by omega),bs,sf (by omega),bs]
   have:=yK (show 0≤x*16777216+y*65536+z*256+w by omega) (show 0<n by omega)
   exact ⟨_,_,_,rfl,this.1,fun _=>this.2,fun h=>by omega,hc4⟩
theorem iA {a l:List Int} (ha:eQ a) {p h:Int} (hc:cw a p) (hl:0<l.length):∃ x q g,dX N a p h l=some (x,q,g)∧x∈l∧cw a q:=by
 obtain ⟨x,q,g,e,b0,b1,_,hc'⟩:=cx (N:=N) ha (h:=h) (n:=(l.length:Int)) hc
 have b2:=b1 (by omega)
 unfold dX
 rw [e,bs]
 dsimp only
 rw [ii b0 b2,bs]
 exact ⟨_,_,_,rfl,List.getElem_mem _,hc'⟩
end
section
variable {N:Nat}
theorem Cc {a:List Int} (ha:eQ a) {n m:Int} (hm:0<m):∀ (d k:Nat) (acc:List Int) (p h:Int),cw a p→acc.length+d=n.toNat→d<k→n≤1048576→(∀ v∈acc,0≤v∧v<m) →
  ∃ q g row,i8 N k a p h n m acc=some (q,g,row)∧cw a q∧row.length=n.toNat∧∀ v∈row,0≤v∧v<m:=by
 intro d
 induction d with
 | zero =>
  intro k acc p h hc hd hk _ hv
  obtain ⟨k,rfl⟩:∃ g,k=g+1:=⟨k-1,by omega⟩
  rw [i8,decide_eq_false (show ¬ (acc.length:Int)<n by omega),cond_false]
  exact ⟨_,_,_,rfl,hc,by omega,hv⟩
 | succ d ih =>
  intro k acc p h hc hd hk hn hv
  obtain ⟨k,rfl⟩:∃ g,k=g+1:=⟨k-1,by omega⟩
  obtain ⟨x,q,g,e,b0,b1,_,hc'⟩:=cx (N:=N) ha (h:=h) (n:=m) hc
  rw [i8,decide_eq_true (show (acc.length:Int)<n by omega),cond_true,e,bs]
  dsimp only
  rw [bu (by decide) (by simp;omega),bs]
  refine ih k _ q g hc' (by simp;omega) (by omega) hn fun v hv'=>?_
  rcases List.mem_append.1 hv' with h | h
  ·exact hv v h
  ·rw [List.mem_singleton] at h;rw [h];exact ⟨b0,b1 hm⟩
theorem tJ (hN:1073741824≤N) {a:List Int} (ha:eQ a) {p h n m:Int} (hc:cw a p) (hm:0<m) (hn:n≤1048576) :
  ∃ row q g,kO N a p h n m=some (row,q,g)∧cw a q∧row.length=n.toNat∧∀ v∈row,0≤v∧v<m:=by
 obtain ⟨q,g,row,e,h1,h2,h3⟩:=Cc (N:=N) ha (n:=n) hm n.toNat N [] p h hc (by simp) (by omega) hn (by simp)
 unfold kO
 rw [e]
 exact ⟨row,q,g,rfl,h1,h2,h3⟩
theorem B3 (hN:1073741824≤N) {a:List Int} (ha:eQ a) {n m y:Int} {z:aK} (hm:0<m) (hn:n≤1048576):∀ (d k:Nat) (acc:aK) (p h c:Int),cw a p→c.toNat=d→c≤1048576→d<k→acc.length+d≤1048576→(∀ r∈acc,r.length=n.toNat∧∀ v∈r,0≤v∧v<m) →
  ∃ q g rows c',iX N k a p h n m y z acc c=some (q,g,rows,c')∧cw a q∧rows.length≤acc.length+d∧∀ r∈rows,r.length=n.toNat∧∀ v∈r,0≤v∧v<m:=by
 intro d
 induction d with
 | zero =>
  intro k acc p h c hc hd _ hk hl hv
  obtain ⟨k,rfl⟩:∃ g,k=g+1:=⟨k-1,by omega⟩
  rw [iX,decide_eq_false (show ¬ 0<c by omega),cond_false]
  exact ⟨_,_,_,_,rfl,hc,by omega,hv⟩
 | succ d ih =>
  intro k acc p h c hc hd hcc hk hl hv
  obtain ⟨k,rfl⟩:∃ g,k=g+1:=⟨k-1,by omega⟩
  obtain ⟨row,q,g,e,hc',h2,h3⟩:=tJ hN ha (h:=h) (n:=n) hc hm hn
  rw [iX,decide_eq_true (show 0<c by omega),cond_true,e,bs]
  dsimp only
  rw [bu (by decide) (by simp;omega),bs,dT (by omega) (by omega),bs]
  obtain ⟨q',g',rows,c',e',k1,k2,k3⟩:=ih k (acc++[row]) q g (c-1) hc' (by omega) (by omega) (by omega) (by simp;omega) fun r hr=>by
   rcases List.mem_append.1 hr with h | h
   ·exact hv r h
   ·rw [List.mem_singleton] at h;rw [h];exact ⟨h2,h3⟩
  exact ⟨q',g',rows,c',e',k1,by simp at k2;omega,k3⟩
theorem pN (hM:1073742848≤N) {a:List Int} (ha:eQ a) {p h n m y:Int} (hc:cw a p) (hm:0<m∧m≤100) (hn:0≤n∧n≤5) (hy:0≤y∧y≤100) :
  ∃ rows q g,jV N a p h n y m=some ((n,rows),q,g)∧cw a q∧(rows.length:Int)≤y∧∀ r∈rows,(r.length:Int)=n∧∀ v∈r,0≤v∧v<m:=by
 have hN:1073741824≤N:=by omega
 obtain ⟨x,q,g,e,b0,b1,_,hc'⟩:=cx (N:=N) ha (h:=h) (n:=y+1) hc
 have b1:=b1 (by omega)
 obtain ⟨q',g',rows,c',e',k1,k2,k3⟩:=B3 hN ha (n:=n) (m:=m) (y:=0) (z:=[]) hm.1 (by omega) x.toNat N [] q g x hc' rfl (by omega) (by omega) (by simp;omega) (by simp)
 unfold jV
 rw [gX (by omega) (by omega),bs,e,bs]
 dsimp only
 rw [e']
 simp only [List.length_nil,Nat.zero_add] at k2
 have hf:∀ r∈rows,(r.length:Int)=n∧bi r=true:=fun r hr=>by
  have:=k3 r hr
  refine ⟨by omega,?_⟩
  unfold bi
  refine List.all_eq_true.2 fun v hv=>?_
  have:=this.2 v hv
  unfold inR
  simp only [Bool.and_eq_true,decide_eq_true_eq]
  omega
 have hok:dN rows:=⟨by omega,fun r hr=>⟨by have:=(k3 r hr).1;omega,fun _ _=>trivial⟩⟩
 rw [bs]
 unfold lpB
 dsimp only
 rw [iQ hM hok,bs,kF hn (by omega) hf]
 have hsl:=gW 20 rows
 refine ⟨cT 20 rows,q',g',rfl,k1,by omega,fun r hr=>?_⟩
 have hr':=jT 20 rows r hr
 exact ⟨(hf r hr').1,(k3 r hr').2⟩
def wh (r:Int × aK):Prop:=(-1≤r.1∧r.1≤6)∧r.2.length≤7∧∀ w∈r.2,w.length≤6∧∀ v∈w,-1≤v∧v≤100
theorem zl (hM:1073742848≤N) {a:List Int} (ha:eQ a) {p h:Int} (hc:cw a p):∃ r q g,mo N a p h=some (r,q,g)∧cw a q∧wh r:=by
 have hN:1073741824≤N:=by omega
 obtain ⟨n,q,g,e,b0,b1,_,hc1⟩:=cx (N:=N) ha (h:=h) (n:=4) hc
 have b1:=b1 (by decide)
 obtain ⟨rows,q2,g2,e2,hc2,hl,hr⟩:=pN hM ha (h:=g) (n:=n) (m:=4) (y:=6) hc1 (by decide) (by omega) (by decide)
 obtain ⟨s,q3,g3,e3,_,_,_,hc3⟩:=cx (N:=N) ha (h:=g2) (n:=14) hc2
 have hsm:∀ w∈rows,w.length≤6∧∀ v∈w,-1≤v∧v≤100:=fun w hw=>by
  have:=hr w hw
  exact ⟨by omega,fun v hv=>by have:=this.2 v hv;omega⟩
 have base:wh (n,rows):=⟨⟨by show -1≤n;omega,by show n≤6;omega⟩,by show rows.length≤7;omega,hsm⟩
 unfold mo
 rw [e,bs]
 dsimp only
 rw [e2,bs]
 dsimp only
 rw [e3,bs]
 dsimp only
 cases h0:(s == 0)
 ·rw [cond_false]
  cases h1:(s == 1)
  ·rw [cond_false]
   cases h2:(s == 2)
   ·exact ⟨_,_,_,rfl,hc3,base⟩
   ·rw [cond_true]
    by_cases hp:0<rows.length
    ·rw [decide_eq_true (show (0:Int)<(rows.length:Int) by omega),cond_true]
     by_cases hn:0<n
     ·have hm0:=hr _ (List.getElem_mem hp)
      have hm1:=hsm _ (List.getElem_mem hp)
      have hp0:0<rows[0].length:=by omega
      obtain ⟨x,q4,g4,e4,hx,hc4⟩:=iA (N:=N) ha (h:=g3) hc3 (l:=[(-1),100,99]) (by decide)
      have i0:ix rows 0=some rows[0]:=aR hp
      have i1:ix rows[0] 0=some rows[0][0]:=aR hp0
      have s1:sto rows[0] 0 x=some (rows[0].set 0 x):=i5 hp0
      have s2:sto rows 0 (rows[0].set 0 x)=some (rows.set 0 (rows[0].set 0 x)):=i5 hp
      have hxb:-1≤x∧x≤100:=by
       simp only [List.mem_cons,List.not_mem_nil,or_false] at hx
       omega
      rw [decide_eq_true hn,cond_true,i0,bs,e4,bs,i1,bs,s1,bs,s2,bs]
      refine ⟨_,_,_,rfl,hc4,⟨base.1,by show (rows.set 0 _).length≤7;rw [List.length_set];omega,fun w hw=>?_⟩⟩
      rcases List.mem_or_eq_of_mem_set hw with h | h
      ·exact hsm w h
      ·subst h
       refine ⟨by rw [List.length_set];exact hm1.1,fun v hv=>?_⟩
       rcases List.mem_or_eq_of_mem_set hv with h | h
       ·exact hm1.2 v h
       ·rw [h];exact hxb
     ·rw [decide_eq_false hn,cond_false]
      exact ⟨_,_,_,rfl,hc3,base⟩
    ·rw [decide_eq_false (show ¬ (0:Int)<(rows.length:Int) by omega),cond_false]
     exact ⟨_,_,_,rfl,hc3,base⟩
  ·rw [cond_true]
   have hi:imx 0 n=n:=by unfold imx;split <;> omega
   obtain ⟨w,q4,g4,e4,hc4,hw1,hw2⟩:=tJ hN ha (h:=g3) (n:=n) (m:=4) hc3 (by decide) (by omega)
   rw [hi,e4,bs]
   dsimp only
   rw [bu (by decide) (by simp;omega),bs]
   refine ⟨_,_,_,rfl,hc4,base.1,by show (rows++[w]).length≤7;simp;omega,fun v hv=>?_⟩
   rcases List.mem_append.1 hv with h | h
   ·exact hsm v h
   ·rw [List.mem_singleton] at h;subst h
    exact ⟨by omega,fun v hv=>by have:=hw2 v hv;omega⟩
 ·obtain ⟨x,q4,g4,e4,hx,hc4⟩:=iA (N:=N) ha (h:=g3) hc3 (l:=[(-1),6,n+1]) (Nat.zero_lt_succ _)
  rw [cond_true,gX (by omega) (by omega),bs,e4,bs]
  refine ⟨_,_,_,rfl,hc4,⟨?_,base.2⟩⟩
  simp only [List.mem_cons,List.not_mem_nil,or_false] at hx
  show -1≤x∧x≤6
  omega
end
def gN (F:Nat→List (List Int)):Nat→List (List Int)
 | 0=>[]
 | j+1=>gN F j++F j
def cY (nodes:List aS):Nat→Int→List Int→List (List Int)
 | 0,_,_=>[]
 | f+1,nd,pre=>if nd=0 then [pre] else
   gN (fun j=>cY nodes f ((nodes.getD nd.toNat ([],[])).2.getD j 0) (pre++[(nodes.getD nd.toNat ([],[])).1.getD j 0])) (nodes.getD nd.toNat ([],[])).1.length
theorem oK {c:List Int}:∀ (l:List Int) (j:Nat),j<l.length→gR c (l.take (j+1))=gR c (l.take j)+c.getD (l.getD j 0).toNat 0
 | [],j,h=>by simp at h
 | x :: l,0,h=>by simp [gR]
 | x :: l,j+1,h=>by
  have:=oK (c:=c) l j (by simpa using h)
  rw [List.take_succ_cons,List.take_succ_cons,gR,gR,this,List.getD_cons_succ];omega
theorem k8 {c:List Int} (hc:ou c):∀ (l:List Int),0≤gR c l
 | []=>by simp [gR]
 | x :: l=>by
  have:=k8 hc l
  have:=rf hc x.toNat
  unfold gR;omega
theorem yn {c:List Int} (hc:ou c):∀ (l:List Int) (j:Nat),gR c (l.take j)≤gR c l
 | [],j=>by simp
 | x :: l,0=>by have:=k8 hc (x :: l);simpa [gR] using this
 | x :: l,j+1=>by
  have:=yn hc l j
  rw [List.take_succ_cons,gR,gR];omega
theorem AJ {c:List Int} (hc:ou c) (l:List Int):∀ s:Int,0≤s∧s≤1000000000→l.foldl (je c) s<1000000000→l.foldl (je c) s=s+gR c l:=by
 induction l with
 | nil=>intro s _ _;simp [gR]
 | cons x l ih =>
  intro s hs h
  rw [List.foldl_cons] at h ⊢
  have hb:=te hc (ch:=x) hs
  have hx:=rf hc x.toNat
  have h1:=ih _ hb h
  have h0:=k8 hc l
  have h2:je c s x=s+c.getD x.toNat 0:=by
   have h3:je c s x<1000000000:=by omega
   unfold je at h3 ⊢;rw [A1] at h3 ⊢
   by_cases h4:s+c.getD x.toNat 0<1000000000
   ·rw [if_pos h4]
   ·rw [if_neg h4] at h3;omega
  rw [h1,h2,gR];omega
def wN (nodes:List aS) (nd:Int):Int:=(iJ nodes nodes.length).getD nd.toNat 0
theorem z0 {olen:Nat} {nodes:List aS} {far:List Int} (V:VF olen nodes far) {nd:Int} (h:inN nodes nd) (h0:nd≠0) (hw:wN nodes nd<1000000000) :
  gR (iJ nodes nodes.length) (nodes.getD nd.toNat ([],[])).2=wN nodes nd:=by
 have h1:=h.1;have h2:=h.2
 have hi:nd.toNat<nodes.length:=by omega
 unfold wN at hw ⊢
 rw [qw nodes nodes.length nd.toNat (by omega) hi] at hw ⊢
 rw [AJ (kM nodes nd.toNat (by omega)).2 _ 0 (by omega) hw,Int.zero_add]
 exact (uk _ fun j hj=>by
  have:=V.ch hi hj
  exact (wW nodes nodes.length nd.toNat _ (by omega) (by omega) (by omega)).symm).symm
theorem EC (nodes:List aS) (hp:1≤nodes.length) (nd:Int):0≤wN nodes nd∧wN nodes nd≤1000000000:=rf (kM nodes nodes.length hp).2 nd.toNat
theorem vh {olen:Nat} {nodes:List aS} {far:List Int} (V:VF olen nodes far) {nd:Int} (h:inN nodes nd) (h0:nd≠0) (hw:wN nodes nd<1000000000) {j:Nat} (hj:j<(nodes.getD nd.toNat ([],[])).2.length) :
  gR (iJ nodes nodes.length) ((nodes.getD nd.toNat ([],[])).2.take j)+wN nodes ((nodes.getD nd.toNat ([],[])).2.getD j 0)≤wN nodes nd:=by
 have h1:=oK (c:=iJ nodes nodes.length) _ j hj
 have h2:=yn (kM nodes nodes.length V.pos).2 (nodes.getD nd.toNat ([],[])).2 (j+1)
 rw [z0 V h h0 hw] at h2
 unfold wN;unfold wN at h2;omega
theorem we {olen:Nat} {nodes:List aS} {far:List Int} (V:VF olen nodes far) {nd:Int} (h:inN nodes nd) {j:Nat} (hj:j<(nodes.getD nd.toNat ([],[])).2.length) :
  inN nodes ((nodes.getD nd.toNat ([],[])).2.getD j 0)∧(nodes.getD nd.toNat ([],[])).2.getD j 0<nd:=by
 have h1:=h.1;have h2:=h.2
 have:=V.ch (i:=nd.toNat) (by omega) hj
 exact ⟨⟨this.1,by omega⟩,by omega⟩
theorem y3 {olen:Nat} {nodes:List aS} {far:List Int} (V:VF olen nodes far):∀ (f:Nat) (nd:Int) (pre:List Int),inN nodes nd→nd<f→wN nodes nd<1000000000→((cY nodes f nd pre).length:Int)≤wN nodes nd:=by
 intro f
 induction f with
 | zero=>intro nd pre h hf;have:=h.1;omega
 | succ f ih =>
  intro nd pre h hf hw
  unfold cY
  by_cases h0:nd=0
  ·subst h0
   rw [if_pos rfl];unfold wN;rw [show (0:Int).toNat=0 from rfl,uc nodes _ V.pos];simp
  ·rw [if_neg h0]
   have hl:=V.lens (i:=nd.toNat) (by have:=h.1;have:=h.2;omega)
   have key:∀ m,m≤(nodes.getD nd.toNat ([],[])).1.length→((gN (fun j=>cY nodes f ((nodes.getD nd.toNat ([],[])).2.getD j 0) (pre++[(nodes.getD nd.toNat ([],[])).1.getD j 0])) m).length:Int)≤gR (iJ nodes nodes.length) ((nodes.getD nd.toNat ([],[])).2.take m):=by
    intro m
    induction m with
    | zero=>intro _;simp [gN,gR]
    | succ m ihm =>
     intro hm
     have h1:=ihm (by omega)
     have hj:m<(nodes.getD nd.toNat ([],[])).2.length:=by omega
     obtain ⟨c1,c2⟩:=we V h hj
     have h2:=vh V h h0 hw hj
     have h3:=k8 (kM nodes nodes.length V.pos).2 ((nodes.getD nd.toNat ([],[])).2.take m)
     have h4:=ih _ (pre++[(nodes.getD nd.toNat ([],[])).1.getD m 0]) c1 (by omega) (by omega)
     rw [gN,List.length_append,oK _ m hj]
     unfold wN at h4
     omega
   have:=key _ (Nat.le_refl _)
   rw [hl,List.take_length,z0 V h h0 hw] at this
   rw [hl];exact this
theorem Bk {olen:Nat} {nodes:List aS} {far:List Int} (V:VF olen nodes far) {nd:Int} (h:inN nodes nd) (h0:nd≠0) (hw:wN nodes nd<1000000000) {f:Nat} (hf:nd≤f) (pre:List Int) :
  ∀ m,m≤(nodes.getD nd.toNat ([],[])).1.length→((gN (fun j=>cY nodes f ((nodes.getD nd.toNat ([],[])).2.getD j 0) (pre++[(nodes.getD nd.toNat ([],[])).1.getD j 0])) m).length:Int)≤gR (iJ nodes nodes.length) ((nodes.getD nd.toNat ([],[])).2.take m):=by
 have hl:=V.lens (i:=nd.toNat) (by have:=h.1;have:=h.2;omega)
 intro m
 induction m with
 | zero=>intro _;simp [gN,gR]
 | succ m ihm =>
  intro hm
  have h1:=ihm (by omega)
  have hj:m<(nodes.getD nd.toNat ([],[])).2.length:=by omega
  obtain ⟨c1,c2⟩:=we V h hj
  have h2:=vh V h h0 hw hj
  have h3:=k8 (kM nodes nodes.length V.pos).2 ((nodes.getD nd.toNat ([],[])).2.take m)
  have h4:=y3 V f _ (pre++[(nodes.getD nd.toNat ([],[])).1.getD m 0]) c1 (by omega) (by omega)
  rw [gN,List.length_append,oK _ m hj]
  unfold wN at h4
  omega
section
variable {N:Nat}
theorem A9 {order:List Int} {nodes:List aS} {far:List Int} (V:VF order.length nodes far) (hn:okN nodes):∀ (f:Nat) (nd:Int) (M:Nat) (pre:List Int) (out:List (List Int)),inN nodes nd→nd<f→nd+1048580≤(M:Int)→pre.length+nd≤1048576→out.length+wN nodes nd≤4000 →
  fE M order nodes nd pre out=some (out++cY nodes f nd pre):=by
 intro f
 induction f with
 | zero=>intro nd M pre out h hf;have:=h.1;omega
 | succ f ih =>
  intro nd M pre out h hf hM hp hw
  have g1:=h.1;have g2:=h.2
  obtain ⟨M,rfl⟩:∃ M',M=M'+1:=⟨M-1,by omega⟩
  have wb:=EC nodes V.pos nd
  rw [fE,cY]
  by_cases h0:nd=0
  ·subst h0
   rw [show ((0:Int) == 0)=true from rfl,cond_true,dl,kH (by decide) (by omega),bs,bs,bu (by decide) (by simp;omega),bs,if_pos rfl]
  ·rw [show (nd == 0)=false by simpa using h0,cond_false,if_neg h0,ixN h,bs]
   have hi:nd.toNat<nodes.length:=by omega
   have hl:=V.lens hi
   have hk:=nW hn hi
   rw [← lL hi] at hk
   have hx1:=hk.1.1
   have hwl:wN nodes nd<1000000000:=by omega
   have hup:=Bk V h h0 hwl (f:=f) (by omega) pre
   have hpart:=fun j (hj:j<(nodes.getD nd.toNat ([],[])).2.length)=>vh V h h0 hwl hj
   have hch:=fun j (hj:j<(nodes.getD nd.toNat ([],[])).2.length)=>we V h hj
   generalize hx:nodes.getD nd.toNat ([],[])=x at *
   have hL:=dK (fun k (s:List (List Int)) j=>e7 (fE M) M k pre s order nodes x.1 x.2 x.1 (x.1.length:Int) j) x.1.length (fun j=>out++gN (fun j=>cY nodes f (x.2.getD j 0) (pre++[x.1.getD j 0])) j) (out++gN (fun j=>cY nodes f (x.2.getD j 0) (pre++[x.1.getD j 0])) x.1.length,(x.1.length:Int))
    (fun k j hj=>by
     have hj2:j<x.2.length:=by omega
     have q1:=hup j (by omega)
     have q2:=hpart j hj2
     obtain ⟨q3,q4⟩:=hch j hj2
     show e7 (fE M) M (k+1) pre _ order nodes x.1 x.2 x.1 (x.1.length:Int) (j:Int)=_
     rw [e7,dlt hj,cond_true,aR hj,bs,aR hj2,bs,dl,kH (by decide) (by omega),bs,bs,bu (by decide) (by simp;omega),bs,← bk hj2,← bk hj,ih _ M (pre++[x.1.getD j 0]) _ q3 (by omega) (by omega) (by rw [List.length_append,List.length_singleton];omega) (by rw [List.length_append];omega),bs,ad1 (by omega),bs,List.append_assoc]
     rfl)
    (fun k=>by
     show e7 (fE M) M (k+1) pre _ order nodes x.1 x.2 x.1 (x.1.length:Int) (x.1.length:Int)=_
     rw [e7,dge (by omega),cond_false]) M 0 (by omega) (by omega)
   rw [show gN (fun j=>cY nodes f (x.2.getD j 0) (pre++[x.1.getD j 0])) 0=[] from rfl,List.append_nil] at hL
   have hL':e7 (fE M) M M pre out order nodes x.1 x.2 x.1 (x.1.length:Int) 0=_:=hL
   rw [hL',bs,lpB]
def rY (order:List Int) (nodes:List aS):(Int × List (List Int)) × Bool :=
 bif iF order nodes&&!decide (4000<kz order nodes) then (((order.length:Int),cY nodes nodes.length ((nodes.length:Int)-1) []),true) else ((0,[]),false)
theorem sW {order:List Int} {nodes:List aS} (h:iF order nodes=true):kz order nodes=wN nodes ((nodes.length:Int)-1):=by
 unfold kz wN
 rw [h,cond_true,show ((nodes.length:Int)-1).toNat=nodes.length-1 by omega]
theorem nh (hN:1073741824≤N) {order:List Int} {nodes:List aS} (ho:okI order) (hn:okN nodes):eW N order nodes=some (rY order nodes):=by
 unfold eW rY
 rw [gK hN ho hn,bs]
 cases hv:iF order nodes with
 | false=>rfl
 | true =>
  obtain ⟨far,V⟩:=yZ hv
  have hp:=V.pos;have hle:=V.le
  rw [cond_true,jX hN ho hn,bs,Bool.true_and]
  by_cases hc:4000<kz order nodes
  ·rw [decide_eq_true hc];rfl
  ·rw [decide_eq_false hc,cond_false,dT (by omega) (by omega),bs]
   rw [sW hv] at hc
   rw [A9 V hn nodes.length _ N [] [] ⟨by omega,by omega⟩ (by omega) (by omega) (by rw [List.length_nil];omega) (by rw [List.length_nil];omega),bs]
   rfl
end
def WFn (ns:List aS):Prop:=1≤ns.length∧∀ i,i<ns.length→∀ c∈(ns.getD i ([],[])).2,0≤c∧c<(i:Int)
def fI (a b:List aS):Prop:=∃ t,b=a++t
theorem fI.refl (a:List aS):fI a a:=⟨[],by simp⟩
theorem fI.trans {a b c:List aS} (h:fI a b) (k:fI b c):fI a c:=by
 obtain ⟨t,rfl⟩:=h;obtain ⟨u,rfl⟩:=k;exact ⟨t++u,by simp⟩
theorem fI.get {a b:List aS} (h:fI a b) {i:Nat} (hi:i<a.length):b.getD i ([],[])=a.getD i ([],[]):=by
 obtain ⟨t,rfl⟩:=h
 rw [List.getD_eq_getElem?_getD,List.getD_eq_getElem?_getD,List.getElem?_append_left hi]
theorem fI.len {a b:List aS} (h:fI a b):a.length≤b.length:=by
 obtain ⟨t,rfl⟩:=h;simp
theorem wS {ns:List aS} {x:aS} {j:Nat}:∀ f i,lq ns x f i=some j→i≤j∧j<i+f∧ns.getD j ([],[])=x
 | 0,_,h=>by simp [lq] at h
 | f+1,i,h=>by
  unfold lq at h
  split at h
  ·rename_i e
   obtain rfl:=Option.some.inj h
   exact ⟨Nat.le_refl _,by omega,e⟩
  ·have:=wS f (i+1) h
   exact ⟨by omega,by omega,this.2.2⟩
theorem u6 {ns:List aS} {x:aS} (hw:WFn ns) (hx:∀ c∈x.2,0≤c∧c<(ns.length:Int)) :
  WFn (fZ ns x).2∧fI ns (fZ ns x).2∧∃ k:Nat,(fZ ns x).1=(k:Int)∧1≤k∧k<(fZ ns x).2.length∧(fZ ns x).2.getD k ([],[])=x∧∀ i,ns.length≤i→i<(fZ ns x).2.length→i=k:=by
 unfold fZ
 split
 ·rename_i i e
  have:=wS _ _ e
  exact ⟨hw,fI.refl _,i,rfl,by omega,by show i<ns.length;omega,this.2.2,fun j h1 h2=>absurd h2 (by show ¬ j<ns.length;omega)⟩
 ·have hg:(ns++[x]).getD ns.length ([],[])=x:=by simp
  refine ⟨⟨by simp,fun i hi c hc=>?_⟩,⟨[x],rfl⟩,ns.length,rfl,hw.1,by simp,hg,fun j h1 h2=>by simp at h2;omega⟩
  simp only [List.length_append,List.length_singleton] at hi
  by_cases h:i<ns.length
  ·rw [fI.get ⟨[x],rfl⟩ h] at hc
   exact hw.2 i h c hc
  ·have e:i=ns.length:=by omega
   subst e
   rw [hg] at hc
   exact hx c hc
def BI (ns:List aS) (nd:Int) (pre:List Int) (rs:List (List Int)):Prop :=
 (0≤nd∧nd<(ns.length:Int))∧∀ ns',fI ns ns'→∀ f:Nat,nd<(f:Int)→cY ns' f nd pre=rs
theorem nM {F G:Nat→List (List Int)}:∀ n,(∀ j,j<n→F j=G j)→gN F n=gN G n
 | 0,_=>rfl
 | n+1,h=>by unfold gN;rw [nM n (fun j hj=>h j (by omega)),h n (by omega)]
theorem qn {ns ns':List aS} (hw:WFn ns) (hp:fI ns ns'):∀ (f:Nat) (nd:Int) (pre:List Int),0≤nd→nd<(ns.length:Int)→cY ns' f nd pre=cY ns f nd pre
 | 0,_,_,_,_=>rfl
 | f+1,nd,pre,h0,h1=>by
  obtain ⟨k,rfl⟩:=Int.eq_ofNat_of_zero_le h0
  rw [cY,cY]
  by_cases hz:(k:Int)=0
  ·rw [if_pos hz,if_pos hz]
  ·have hk:k<ns.length:=by omega
   rw [if_neg hz,if_neg hz,Int.toNat_natCast,hp.get hk]
   refine nM _ fun j _=>qn hw hp f _ _ ?_ ?_ <;>
   ·by_cases hj:j<(ns.getD k ([],[])).2.length
    ·rw [List.getD_eq_getElem?_getD,List.getElem?_eq_getElem hj,Option.getD_some]
     have:=hw.2 k hk _ (List.getElem_mem hj)
     omega
    ·rw [List.getD_eq_getElem?_getD,List.getElem?_eq_none (by omega),Option.getD_none]
     omega
theorem xB {F:Nat→List (List Int)} {g:List Int→List Int}:∀ n,gN (fun j=>(F j).map g) n=(gN F n).map g
 | 0=>rfl
 | n+1=>by unfold gN;rw [xB n,List.map_append]
theorem tX (ns:List aS):∀ (f:Nat) (nd:Int) (p q:List Int),cY ns f nd (p++q)=(cY ns f nd q).map (p++·)
 | 0,_,_,_=>rfl
 | f+1,nd,p,q=>by
  rw [cY,cY]
  by_cases hz:nd=0
  ·rw [if_pos hz,if_pos hz];rfl
  ·rw [if_neg hz,if_neg hz,← xB]
   refine nM _ fun j _=>?_
   rw [List.append_assoc,tX ns f _ p]
def EN (E:Nat) (ns:List aS):Prop:=∀ i:Nat,i<ns.length→∀ f:Nat,i<f→∀ r∈cY ns f (i:Int) [],r.length≤E
def WFd (E:Nat) (ns:List aS):Prop:=WFn ns∧EN E ns
theorem tq {rows:List (List Int)} {d:Nat} {v:Int}:∀ f k j,k≤j→j<kr rows d v f k→(rows.getD j []).getD d 0=v
 | 0,k,j,h1,h2=>by unfold kr at h2;omega
 | f+1,k,j,h1,h2=>by
  unfold kr at h2
  split at h2
  ·rename_i e
   by_cases h:j=k
   ·rw [h];exact e
   ·exact tq f (k+1) j (by omega) h2
  ·omega
def xx (E:Nat) (rec:List aS→List (List Int)→Int × List aS) (n d:Nat):Prop :=
 ∀ ns rs pre,WFd E ns→rs≠[]→rs.Nodup→(∀ r∈rs,r.length=n∧r.take d=pre)→WFd E (rec ns rs).2∧fI ns (rec ns rs).2∧BI (rec ns rs).2 (rec ns rs).1 pre rs
theorem wO {α:Type} {l t:List α} {j:Nat} {z:α} (h:j<l.length):(l++t).getD j z=l.getD j z:=by
 rw [List.getD_eq_getElem?_getD,List.getD_eq_getElem?_getD,List.getElem?_append_left h]
theorem oA {E:Nat} {rec:List aS→List (List Int)→Int × List aS} {n d:Nat} (hr:xx E rec n (d+1)) (hdn:d<n) {rows:List (List Int)} {pre:List Int} (hnd:rows.Nodup) (hrow:∀ r∈rows,r.length=n∧r.take d=pre) :
  ∀ f ns vals chs i,rows.length-i≤f→i≤rows.length→WFd E ns→vals.length=chs.length→(∀ c∈chs,0≤c∧c<(ns.length:Int)) →
   (∀ ns',fI ns ns'→∀ g:Nat,(∀ c∈chs,c<(g:Int))→gN (fun j=>cY ns' g (chs.getD j 0) (pre++[vals.getD j 0])) vals.length=rows.take i) →
   WFd E (bO rec rows d f ns vals chs i).1∧fI ns (bO rec rows d f ns vals chs i).1∧(bO rec rows d f ns vals chs i).2.1.length=(bO rec rows d f ns vals chs i).2.2.length ∧
   (∀ c∈(bO rec rows d f ns vals chs i).2.2,0≤c∧c<((bO rec rows d f ns vals chs i).1.length:Int)) ∧
   ∀ ns',fI (bO rec rows d f ns vals chs i).1 ns'→∀ g:Nat,(∀ c∈(bO rec rows d f ns vals chs i).2.2,c<(g:Int)) →
    gN (fun j=>cY ns' g ((bO rec rows d f ns vals chs i).2.2.getD j 0) (pre++[(bO rec rows d f ns vals chs i).2.1.getD j 0])) (bO rec rows d f ns vals chs i).2.1.length=rows
 | 0,ns,vals,chs,i,hf,hi,hw,hl,hc,hu=>by
  have e:rows.take i=rows:=List.take_of_length_le (by omega)
  unfold bO
  exact ⟨hw,fI.refl _,hl,hc,fun ns' h g hg=>(hu ns' h g hg).trans e⟩
 | f+1,ns,vals,chs,i,hf,hi,hw,hl,hc,hu=>by
  unfold bO
  split
  ·rename_i hlt
   have hb:=kR (d:=d) hlt
   have hgm:∀ r∈(rows.take (dM rows d i)).drop i,r.length=n∧r.take (d+1)=pre++[(rows.getD i []).getD d 0]:=fun r hm=>by
    obtain ⟨j,hj,rfl⟩:=List.getElem_of_mem hm
    rw [List.getElem_drop,List.getElem_take]
    rw [List.length_drop,List.length_take] at hj
    have h0:=hrow _ (List.getElem_mem (show i+j<rows.length by omega))
    have hv:=tq (rows:=rows) (d:=d) (v:=(rows.getD i []).getD d 0) (rows.length-i) i (i+j) (by omega) (by show i+j<dM rows d i;omega)
    rw [List.getD_eq_getElem?_getD (l:=rows),List.getElem?_eq_getElem (show i+j<rows.length by omega),Option.getD_some] at hv
    refine ⟨h0.1,?_⟩
    have hdl:d<(rows[i+j]'(by omega)).length:=by omega
    rw [List.take_succ_eq_append_getElem hdl,h0.2]
    rw [List.getD_eq_getElem?_getD (l:=rows[i+j]'(by omega)),List.getElem?_eq_getElem hdl,Option.getD_some] at hv
    rw [hv]
   have hne:(rows.take (dM rows d i)).drop i≠[]:=by
    intro h
    have:=congrArg List.length h
    simp only [List.length_drop,List.length_take,List.length_nil] at this
    omega
   have hnd':((rows.take (dM rows d i)).drop i).Nodup:=(hnd.sublist (List.take_sublist _ _)).sublist (List.drop_sublist _ _)
   obtain ⟨k1,k2,k3,k4⟩:=hr ns _ _ hw hne hnd' hgm
   obtain ⟨m1,m2,m3,m4,m5⟩:=oA hr hdn hnd hrow f (rec ns ((rows.take (dM rows d i)).drop i)).2 (vals++[(rows.getD i []).getD d 0]) (chs++[(rec ns ((rows.take (dM rows d i)).drop i)).1]) (dM rows d i) (by omega) hb.2 k1 (by simp [hl]) (fun c hc'=>by
     rcases List.mem_append.1 hc' with h | h
     ·have:=hc c h;have:=k2.len;omega
     ·rw [List.mem_singleton] at h;rw [h];exact k3) (fun ns' hp g hg=>by
     have h1:=hu ns' (k2.trans hp) g (fun c h=>hg c (List.mem_append_left _ h))
     rw [List.length_append,List.length_singleton]
     unfold gN
     rw [nM vals.length (G:=fun j=>cY ns' g (chs.getD j 0) (pre++[vals.getD j 0])) (fun j hj=>by
      rw [wO (by omega),wO hj]),h1]
     have e1:(chs++[(rec ns ((rows.take (dM rows d i)).drop i)).1]).getD vals.length 0=(rec ns ((rows.take (dM rows d i)).drop i)).1:=by rw [hl];simp
     have e2:(vals++[(rows.getD i []).getD d 0]).getD vals.length 0=(rows.getD i []).getD d 0:=by simp
     rw [e1,e2,k4 ns' hp g (hg _ (by simp))]
     have e3:rows.take i=(rows.take (dM rows d i)).take i:=by rw [List.take_take,Nat.min_eq_left (by omega)]
     rw [e3,List.take_append_drop])
   exact ⟨m1,k2.trans m2,m3,m4,m5⟩
  ·have e:rows.take i=rows:=List.take_of_length_le (by omega)
   exact ⟨hw,fI.refl _,hl,hc,fun ns' h g hg=>(hu ns' h g hg).trans e⟩
theorem jU {E n:Nat}:∀ (e d:Nat),d+e=n→e≤E→xx E (fun ns rs=>bJ e ns rs d) n d
 | 0,d,hd,_=>fun ns rs pre hw hne hnd hrow=>by
  have hall:∀ r∈rs,r=pre:=fun r hr=>by
   have:=hrow r hr
   rw [← this.2,List.take_of_length_le (by omega)]
  have he:rs=[pre]:=by
   cases rs with
   | nil=>exact absurd rfl hne
   | cons a t =>
    obtain rfl:=hall a (by simp)
    cases t with
    | nil=>rfl
    | cons b t =>
     have:=hall b (by simp)
     subst this
     simp at hnd
  refine ⟨hw,fI.refl _,⟨by show (0:Int)≤0;omega,by show (0:Int)<ns.length;have:=hw.1.1;omega⟩,fun ns' _ f hf=>?_⟩
  have hf:(0:Int)<(f:Int):=hf
  obtain ⟨g,rfl⟩:∃ g,f=g+1:=⟨f-1,by omega⟩
  show cY ns' (g+1) 0 pre=rs
  rw [he,cY,if_pos rfl]
 | e+1,d,hd,hE=>fun ns rs pre hw hne hnd hrow=>by
  obtain ⟨m1,m2,m3,m4,m5⟩:=oA (jU e (d+1) (by omega) (by omega)) (by omega) hnd hrow rs.length ns [] [] 0 (by omega) (by omega) hw rfl (by simp) (fun ns' _ g _=>by simp [gN])
  show WFd E (bJ (e+1) ns rs d).2∧fI ns (bJ (e+1) ns rs d).2∧BI (bJ (e+1) ns rs d).2 (bJ (e+1) ns rs d).1 pre rs
  unfold bJ
  generalize hL:bO (fun ns rs=>bJ e ns rs (d+1)) rs d rs.length ns [] [] 0=L at m1 m2 m3 m4 m5 ⊢
  obtain ⟨p1,p2,k,p3,p4,p5,p6,p7⟩:=u6 (x:=L.2) m1.1 m4
  have hun:BI (fZ L.1 L.2).2 (fZ L.1 L.2).1 pre rs:=by
   refine ⟨by omega,fun ns' hp f hf=>?_⟩
   rw [p3] at hf ⊢
   obtain ⟨g,rfl⟩:∃ g,f=g+1:=⟨f-1,by omega⟩
   have hk:ns'.getD (k:Int).toNat ([],[])=L.2:=by rw [Int.toNat_natCast,hp.get p5,p6]
   have hch:∀ c∈L.2.2,c<(g:Int):=fun c hc=>by
    have:=p1.2 k p5 c (by rw [p6];exact hc)
    omega
   rw [cY,if_neg (by omega),hk]
   exact m5 ns' (p2.trans hp) g hch
  refine ⟨⟨p1,fun i hi f hf r hr=>?_⟩,m2.trans p2,hun⟩
  by_cases h:i<L.1.length
  ·rw [qn m1.1 p2 f _ _ (by omega) (by omega)] at hr
   exact m1.2 i h f hf r hr
  ·obtain rfl:=p7 i (by omega) hi
   have h1:=hun.2 _ (fI.refl _) f (by omega)
   rw [p3] at h1
   have h2:=tX (fZ L.1 L.2).2 f (i:Int) pre []
   rw [List.append_nil,h1] at h2
   have h3:pre++r∈rs:=by rw [h2];exact List.mem_map.2 ⟨r,hr,rfl⟩
   have h4:=hrow _ h3
   have h5:=congrArg List.length h4.2
   rw [List.length_take,h4.1] at h5
   have h6:=h4.1
   rw [List.length_append] at h6
   omega
theorem q7 (E:Nat):WFd E zN:=by
 refine ⟨⟨by decide,fun i hi c hc=>?_⟩,fun i hi f hf r hr=>?_⟩
 ·obtain rfl:i=0:=by simp [zN] at hi;exact hi
  simp [zN] at hc
 ·obtain rfl:i=0:=by simp [zN] at hi;exact hi
  obtain ⟨g,rfl⟩:∃ g,f=g+1:=⟨f-1,by omega⟩
  have e:cY zN (g+1) ((0:Nat):Int) []=[[]]:=by rw [cY];exact if_pos rfl
  rw [e,List.mem_singleton] at hr
  subst hr;simp
theorem uF {n:Nat} {rows:List (List Int)} (hnd:rows.Nodup) (hrow:∀ r∈rows,r.length=n) (hne:rows≠[]):(bJ n zN rows 0).1=(((bJ n zN rows 0).2.length:Int)-1):=by
  have hr0:∀ r∈rows,r.length=n∧r.take 0=[]:=fun r hr=>⟨hrow r hr,rfl⟩
  obtain ⟨w1,_,u1,u2⟩:=jU (E:=n) n 0 (by omega) (Nat.le_refl _) zN rows [] (q7 _) hne hnd hr0
  cases n with
  | zero=>rfl
  | succ e =>
   obtain ⟨m1,_,m3,m4,_⟩:=oA (jU (E:=e) e 1 (by omega) (Nat.le_refl _)) (by omega) hnd hr0 rows.length zN [] [] 0 (by omega) (by omega) (q7 _) rfl (by simp) (fun ns' _ g _=>by simp [gN])
   dsimp only at u1 u2
   unfold bJ at u1 u2 ⊢
   generalize hL:bO (fun ns rs=>bJ e ns rs (0+1)) rows 0 rows.length zN [] [] 0=L at m1 m3 m4 u1 u2 ⊢
   obtain ⟨_,p2,k,p3,p4,p5,p6,_⟩:=u6 (x:=L.2) m1.1 m4
   have hl:=tg L.1 L.2
   have hk:L.1.length≤k:=by
    apply Classical.byContradiction
    intro hlt
    have hlt:k<L.1.length:=by omega
    have h1:=u2 _ (fI.refl _) (k+1) (by rw [p3];omega)
    rw [p3,qn m1.1 p2 _ _ _ (by omega) (by omega)] at h1
    obtain ⟨r,hr⟩:=List.exists_mem_of_ne_nil rows hne
    have h2:=m1.2 k hlt (k+1) (by omega) r (by rw [h1];exact hr)
    have:=hrow r hr
    omega
   rw [p3];omega
theorem un {n:Nat} {rows:List (List Int)} (hnd:rows.Nodup) (hrow:∀ r∈rows,r.length=n) :
  WFn (dS n rows)∧∀ f:Nat,(dS n rows).length≤f→cY (dS n rows) f (((dS n rows).length:Int)-1) []=rows:=by
 by_cases hne:rows=[]
 ·subst hne
  unfold dS
  rw [if_pos rfl]
  refine ⟨⟨by decide,fun i hi c hc=>?_⟩,fun f hf=>?_⟩
  ·have:i=0∨i=1:=by simp at hi;omega
   rcases this with rfl | rfl <;> simp at hc
  ·simp only [List.length_cons,List.length_nil] at hf
   obtain ⟨g,rfl⟩:∃ g,f=g+1:=⟨f-1,by omega⟩
   rw [cY,if_neg (by simp)]
   simp [gN]
 ·have hF:dS n rows=(bJ n zN rows 0).2:=by unfold dS;rw [if_neg hne];rfl
  rw [hF]
  have hr0:∀ r∈rows,r.length=n∧r.take 0=[]:=fun r hr=>⟨hrow r hr,rfl⟩
  obtain ⟨w1,_,u1,u2⟩:=jU (E:=n) n 0 (by omega) (Nat.le_refl _) zN rows [] (q7 _) hne hnd hr0
  refine ⟨w1.1,fun f hf=>?_⟩
  have h:=uF hnd hrow hne
  rw [← h]
  exact u2 _ (fI.refl _) f (by have:=u1.2;show (bJ n zN rows 0).1<(f:Int);omega)
theorem B7 {olen:Nat} {nodes:List aS} {far:List Int} (V:VF olen nodes far):∀ (f:Nat) (nd:Int) (pre:List Int),inN nodes nd→nd<f→wN nodes nd=imn 1000000000 ((cY nodes f nd pre).length:Int):=by
 intro f
 induction f with
 | zero=>intro nd pre h hf;have:=h.1;omega
 | succ f ih =>
  intro nd pre h hf
  have h1:=h.1;have h2:=h.2
  rw [cY]
  by_cases h0:nd=0
  ·subst h0
   rw [if_pos rfl];unfold wN;rw [show (0:Int).toNat=0 from rfl,uc nodes _ V.pos];simp [imn]
  ·rw [if_neg h0]
   have hi:nd.toNat<nodes.length:=by omega
   have hl:=V.lens (i:=nd.toNat) (by omega)
   have key:∀ m,m≤(nodes.getD nd.toNat ([],[])).2.length→((nodes.getD nd.toNat ([],[])).2.take m).foldl (je (iJ nodes nd.toNat)) 0 =
     imn 1000000000 ((gN (fun j=>cY nodes f ((nodes.getD nd.toNat ([],[])).2.getD j 0) (pre++[(nodes.getD nd.toNat ([],[])).1.getD j 0])) m).length:Int):=by
    intro m
    induction m with
    | zero=>intro _;simp [gN,imn]
    | succ m ihm =>
     intro hm
     have hj:m<(nodes.getD nd.toNat ([],[])).2.length:=by omega
     obtain ⟨c1,c2⟩:=we V h hj
     have h4:=ih _ (pre++[(nodes.getD nd.toNat ([],[])).1.getD m 0]) c1 (by omega)
     have hg:(nodes.getD nd.toNat ([],[])).2.getD m 0=(nodes.getD nd.toNat ([],[])).2[m]:=by
      rw [List.getD_eq_getElem?_getD,List.getElem?_eq_getElem hj,Option.getD_some]
     have h5:(iJ nodes nd.toNat).getD ((nodes.getD nd.toNat ([],[])).2.getD m 0).toNat 0=wN nodes ((nodes.getD nd.toNat ([],[])).2.getD m 0):=by
      have:=c1.1
      exact (wW nodes nodes.length nd.toNat _ (by omega) (by omega) (by omega)).symm
     rw [List.take_succ_eq_append_getElem hj,List.foldl_append,ihm (by omega),List.foldl_cons,List.foldl_nil,gN,List.length_append]
     rw [← hg]
     unfold je
     rw [h5,h4]
     unfold imn
     split <;> split <;> split <;> split <;> omega
   have:=key _ (Nat.le_refl _)
   rw [List.take_length] at this
   unfold wN
   rw [qw nodes nodes.length nd.toNat (by omega) hi,this,hl]
def nv (ns:List aS):Nat→Int→Int
 | 0,_=>0
 | f+1,nd=>if nd=0 then 0 else nv ns f ((ns.getD nd.toNat ([],[])).2.getD 0 0)+1
def dep (ns:List aS) (nd:Int):Int:=nv ns ns.length nd
theorem rt {ns:List aS} (hw:WFn ns) {k:Nat} (h1:1≤k) (hk:k<ns.length):0≤(ns.getD k ([],[])).2.getD 0 0∧(ns.getD k ([],[])).2.getD 0 0<(k:Int):=by
 by_cases hj:0<(ns.getD k ([],[])).2.length
 ·rw [List.getD_eq_getElem?_getD,List.getElem?_eq_getElem hj,Option.getD_some]
  exact hw.2 k hk _ (List.getElem_mem hj)
 ·rw [List.getD_eq_getElem?_getD,List.getElem?_eq_none (by omega),Option.getD_none]
  omega
theorem xC {ns ns':List aS} (hw:WFn ns) (hp:fI ns ns'):∀ (f:Nat) (nd:Int),0≤nd→nd<(ns.length:Int)→nv ns' f nd=nv ns f nd
 | 0,_,_,_=>rfl
 | f+1,nd,h0,h1=>by
  obtain ⟨k,rfl⟩:=Int.eq_ofNat_of_zero_le h0
  rw [nv,nv]
  by_cases hz:(k:Int)=0
  ·rw [if_pos hz,if_pos hz]
  ·have hk:k<ns.length:=by omega
   have:=rt hw (by omega) hk
   rw [if_neg hz,if_neg hz,Int.toNat_natCast,hp.get hk,xC hw hp f _ this.1 (by omega)]
theorem rc {ns:List aS} (hw:WFn ns):∀ (f f':Nat) (nd:Int),nd<(f:Int)→nd<(f':Int)→0≤nd→nd<(ns.length:Int)→nv ns f nd=nv ns f' nd
 | 0,_,_,h,_,h0,_=>by omega
 | f+1,0,_,_,h,h0,_=>by omega
 | f+1,f'+1,nd,h,h',h0,h1=>by
  obtain ⟨k,rfl⟩:=Int.eq_ofNat_of_zero_le h0
  rw [nv,nv]
  by_cases hz:(k:Int)=0
  ·rw [if_pos hz,if_pos hz]
  ·have hk:k<ns.length:=by omega
   have:=rt hw (by omega) hk
   rw [if_neg hz,if_neg hz,Int.toNat_natCast,rc hw f f' _ (by omega) (by omega) this.1 (by omega)]
theorem sa {ns ns':List aS} (hw:WFn ns) (hp:fI ns ns') {nd:Int} (h0:0≤nd) (h1:nd<(ns.length:Int)):dep ns' nd=dep ns nd:=by
 unfold dep
 have:=hp.len
 rw [xC hw hp _ _ h0 h1,rc hw ns'.length ns.length nd (by omega) h1 h0 h1]
theorem wu {ns:List aS} (hw:WFn ns):dep ns 0=0:=by
 unfold dep
 obtain ⟨g,hg⟩:∃ g,ns.length=g+1:=⟨ns.length-1,by have:=hw.1;omega⟩
 rw [hg,nv,if_pos rfl]
theorem xc {ns:List aS} (hw:WFn ns) {k:Nat} (h1:1≤k) (hk:k<ns.length):dep ns (k:Int)=dep ns ((ns.getD k ([],[])).2.getD 0 0)+1:=by
 have:=rt hw h1 hk
 unfold dep
 obtain ⟨g,hg⟩:∃ g,ns.length=g+1:=⟨ns.length-1,by omega⟩
 rw [hg,nv,if_neg (by omega),Int.toNat_natCast,rc hw g (g+1) _ (by omega) (by omega) this.1 (by omega)]
structure NodeOk (ns:List aS) (i:Nat):Prop where
 lens:(ns.getD i ([],[])).1.length=(ns.getD i ([],[])).2.length
 vals:bi (ns.getD i ([],[])).1=true
 asc:fL (ns.getD i ([],[])).1
 ne:(ns.getD i ([],[])).1≠[]
 chs:∀ c∈(ns.getD i ([],[])).2,dep ns c=dep ns ((ns.getD i ([],[])).2.getD 0 0)
 new:∀ j,1≤j→j<i→ns.getD j ([],[])≠ns.getD i ([],[])
def mm (ns:List aS):Prop:=∀ i,1≤i→i<ns.length→NodeOk ns i
theorem uu {ns:List aS} {x:aS}:∀ f i,lq ns x f i=none→∀ j,i≤j→j<i+f→ns.getD j ([],[])≠x
 | 0,_,_,j,h1,h2=>by omega
 | f+1,i,h,j,h1,h2=>by
  unfold lq at h
  split at h
  ·cases h
  ·rename_i e
   by_cases hj:j=i
   ·rw [hj];exact e
   ·exact uu f (i+1) h j (by omega) (by omega)
theorem Bo {ns:List aS} {x:aS} (hw:WFn ns) (hx:∀ c∈x.2,0≤c∧c<(ns.length:Int)) (ho:mm ns) (h1:x.1.length=x.2.length) (h2:bi x.1=true) (h3:fL x.1) (h4:x.1≠[])
  {e:Int} (h5:∀ c∈x.2,dep ns c=e):mm (fZ ns x).2∧dep (fZ ns x).2 (fZ ns x).1=e+1:=by
 obtain ⟨w,hp,k,p3,p4,p5,p6,_⟩:=u6 hw hx
 have hne:0<x.2.length:=by
  rw [← h1];exact List.length_pos_iff.2 h4
 have hx0:x.2.getD 0 0=x.2[0]:=by rw [List.getD_eq_getElem?_getD,List.getElem?_eq_getElem hne,Option.getD_some]
 have hd:∀ c∈x.2,dep (fZ ns x).2 c=e:=fun c hc=>by
  have:=hx c hc
  rw [sa hw hp this.1 this.2];exact h5 c hc
 refine ⟨?_,by rw [p3,xc w p4 p5,p6,hx0,hd _ (List.getElem_mem hne)]⟩
 revert w hp p3 p4 p5 p6 hd
 unfold fZ
 split
 ·exact fun _ _ _ _ _ _ _=>ho
 ·rename_i hf
  intro w hp p3 p4 p5 p6 hd i hi1 hi2
  have hi2:i<(ns++[x]).length:=hi2
  show NodeOk (ns++[x]) i
  by_cases hlt:i<ns.length
  ·have q:=ho i hi1 hlt
   have g:=fI.get (a:=ns) (b:=ns++[x]) ⟨[x],rfl⟩ hlt
   have c0:=rt hw hi1 hlt
   refine ⟨by rw [g];exact q.lens,by rw [g];exact q.vals,by rw [g];exact q.asc,by rw [g];exact q.ne,fun c hc=>?_,fun j j1 j2=>?_⟩
   ·rw [g] at hc ⊢
    have:=hw.2 i hlt c hc
    rw [sa hw ⟨[x],rfl⟩ this.1 (by omega),sa hw ⟨[x],rfl⟩ c0.1 (by omega)]
    exact q.chs c hc
   ·rw [g,fI.get (a:=ns) (b:=ns++[x]) ⟨[x],rfl⟩ (show j<ns.length by omega)]
    exact q.new j j1 j2
  ·have e1:i=ns.length:=by simp at hi2;omega
   subst e1
   have g:(ns++[x]).getD ns.length ([],[])=x:=by simp
   refine ⟨by rw [g];exact h1,by rw [g];exact h2,by rw [g];exact h3,by rw [g];exact h4,fun c hc=>?_,fun j j1 j2=>?_⟩
   ·rw [g] at hc ⊢
    rw [hd c hc,hx0,hd _ (List.getElem_mem hne)]
   ·rw [g,fI.get (a:=ns) (b:=ns++[x]) ⟨[x],rfl⟩ j2]
    exact uu _ _ hf j j1 (by omega)
theorem rC {rows:List (List Int)} {d:Nat} {v:Int}:∀ f k,kr rows d v f k<k+f→(rows.getD (kr rows d v f k) []).getD d 0≠v
 | 0,k,h=>by unfold kr at h;omega
 | f+1,k,h=>by
  unfold kr at h ⊢
  split
  ·rename_i e
   rw [if_pos e] at h
   exact rC f (k+1) (by omega)
  ·rename_i e
   exact e
theorem xw {rows:List (List Int)} {j:Nat} (h:j<rows.length):rows.getD j []=rows[j]:=by
 rw [List.getD_eq_getElem?_getD,List.getElem?_eq_getElem h,Option.getD_some]
theorem tZ {rows:List (List Int)} {d i:Nat} (hlt:i<rows.length):(rows.take (dM rows d i)).drop i≠[]:=by
 have hb:=kR (d:=d) hlt
 intro h
 have:=congrArg List.length h
 simp only [List.length_drop,List.length_take,List.length_nil] at this
 omega
theorem rW {rows:List (List Int)} {d i:Nat}:((rows.take (dM rows d i)).drop i).Sublist rows:=(List.drop_sublist _ _).trans (List.take_sublist _ _)
theorem uI {rows:List (List Int)} {n d i:Nat} {pre:List Int} (hdn:d<n) (hlt:i<rows.length) (hrow:∀ r∈rows,r.length=n∧r.take d=pre):∀ r∈(rows.take (dM rows d i)).drop i,r.length=n∧r.take (d+1)=pre++[(rows.getD i []).getD d 0]:=fun r hm=>by
 have hb:=kR (d:=d) hlt
 obtain ⟨j,hj,rfl⟩:=List.getElem_of_mem hm
 rw [List.getElem_drop,List.getElem_take]
 rw [List.length_drop,List.length_take] at hj
 have h0:=hrow _ (List.getElem_mem (show i+j<rows.length by omega))
 have hv:=tq (rows:=rows) (d:=d) (v:=(rows.getD i []).getD d 0) (rows.length-i) i (i+j) (by omega) (by show i+j<dM rows d i;omega)
 rw [List.getD_eq_getElem?_getD (l:=rows),List.getElem?_eq_getElem (show i+j<rows.length by omega),Option.getD_some] at hv
 refine ⟨h0.1,?_⟩
 have hdl:d<(rows[i+j]'(by omega)).length:=by omega
 rw [List.take_succ_eq_append_getElem hdl,h0.2]
 rw [List.getD_eq_getElem?_getD (l:=rows[i+j]'(by omega)),List.getElem?_eq_getElem hdl,Option.getD_some] at hv
 rw [hv]
theorem sl {rows:List (List Int)} {n d:Nat} {pre:List Int} (hdn:d<n) (ha:fq rows) (hrow:∀ r∈rows,r.length=n∧r.take d=pre) {i j:Nat} (h:i≤j) (hj:j<rows.length):(rows.getD i []).getD d 0≤(rows.getD j []).getD d 0:=by
 by_cases e:i=j
 ·rw [e];exact Int.le_refl _
 ·rw [xw hj,xw (show i<rows.length by omega)]
  have h1:=hrow _ (List.getElem_mem (show i<rows.length by omega))
  have h2:=hrow _ (List.getElem_mem hj)
  exact uS d _ _ (h1.2.trans h2.2.symm) (by omega) (by omega) (List.pairwise_iff_getElem.1 ha i j (by omega) hj (by omega))
def AY (E:Nat) (rec:List aS→List (List Int)→Int × List aS) (n d:Nat):Prop :=
 ∀ ns rs pre,WFd E ns→mm ns→rs≠[]→fq rs→(∀ r∈rs,r.length=n∧r.take d=pre)→(∀ r∈rs,bi r=true)→mm (rec ns rs).2∧dep (rec ns rs).2 (rec ns rs).1=((n-d:Nat):Int)
theorem Es {r:List Int} {d:Nat} (h:bi r=true) (hd:d<r.length):inR (r.getD d 0) 0 99=true:=by
 rw [List.getD_eq_getElem?_getD,List.getElem?_eq_getElem hd,Option.getD_some]
 exact List.all_eq_true.1 h _ (List.getElem_mem hd)
theorem vz {E:Nat} {rec:List aS→List (List Int)→Int × List aS} {n d:Nat} (hr:xx E rec n (d+1)) (hq:AY E rec n (d+1)) (hdn:d<n) {rows:List (List Int)} {pre:List Int} (ha:fq rows) (hnd:rows.Nodup)
  (hrow:∀ r∈rows,r.length=n∧r.take d=pre) (hvv:∀ r∈rows,bi r=true) :
  ∀ f ns vals chs i,WFd E ns→mm ns→(∀ c∈chs,(0≤c∧c<(ns.length:Int))∧dep ns c=((n-d-1:Nat):Int))→fL vals→bi vals=true→(∀ v∈vals,∀ j,i≤j→j<rows.length→v<(rows.getD j []).getD d 0) →
   mm (bO rec rows d f ns vals chs i).1∧(∀ c∈(bO rec rows d f ns vals chs i).2.2,dep (bO rec rows d f ns vals chs i).1 c=((n-d-1:Nat):Int)) ∧
   fL (bO rec rows d f ns vals chs i).2.1∧bi (bO rec rows d f ns vals chs i).2.1=true
 | 0,ns,vals,chs,i,hw,ho,hc,hv,hvl,hb=>by
  unfold bO
  exact ⟨ho,fun c h=>(hc c h).2,hv,hvl⟩
 | f+1,ns,vals,chs,i,hw,ho,hc,hv,hvl,hb=>by
  unfold bO
  split
  ·rename_i hlt
   have hgb:=kR (d:=d) hlt
   obtain ⟨k1,k2,k3,_⟩:=hr ns _ _ hw (tZ (d:=d) hlt) (hnd.sublist rW) (uI hdn hlt hrow)
   obtain ⟨q1,q2⟩:=hq ns _ _ hw ho (tZ (d:=d) hlt) (List.Pairwise.sublist rW ha) (uI hdn hlt hrow) (fun r hr'=>hvv r (rW.subset hr'))
   refine vz hr hq hdn ha hnd hrow hvv f _ _ _ _ k1 q1 (fun c hc'=>?_) ?_ ?_ (fun v hv' j h1 h2=>?_)
   ·rcases List.mem_append.1 hc' with h | h
    ·have h3:=hc c h
     refine ⟨⟨h3.1.1,by have:=k2.len;omega⟩,?_⟩
     rw [sa hw.1 k2 h3.1.1 h3.1.2];exact h3.2
    ·rw [List.mem_singleton] at h;subst h
     exact ⟨k3,q2⟩
   ·refine List.pairwise_append.2 ⟨hv,List.pairwise_singleton _ _,fun a h1 b h2=>?_⟩
    rw [List.mem_singleton] at h2;subst h2
    exact hb a h1 i (Nat.le_refl _) hlt
   ·unfold bi
    rw [List.all_append,Bool.and_eq_true]
    refine ⟨hvl,?_⟩
    rw [List.all_cons,List.all_nil,Bool.and_true,xw hlt]
    exact Es (hvv _ (List.getElem_mem hlt)) (by have:=hrow _ (List.getElem_mem hlt);omega)
   ·rcases List.mem_append.1 hv' with h | h
    ·exact hb v h j (by omega) h2
    ·rw [List.mem_singleton] at h;subst h
     have hs:=rC (rows:=rows) (d:=d) (v:=(rows.getD i []).getD d 0) (rows.length-i) i (by show dM rows d i<_;omega)
     have hs:(rows.getD (dM rows d i) []).getD d 0≠(rows.getD i []).getD d 0:=hs
     have l1:=sl hdn ha hrow (show i≤dM rows d i by omega) (by omega)
     have l2:=sl hdn ha hrow h1 h2
     omega
  ·exact ⟨ho,fun c h=>(hc c h).2,hv,hvl⟩
theorem uG {E n:Nat}:∀ (e d:Nat),d+e=n→e≤E→AY E (fun ns rs=>bJ e ns rs d) n d
 | 0,d,hd,_=>fun ns rs pre hw ho hne ha hrow hvv=>by
  refine ⟨ho,?_⟩
  show dep ns 0=_
  rw [wu hw.1,show n-d=0 by omega];rfl
 | e+1,d,hd,hE=>fun ns rs pre hw ho hne ha hrow hvv=>by
  have hnd:=l9 ha
  obtain ⟨m1,m2,m3,m4,m5⟩:=oA (jU (E:=E) e (d+1) (by omega) (by omega)) (by omega) hnd hrow rs.length ns [] [] 0 (by omega) (by omega) hw rfl (by simp) (fun ns' _ g _=>by simp [gN])
  obtain ⟨v1,v2,v3,v4⟩:=vz (jU (E:=E) e (d+1) (by omega) (by omega)) (uG e (d+1) (by omega) (by omega)) (by omega) ha hnd hrow hvv rs.length ns [] [] 0 hw ho (by simp) List.Pairwise.nil rfl (by simp)
  show mm (bJ (e+1) ns rs d).2∧dep (bJ (e+1) ns rs d).2 (bJ (e+1) ns rs d).1=_
  unfold bJ
  generalize hL:bO (fun ns rs=>bJ e ns rs (d+1)) rs d rs.length ns [] [] 0=L at m1 m2 m3 m4 m5 v1 v2 v3 v4 ⊢
  have h4:L.2.1≠[]:=by
   intro h
   obtain ⟨g,hg⟩:∃ g:Nat,∀ c∈L.2.2,c<(g:Int):=⟨L.1.length,fun c hc=>(m4 c hc).2⟩
   have:=m5 L.1 (fI.refl _) g hg
   rw [h] at this
   exact hne this.symm
  obtain ⟨p1,p2⟩:=Bo (x:=L.2) m1.1 m4 v1 m3 v4 v3 h4 v2
  exact ⟨p1,by rw [p2];omega⟩
def nw (nodes:List aS) (i:Nat):List Int:=(List.range i).map fun k:Nat=>dep nodes (k:Int)
theorem pL {nodes:List aS} {i:Nat} {c:Int} (h0:0≤c) (h1:c<(i:Int)):(nw nodes i).getD c.toNat 0=dep nodes c:=by
 obtain ⟨k,rfl⟩:=Int.eq_ofNat_of_zero_le h0
 have hk:k<i:=by omega
 unfold nw
 rw [Int.toNat_natCast,List.getD_eq_getElem?_getD,List.getElem?_map,List.getElem?_range hk];rfl
theorem AQ (nodes:List aS) (i:Nat):nw nodes (i+1)=nw nodes i++[dep nodes (i:Int)]:=by
 unfold nw;rw [List.range_succ,List.map_append];rfl
theorem Bg {nodes:List aS} {olen:Nat} (hw:WFn nodes) {i:Nat} (h1:1≤i) (hi:i<nodes.length) (ho:NodeOk nodes i):l7 nodes olen (nw nodes i) i (nodes.getD i ([],[]))=some (dep nodes (i:Int)):=by
 have c0:=rt hw h1 hi
 have hne:0<(nodes.getD i ([],[])).1.length:=List.length_pos_iff.2 ho.ne
 unfold l7
 rw [decide_eq_true ho.lens,ho.vals,tw ho.asc,decide_eq_false (show ¬ (nodes.getD i ([],[])).1.length=0 by omega)]
 have ha:(List.range' 0 (nodes.getD i ([],[])).2.length).all (kW (nw nodes i) i (nodes.getD i ([],[])).2)=true:=by
  refine List.all_eq_true.2 fun j hj=>?_
  have hj:j<(nodes.getD i ([],[])).2.length:=by simpa using hj
  have hg:(nodes.getD i ([],[])).2.getD j 0=(nodes.getD i ([],[])).2[j]:=by rw [List.getD_eq_getElem?_getD,List.getElem?_eq_getElem hj,Option.getD_some]
  have hc:=hw.2 i hi _ (List.getElem_mem hj)
  unfold kW
  rw [hg,dj.2 (by omega),pL hc.1 hc.2,pL c0.1 c0.2,decide_eq_true (ho.chs _ (List.getElem_mem hj))];rfl
 have hn:mD nodes i (nodes.getD i ([],[]))=true:=by
  unfold mD
  refine List.all_eq_true.2 fun m hm=>?_
  obtain ⟨j,hj,rfl⟩:=List.getElem_of_mem hm
  rw [List.getElem_drop,List.getElem_take]
  rw [List.length_drop,List.length_take] at hj
  have:=ho.new (1+j) (by omega) (by omega)
  rw [lL (show 1+j<nodes.length by omega)] at this
  rw [decide_eq_false this];rfl
 rw [ha,hn]
 show some _=some _
 rw [pL c0.1 c0.2,xc hw h1 hi]
theorem ux {nodes:List aS} {olen:Nat} (hw:WFn nodes) (ho:mm nodes):∀ m i,i+m=nodes.length→1≤i→fc (dB nodes olen) m i (nw nodes i)=.inr (nw nodes nodes.length)
 | 0,i,h,_=>by rw [fc,show i=nodes.length by omega]
 | m+1,i,h,h1=>by
  have e:dB nodes olen i (nw nodes i)=.inr (nw nodes (i+1)):=by
   unfold dB kQ
   rw [Bg hw h1 (by omega) (ho i h1 (by omega)),AQ]
  rw [fc,e]
  exact ux hw ho m (i+1) (by omega) (by omega)
theorem AB {order:List Int} {nodes:List aS} (hp:eu order=true) (hl:nodes.length≤4000) (hz:nodes.getD 0 ([],[])=([],[])) (hw:WFn nodes) (ho:mm nodes) (hd:dep nodes ((nodes.length:Int)-1)=(order.length:Int)):iF order nodes=true:=by
 have h1:=hw.1
 unfold iF
 have e:[0]=nw nodes 1:=by
  show [0]=[dep nodes ((0:Nat):Int)]
  rw [show ((0:Nat):Int)=0 from rfl,wu hw]
 rw [hp,hz,dj.2 (show (1:Int)≤nodes.length∧(nodes.length:Int)≤4000 by omega),e,ux hw ho _ 1 (by omega) (Nat.le_refl _)]
 have hg:=pL (nodes:=nodes) (i:=nodes.length) (c:=(nodes.length:Int)-1) (by omega) (by omega)
 rw [show ((nodes.length:Int)-1).toNat=nodes.length-1 by omega,hd] at hg
 dsimp only
 rw [decide_eq_true hg];rfl
theorem D8:mm zN:=fun i h1 h2=>by simp [zN] at h2;omega
theorem x6 {n:Nat} {rows:List (List Int)} (hne:rows≠[]) (ha:fq rows) (hrow:∀ r∈rows,r.length=n) (hvv:∀ r∈rows,bi r=true) :
  mm (dS n rows)∧dep (dS n rows) (((dS n rows).length:Int)-1)=(n:Int)∧(dS n rows).getD 0 ([],[])=([],[]):=by
 have hr0:∀ r∈rows,r.length=n∧r.take 0=[]:=fun r hr=>⟨hrow r hr,rfl⟩
 have hF:dS n rows=(bJ n zN rows 0).2:=by unfold dS;rw [if_neg hne];rfl
 obtain ⟨v1,v2⟩:=uG (E:=n) n 0 (by omega) (Nat.le_refl _) zN rows [] (q7 _) D8 hne ha hr0 hvv
 obtain ⟨w1,w2,_⟩:=jU (E:=n) n 0 (by omega) (Nat.le_refl _) zN rows [] (q7 _) hne (l9 ha) hr0
 have hroot:=uF (l9 ha) hrow hne
 rw [hF]
 refine ⟨v1,?_,?_⟩
 ·rw [← hroot];exact v2
 ·exact (w2.get (i:=0) (by decide)).trans rfl
theorem sN {n:Nat} {rows:List (List Int)} (ha:fq rows) (hrow:∀ r∈rows,r.length=n) (hvv:∀ r∈rows,bi r=true) (hl:(dS n rows).length≤4000) {order:List Int} (hp:eu order=true) (ho:order.length=n):iF order (dS n rows)=true:=by
 by_cases hne:rows=[]
 ·subst hne
  unfold dS
  rw [if_pos rfl]
  simp [iF,hp,fc,dB,kQ,l7,bi,asc,inR]
 ·obtain ⟨h1,h2,h3⟩:=x6 hne ha hrow hvv
  exact AB hp hl h3 (un (l9 ha) hrow).1 h1 (by rw [h2,ho])
theorem wz {n:Nat} {rows:List (List Int)} (ha:fq rows) (hrow:∀ r∈rows,r.length=n) (hvv:∀ r∈rows,bi r=true) (hl:(dS n rows).length≤4000) (hrl:rows.length≤4000) {order:List Int} (hp:eu order=true) (ho:order.length=n) :
  rY order (dS n rows)=(((n:Int),rows),true)∧kz order (dS n rows)=(rows.length:Int):=by
 have hv:=sN ha hrow hvv hl hp ho
 obtain ⟨hw,hr⟩:=un (l9 ha) hrow
 obtain ⟨far,V⟩:=yZ hv
 have h1:=hw.1
 have hc:kz order (dS n rows)=(rows.length:Int):=by
  rw [sW hv,B7 V (dS n rows).length _ [] ⟨by omega,by omega⟩ (by omega),hr _ (Nat.le_refl _)]
  unfold imn
  split <;> omega
 refine ⟨?_,hc⟩
 unfold rY
 rw [hv,hc,decide_eq_false (show ¬ (4000:Int)<(rows.length:Int) by omega),hr _ (Nat.le_refl _),ho];rfl
abbrev n9:=Int × List aY × List Int
def QGd (q:n9):Prop:=(1≤q.1∧q.1≤5)∧(1≤q.2.1.length∧q.2.1.length≤4)∧(∀ a∈q.2.1,a.1.size≤4∧1≤a.2.length∧a.2.length≤5)∧q.2.2.length≤5
def QSm (q:n9):Prop:=(0≤q.1∧q.1≤6)∧q.2.1.length≤5∧(∀ a∈q.2.1,a.1.size≤4∧a.2.length≤5)∧q.2.2.length≤6
theorem QGd.sm {q:n9} (h:QGd q):QSm q:=⟨⟨by have:=h.1;omega,by have:=h.1;omega⟩,by have:=h.2.1;omega,fun a ha=>⟨(h.2.2.1 a ha).1,(h.2.2.1 a ha).2.2⟩,by have:=h.2.2.2;omega⟩
theorem QSm.atoms {q:n9} (h:QSm q):cW q.2.1:=⟨by have:=h.2.1;omega,fun a ha=>⟨by have:=(h.2.2.1 a ha).1;omega,by have:=(h.2.2.1 a ha).2;omega,fun _ _=>trivial⟩⟩
theorem QSm.out {q:n9} (h:QSm q):okI q.2.2:=⟨by have:=h.2.2.2;omega,fun _ _=>trivial⟩
section
variable {N:Nat}
abbrev AN:List ByteArray:=[(⟨#[40,88,89,90,41,61,114,40,88,89,41,44,115,40,89,90,41,44,116,40,90,88,41]⟩:ByteArray),(⟨#[40,88,89,90,85,41,61,114,40,88,89,41,44,115,40,89,90,41,44,116,40,90,85,41,44,117,40,85,88,41]⟩:ByteArray),(⟨#[40,88,89,90,41,61,114,40,88,89,41,44,115,40,89,90,41]⟩:ByteArray),(⟨#[40,88,41,61,114,40,88,89,41,44,115,40,89,90,41,44,116,40,90,85,41]⟩:ByteArray),(⟨#[40,88,89,90,41,61,118,40,88,89,90,41,44,114,40,88,89,41]⟩:ByteArray),(⟨#[40,88,89,41,61,114,40,88,89,41,44,114,40,89,88,41]⟩:ByteArray),(⟨#[40,88,89,90,85,41,61,118,40,88,89,90,41,44,115,40,90,85,41,44,116,40,85,88,41]⟩:ByteArray),(⟨#[40,88,41,61,114,40,88,88,41]⟩:ByteArray),(⟨#[40,88,89,41,61,114,40,88,90,41,44,115,40,90,89,41,44,114,40,88,85,41,44,115,40,85,89,41]⟩:ByteArray),(⟨#[40,41,61,114,40,88,89,41,44,115,40,89,88,41]⟩:ByteArray),(⟨#[40,88,89,90,85,86,41,61,114,40,88,89,41,44,115,40,89,90,41,44,116,40,90,85,41,44,117,40,85,86,41]⟩:ByteArray)]
theorem B8 (M:Nat):cy (M+100) (⟨#[40,88,89,90,41,61,114,40,88,89,41,44,115,40,89,90,41,44,116,40,90,88,41]⟩:ByteArray)=some ((3,[((⟨#[114]⟩:ByteArray),[0,1]),((⟨#[115]⟩:ByteArray),[1,2]),((⟨#[116]⟩:ByteArray),[2,0])],[0,1,2]),true):=by kernel_rfl
theorem CA (M:Nat):cy (M+100) (⟨#[40,88,89,90,85,41,61,114,40,88,89,41,44,115,40,89,90,41,44,116,40,90,85,41,44,117,40,85,88,41]⟩:ByteArray)=some ((4,[((⟨#[114]⟩:ByteArray),[0,1]),((⟨#[115]⟩:ByteArray),[1,2]),((⟨#[116]⟩:ByteArray),[2,3]),((⟨#[117]⟩:ByteArray),[3,0])],[0,1,2,3]),true):=by kernel_rfl
theorem Cu (M:Nat):cy (M+100) (⟨#[40,88,89,90,41,61,114,40,88,89,41,44,115,40,89,90,41]⟩:ByteArray)=some ((3,[((⟨#[114]⟩:ByteArray),[0,1]),((⟨#[115]⟩:ByteArray),[1,2])],[0,1,2]),true):=by kernel_rfl
theorem Ce (M:Nat):cy (M+100) (⟨#[40,88,41,61,114,40,88,89,41,44,115,40,89,90,41,44,116,40,90,85,41]⟩:ByteArray)=some ((4,[((⟨#[114]⟩:ByteArray),[0,1]),((⟨#[115]⟩:ByteArray),[1,2]),((⟨#[116]⟩:ByteArray),[2,3])],[0]),true):=by kernel_rfl
theorem CT (M:Nat):cy (M+100) (⟨#[40,88,89,90,41,61,118,40,88,89,90,41,44,114,40,88,89,41]⟩:ByteArray)=some ((3,[((⟨#[118]⟩:ByteArray),[0,1,2]),((⟨#[114]⟩:ByteArray),[0,1])],[0,1,2]),true):=by kernel_rfl
theorem B5 (M:Nat):cy (M+100) (⟨#[40,88,89,41,61,114,40,88,89,41,44,114,40,89,88,41]⟩:ByteArray)=some ((2,[((⟨#[114]⟩:ByteArray),[0,1]),((⟨#[114]⟩:ByteArray),[1,0])],[0,1]),true):=by kernel_rfl
theorem CK (M:Nat):cy (M+100) (⟨#[40,88,89,90,85,41,61,118,40,88,89,90,41,44,115,40,90,85,41,44,116,40,85,88,41]⟩:ByteArray)=some ((4,[((⟨#[118]⟩:ByteArray),[0,1,2]),((⟨#[115]⟩:ByteArray),[2,3]),((⟨#[116]⟩:ByteArray),[3,0])],[0,1,2,3]),true):=by kernel_rfl
theorem CY (M:Nat):cy (M+100) (⟨#[40,88,41,61,114,40,88,88,41]⟩:ByteArray)=some ((1,[((⟨#[114]⟩:ByteArray),[0,0])],[0]),true):=by kernel_rfl
theorem C2 (M:Nat):cy (M+100) (⟨#[40,88,89,41,61,114,40,88,90,41,44,115,40,90,89,41,44,114,40,88,85,41,44,115,40,85,89,41]⟩:ByteArray)=some ((4,[((⟨#[114]⟩:ByteArray),[0,2]),((⟨#[115]⟩:ByteArray),[2,1]),((⟨#[114]⟩:ByteArray),[0,3]),((⟨#[115]⟩:ByteArray),[3,1])],[0,1]),true):=by kernel_rfl
theorem CL (M:Nat):cy (M+100) (⟨#[40,41,61,114,40,88,89,41,44,115,40,89,88,41]⟩:ByteArray)=some ((2,[((⟨#[114]⟩:ByteArray),[0,1]),((⟨#[115]⟩:ByteArray),[1,0])],[]),true):=by kernel_rfl
theorem Bc (M:Nat):cy (M+100) (⟨#[40,88,89,90,85,86,41,61,114,40,88,89,41,44,115,40,89,90,41,44,116,40,90,85,41,44,117,40,85,86,41]⟩:ByteArray)=some ((5,[((⟨#[114]⟩:ByteArray),[0,1]),((⟨#[115]⟩:ByteArray),[1,2]),((⟨#[116]⟩:ByteArray),[2,3]),((⟨#[117]⟩:ByteArray),[3,4])],[0,1,2,3,4]),true):=by kernel_rfl
theorem x7 (hN:1073741824≤N):∀ s∈AN,∃ q,cy N s=some (q,true)∧QGd q:=by
 obtain ⟨M,rfl⟩:∃ M,N=M+100:=⟨N-100,by omega⟩
 intro s hs
 simp only [List.mem_cons,List.not_mem_nil,or_false] at hs
 rcases hs with rfl | rfl | rfl | rfl | rfl | rfl | rfl | rfl | rfl | rfl | rfl
 ·exact ⟨_,B8 M,by unfold QGd;decide⟩
 ·exact ⟨_,CA M,by unfold QGd;decide⟩
 ·exact ⟨_,Cu M,by unfold QGd;decide⟩
 ·exact ⟨_,Ce M,by unfold QGd;decide⟩
 ·exact ⟨_,CT M,by unfold QGd;decide⟩
 ·exact ⟨_,B5 M,by unfold QGd;decide⟩
 ·exact ⟨_,CK M,by unfold QGd;decide⟩
 ·exact ⟨_,CY M,by unfold QGd;decide⟩
 ·exact ⟨_,C2 M,by unfold QGd;decide⟩
 ·exact ⟨_,CL M,by unfold QGd;decide⟩
 ·exact ⟨_,Bc M,by unfold QGd;decide⟩
theorem oS {a:List Int} {l:List ByteArray} (ha:eQ a) {p h:Int} (hc:cw a p) (hl:0<l.length):∃ x q g,js N a p h l=some (x,q,g)∧x∈l∧cw a q:=by
 obtain ⟨x,q,g,e,b0,b1,_,hc'⟩:=cx (N:=N) ha (h:=h) (n:=(l.length:Int)) hc
 have b2:=b1 (by omega)
 unfold js
 rw [e,bs]
 dsimp only
 rw [ii b0 b2,bs]
 exact ⟨_,_,_,rfl,List.getElem_mem _,hc'⟩
theorem mU {a:List Int} (ha:eQ a) {p h n:Int} (hc:cw a p):∃ b q g,ir N a p h n=some (b,q,g)∧cw a q:=by
 obtain ⟨x,q,g,e,_,_,_,hc'⟩:=cx (N:=N) ha (h:=h) (n:=n) hc
 unfold ir
 rw [e,bs]
 exact ⟨_,_,_,rfl,hc'⟩
theorem zG {a:List Int} (ha:eQ a) {z1 z7 z9 n:Int} {z2 z5 z8:List aY} {z3 z6 z10:List Int} {s:ByteArray}:∀ (d k:Nat) (acc:List Int) (p h m:Int),cw a p→m.toNat=d→m≤10→d<k→acc.length+d≤100 →
  ∃ q g vs m',g9 N k a p h z1 z2 z3 z7 z5 z6 n z8 z10 z9 s acc m=some (q,g,vs,m')∧cw a q∧vs.length=acc.length+d:=by
 intro d
 induction d with
 | zero =>
  intro k acc p h m hc hd _ hk _
  obtain ⟨k,rfl⟩:∃ g,k=g+1:=⟨k-1,by omega⟩
  rw [g9,decide_eq_false (show ¬ 0<m by omega),cond_false]
  exact ⟨_,_,_,_,rfl,hc,by omega⟩
 | succ d ih =>
  intro k acc p h m hc hd hm hk hl
  obtain ⟨k,rfl⟩:∃ g,k=g+1:=⟨k-1,by omega⟩
  obtain ⟨x,q,g,e,_,_,_,hc'⟩:=cx (N:=N) ha (h:=h) (n:=n) hc
  rw [g9,decide_eq_true (show 0<m by omega),cond_true,e,bs]
  dsimp only
  rw [bu (by decide) (by simp;omega),bs,dT (by omega) (by omega),bs]
  obtain ⟨q',g',vs,m',e',k1,k2⟩:=ih k (acc++[x]) q g (m-1) hc' (by omega) (by omega) (by omega) (by simp;omega)
  exact ⟨q',g',vs,m',e',k1,by simp at k2;omega⟩
theorem zo (hN:1073741824≤N) {a:List Int} (ha:eQ a) {z1 z4 n:Int} {z2 z5:List aY} {z3 z6 z7:List Int}:∀ (d k:Nat) (acc:List aY) (p h m:Int),cw a p→m.toNat=d→m≤10→d<k→acc.length+d≤100→(∀ x∈acc,x.1.size≤4∧1≤x.2.length∧x.2.length≤5) →
  ∃ q g ats m',g7 N k a p h z1 z2 z3 z4 z5 z6 n acc z7 m=some (q,g,ats,m')∧cw a q∧ats.length=acc.length+d∧∀ x∈ats,x.1.size≤4∧1≤x.2.length∧x.2.length≤5:=by
 intro d
 induction d with
 | zero =>
  intro k acc p h m hc hd _ hk _ hx
  obtain ⟨k,rfl⟩:∃ g,k=g+1:=⟨k-1,by omega⟩
  rw [g7,decide_eq_false (show ¬ 0<m by omega),cond_false]
  exact ⟨_,_,_,_,rfl,hc,by omega,hx⟩
 | succ d ih =>
  intro k acc p h m hc hd hm hk hl hx
  obtain ⟨k,rfl⟩:∃ g,k=g+1:=⟨k-1,by omega⟩
  obtain ⟨x,q,g,e,b0,b1,_,hc'⟩:=cx (N:=N) ha (h:=h) (n:=5) hc
  have b1:=b1 (by decide)
  rw [g7,decide_eq_true (show 0<m by omega),cond_true,e,bs]
  dsimp only
  have hi:x<(([(⟨#[114]⟩:ByteArray),(⟨#[115]⟩:ByteArray),(⟨#[116]⟩:ByteArray),(⟨#[117]⟩:ByteArray),(⟨#[118]⟩:ByteArray)]:List ByteArray).length:Int):=b1
  rw [ii b0 hi,bs,EA b0 (by decide) (by omega),bs]
  have ht:0≤x.tdiv 4∧x.tdiv 4≤1:=by
   rw [Int.tdiv_eq_ediv_of_nonneg b0];omega
  rw [gX (by omega) (by omega),bs]
  have hs:∀ s∈([(⟨#[114]⟩:ByteArray),(⟨#[115]⟩:ByteArray),(⟨#[116]⟩:ByteArray),(⟨#[117]⟩:ByteArray),(⟨#[118]⟩:ByteArray)]:List ByteArray),s.size≤4:=by decide
  have hs':=hs _ (List.getElem_mem (l:=([(⟨#[114]⟩:ByteArray),(⟨#[115]⟩:ByteArray),(⟨#[116]⟩:ByteArray),(⟨#[117]⟩:ByteArray),(⟨#[118]⟩:ByteArray)]:List ByteArray)) (n:=x.toNat) (by omega))
  obtain ⟨q',g',vs,m',e',k1,k2⟩:=zG (N:=N) ha (z1:=z1) (z2:=z2) (z3:=z3) (z7:=z4) (z5:=z5) (z6:=z6) (n:=n) (z8:=acc) (z10:=z7) (z9:=m) (s:=([(⟨#[114]⟩:ByteArray),(⟨#[115]⟩:ByteArray),(⟨#[116]⟩:ByteArray),(⟨#[117]⟩:ByteArray),(⟨#[118]⟩:ByteArray)]:List ByteArray)[x.toNat]) (2+x.tdiv 4).toNat N [] q g (2+x.tdiv 4) hc' rfl (by omega) (by omega) (by simp;omega)
  rw [e',bs]
  unfold lpB
  dsimp only
  rw [bu (by decide) (by simp;omega),bs,dT (by omega) (by omega),bs]
  simp only [List.length_nil,Nat.zero_add] at k2
  obtain ⟨q2,g2,ats,m2,e2,j1,j2,j3⟩:=ih k (acc++[(_,vs)]) q' g' (m-1) k1 (by omega) (by omega) (by omega) (by simp;omega) (fun y hy=>by
   rcases List.mem_append.1 hy with h | h
   ·exact hx y h
   ·rw [List.mem_singleton] at h;rw [h]
    exact ⟨hs',by show 1≤vs.length;omega,by show vs.length≤5;omega⟩)
  exact ⟨q2,g2,ats,m2,e2,j1,by simp at j2;omega,j3⟩
theorem yU {a:List Int} (ha:eQ a) {z1 z4:Int} {n:Nat} {z2 z5 z8:List aY} {z3 z6:List Int} (hn:n≤10):∀ (d k:Nat) (acc:List Int) (p h:Int) (i:Nat),cw a p→i+d=n→d<k→acc.length≤i →
  ∃ q g out v,ft N k a p h z1 z2 z3 z4 z5 z6 (n:Int) z8 acc (i:Int)=some (q,g,out,v)∧cw a q∧out.length≤n:=by
 intro d
 induction d with
 | zero =>
  intro k acc p h i hc hd hk hl
  obtain ⟨k,rfl⟩:∃ g,k=g+1:=⟨k-1,by omega⟩
  rw [ft,decide_eq_false (show ¬ (i:Int)<(n:Int) by omega),cond_false]
  exact ⟨_,_,_,_,rfl,hc,by omega⟩
 | succ d ih =>
  intro k acc p h i hc hd hk hl
  obtain ⟨k,rfl⟩:∃ g,k=g+1:=⟨k-1,by omega⟩
  obtain ⟨b,q,g,e,hc'⟩:=mU (N:=N) ha (h:=h) (n:=2) hc
  rw [ft,decide_eq_true (show (i:Int)<(n:Int) by omega),cond_true,e,bs]
  dsimp only
  cases b with
  | true =>
   rw [cond_true,bu (by decide) (by simp;omega),bs,ad1 (by omega),bs]
   exact ih k _ q g (i+1) hc' (by omega) (by omega) (by simp;omega)
  | false =>
   rw [cond_false,ad1 (by omega),bs]
   exact ih k _ q g (i+1) hc' (by omega) (by omega) (by omega)
theorem qX (hN:1073741824≤N) {a:List Int} (ha:eQ a) {p h:Int} (hc:cw a p):∃ r q g,jx N a p h=some (r,q,g)∧cw a q∧QGd r:=by
 unfold jx
 obtain ⟨s,q,g,e,hs,hc1⟩:=oS (N:=N) ha (h:=h) (l:=AN) hc (by decide)
 obtain ⟨r,er,hr⟩:=x7 hN s hs
 rw [e,bs]
 dsimp only
 rw [er,bs]
 obtain ⟨b,q2,g2,e2,hc2⟩:=mU (N:=N) ha (h:=g) (n:=3) hc1
 rw [e2,bs]
 dsimp only
 cases b with
 | false=>rw [cond_false];exact ⟨_,_,_,rfl,hc2,hr⟩
 | true =>
  obtain ⟨x,q3,g3,e3,b0,b1,_,hc3⟩:=cx (N:=N) ha (h:=g2) (n:=4) hc2
  have b1:=b1 (by decide)
  rw [cond_true,e3,bs]
  dsimp only
  obtain ⟨y,q4,g4,e4,c0,c1,_,hc4⟩:=cx (N:=N) ha (h:=g3) (n:=4) hc3
  have c1:=c1 (by decide)
  rw [gX (by omega) (by omega),bs,e4,bs]
  dsimp only
  rw [gX (by omega) (by omega),bs]
  obtain ⟨q5,g5,ats,m5,e5,hc5,l5,a5⟩:=zo hN ha (z1:=0) (z2:=[]) (z3:=[]) (z4:=r.1) (z5:=r.2.1) (z6:=r.2.2) (n:=1+x) (z7:=[]) (1+y).toNat N [] q4 g4 (1+y) hc4 rfl (by omega) (by omega) (by simp;omega) (by simp)
  rw [e5,bs]
  unfold lpB
  dsimp only
  have hx:((x.toNat+1:Nat):Int)=1+x:=by omega
  obtain ⟨q6,g6,out,v6,e6,hc6,l6⟩:=yU (N:=N) ha (z1:=0) (z2:=[]) (z3:=[]) (z4:=r.1) (z5:=r.2.1) (z6:=r.2.2) (n:=x.toNat+1) (z8:=ats) (by omega) (x.toNat+1) N [] q5 g5 0 hc5 (by omega) (by omega) (by simp)
  rw [hx] at e6
  have e6':ft N N a q5 g5 0 [] [] r.1 r.2.1 r.2.2 (1+x) ats [] 0=some (q6,g6,out,v6):=e6
  simp only [List.length_nil,Nat.zero_add] at l5
  have hq:QGd (1+x,ats,out):=⟨⟨by show 1≤1+x;omega,by show 1+x≤5;omega⟩,⟨by show 1≤ats.length;omega,by show ats.length≤4;omega⟩,a5,by show out.length≤5;omega⟩
  rw [e6',bs]
  dsimp only
  rw [im hN (QSm.atoms hq.sm) (QSm.out hq.sm),bs]
  cases eN (1+x) ats out with
  | true=>rw [cond_true];exact ⟨_,_,_,rfl,hc6,hq⟩
  | false=>rw [cond_false];exact ⟨_,_,_,rfl,hc6,hr⟩
theorem yY (hN:1073741824≤N) {a:List Int} (ha:eQ a) {p h:Int} (hc:cw a p):∃ r q g,mc N a p h=some (r,q,g)∧cw a q∧QSm r:=by
 obtain ⟨⟨n,ats,out⟩,q,g,e,hc1,hr⟩:=qX hN ha (h:=h) hc
 obtain ⟨x,q2,g2,e2,_,_,_,hc2⟩:=cx (N:=N) ha (h:=g) (n:=14) hc1
 unfold mc
 rw [e,bs]
 dsimp only
 rw [e2,bs]
 dsimp only
 have hn:=hr.1;have ha1:=hr.2.1;have ha2:=hr.2.2.1;have ho:=hr.2.2.2
 dsimp only at hn ha1 ha2 ho
 have hsm:=hr.sm
 cases h0:(x == 0) with
 | true =>
  rw [cond_true,gX (by omega) (by omega),bs]
  obtain ⟨y,q3,g3,e3,hy,hc3⟩:=iA (N:=N) ha (h:=g2) (l:=[0,6,n+1]) hc2 (Nat.zero_lt_succ _)
  rw [e3,bs]
  refine ⟨_,_,_,rfl,hc3,⟨?_,hsm.2⟩⟩
  simp only [List.mem_cons,List.not_mem_nil,or_false] at hy
  show 0≤y∧y≤6
  omega
 | false =>
 rw [cond_false]
 cases h1:(x == 1) with
 | true =>
  rw [cond_true]
  obtain ⟨y,q3,g3,e3,hy,hc3⟩:=oS (N:=N) ha (h:=g2) (l:=[ByteArray.empty,(⟨#[119]⟩:ByteArray),(⟨#[114]⟩:ByteArray)]) hc2 (by decide)
  have hys:∀ s∈[ByteArray.empty,(⟨#[119]⟩:ByteArray),(⟨#[114]⟩:ByteArray)],s.size≤4:=by decide
  rw [e3,bs,bu (by decide) (by simp;omega),bs]
  refine ⟨_,_,_,rfl,hc3,hsm.1,by show (ats++[_]).length≤5;simp;omega,fun b hb=>?_,hsm.2.2.2⟩
  rcases List.mem_append.1 hb with h | h
  ·exact hsm.2.2.1 b h
  ·rw [List.mem_singleton] at h;rw [h];exact ⟨hys y hy,by show ([0]:List Int).length≤5;decide⟩
 | false =>
 rw [cond_false]
 cases h2:(x == 2) with
 | true =>
  rw [cond_true]
  obtain ⟨y,q3,g3,e3,b0,b1,_,hc3⟩:=cx (N:=N) ha (h:=g2) (n:=6) hc2
  have b1:=b1 (by decide)
  rw [e3,bs]
  dsimp only
  rw [dT (by omega) (by omega),bs,bu (by decide) (by simp;omega),bs]
  exact ⟨_,_,_,rfl,hc3,hsm.1,hsm.2.1,hsm.2.2.1,by show (out++[_]).length≤6;simp;omega⟩
 | false =>
 rw [cond_false]
 have hl:0<ats.length:=by omega
 have i0:ix ats 0=some ats[0]:=aR hl
 have hm0:=ha2 _ (List.getElem_mem hl)
 cases h3:(x == 3) with
 | true =>
  have s0:sto ats 0 (ats[0].1,[])=some (ats.set 0 (ats[0].1,[])):=i5 hl
  rw [cond_true,i0,bs,s0,bs]
  refine ⟨_,_,_,rfl,hc2,hsm.1,by show (ats.set 0 _).length≤5;rw [List.length_set];omega,fun b hb=>?_,hsm.2.2.2⟩
  rcases List.mem_or_eq_of_mem_set hb with h | h
  ·exact hsm.2.2.1 b h
  ·rw [h];exact ⟨hm0.1,Nat.zero_le _⟩
 | false =>
 rw [cond_false]
 cases h4:(x == 4) with
 | true =>
  obtain ⟨y,q3,g3,e3,hy,hc3⟩:=iA (N:=N) ha (h:=g2) (l:=[(-1),5]) hc2 (by decide)
  have hl1:0<ats[0].2.length:=by omega
  have i1:ix ats[0].2 0=some ats[0].2[0]:=aR hl1
  have s1:sto ats[0].2 0 y=some (ats[0].2.set 0 y):=i5 hl1
  have s0:sto ats 0 (ats[0].1,ats[0].2.set 0 y)=some (ats.set 0 (ats[0].1,ats[0].2.set 0 y)):=i5 hl
  rw [cond_true,i0,bs,e3,bs,i1,bs,s1,bs,s0,bs]
  refine ⟨_,_,_,rfl,hc3,hsm.1,by show (ats.set 0 _).length≤5;rw [List.length_set];omega,fun b hb=>?_,hsm.2.2.2⟩
  rcases List.mem_or_eq_of_mem_set hb with h | h
  ·exact hsm.2.2.1 b h
  ·rw [h];exact ⟨hm0.1,by show (ats[0].2.set 0 y).length≤5;rw [List.length_set];exact hm0.2.2⟩
 | false =>
 rw [cond_false]
 exact ⟨_,_,_,rfl,hc2,hsm⟩
end
def TSm (t:be):Prop:=t.1.size≤5∧t.2.2.length≤10∧∀ r∈t.2.2,r.length≤6
def DSm (ts:List be):Prop:=ts.length≤6∧∀ t∈ts,TSm t
theorem DSm.ok {ts:List be} (h:DSm ts):kd ts:=⟨by have:=h.1;omega,fun t ht=>by
 obtain ⟨h1,h2,h3⟩:=h.2 t ht
 exact ⟨by omega,by omega,fun r hr=>⟨by have:=h3 r hr;omega,fun _ _=>trivial⟩⟩⟩
theorem BQ:∀ (n:Nat) (l:List Int),l.length<n→∃ v:Nat,v<n∧(v:Int)∉l:=by
 intro n
 induction n with
 | zero=>intro l h;omega
 | succ n ih =>
  intro l h
  by_cases hm:(n:Int)∈l
  ·have hl:=List.length_erase_of_mem hm
   have hp:=List.length_pos_of_mem hm
   obtain ⟨v,h1,h2⟩:=ih (l.erase (n:Int)) (by omega)
   exact ⟨v,by omega,fun hv=>h2 ((List.mem_erase_of_ne (by omega)).2 hv)⟩
  ·exact ⟨n,by omega,hm⟩
section
variable {N:Nat}
abbrev lZ:List ByteArray:=[(⟨#[114]⟩:ByteArray),(⟨#[115]⟩:ByteArray),(⟨#[116]⟩:ByteArray),(⟨#[117]⟩:ByteArray),(⟨#[118]⟩:ByteArray)]
theorem Av {n m y:Int} {rows:aK} {s:ByteArray} (hs:s.size≤5) (hn:n≤5) (hy:y≤10) (hl:(rows.length:Int)≤y) (hr:∀ r∈rows,(r.length:Int)=n∧∀ v∈r,0≤v∧v<m):TSm (s,(n,rows)) :=
 ⟨hs,by show rows.length≤10;omega,fun r h=>by have:=(hr r h).1;omega⟩
theorem DU (hM:1073742848≤N) {a:List Int} (ha:eQ a) {z:List be} {m:Int} (hm:0<m∧m≤100):∀ (d k:Nat) (acc:List be) (p h:Int) (i:Nat),cw a p→i+d=5→d<k→acc.length=i→(∀ t∈acc,TSm t) →
  ∃ q g ts v,gS N k a p h z m acc lZ (lZ.length:Int) (i:Int)=some (q,g,ts,v)∧cw a q∧ts.length=5∧∀ t∈ts,TSm t:=by
 intro d
 induction d with
 | zero =>
  intro k acc p h i hc hd hk hl ht
  obtain ⟨k,rfl⟩:∃ g,k=g+1:=⟨k-1,by omega⟩
  rw [gS,decide_eq_false (show ¬ (i:Int)<(lZ.length:Int) by show ¬ (i:Int)<5;omega),cond_false]
  exact ⟨_,_,_,_,rfl,hc,by omega,ht⟩
 | succ d ih =>
  intro k acc p h i hc hd hk hl ht
  obtain ⟨k,rfl⟩:∃ g,k=g+1:=⟨k-1,by omega⟩
  have hi:i<lZ.length:=by show i<5;omega
  have hs:∀ s∈lZ,s.size≤5:=by decide
  have hs':=hs _ (List.getElem_mem hi)
  rw [gS,decide_eq_true (show (i:Int)<(lZ.length:Int) by omega),cond_true,aR hi,bs]
  obtain ⟨y,q,g,e,hy,hc1⟩:=iA (N:=N) ha (h:=h) (l:=[3,6,9]) hc (by decide)
  have hyb:0≤y∧y≤10:=by
   simp only [List.mem_cons,List.not_mem_nil,or_false] at hy
   omega
  cases eqS lZ[i] (⟨#[118]⟩:ByteArray) with
  | true =>
   obtain ⟨rows,q2,g2,e2,hc2,r1,r2⟩:=pN hM ha (h:=g) (n:=3) (m:=m) (y:=y) hc1 hm (by decide) (by omega)
   rw [cond_true,e,bs]
   dsimp only
   rw [e2,bs]
   dsimp only
   rw [bu (by decide) (by simp;omega),bs,ad1 (by omega),bs]
   refine ih k _ q2 g2 (i+1) hc2 (by omega) (by omega) (by simp;omega) fun t h=>?_
   rcases List.mem_append.1 h with h | h
   ·exact ht t h
   ·rw [List.mem_singleton] at h;rw [h];exact Av hs' (by decide) hyb.2 r1 r2
  | false =>
   obtain ⟨rows,q2,g2,e2,hc2,r1,r2⟩:=pN hM ha (h:=g) (n:=2) (m:=m) (y:=y) hc1 hm (by decide) (by omega)
   rw [cond_false,e,bs]
   dsimp only
   rw [e2,bs]
   dsimp only
   rw [bu (by decide) (by simp;omega),bs,ad1 (by omega),bs]
   refine ih k _ q2 g2 (i+1) hc2 (by omega) (by omega) (by simp;omega) fun t h=>?_
   rcases List.mem_append.1 h with h | h
   ·exact ht t h
   ·rw [List.mem_singleton] at h;rw [h];exact Av hs' (by decide) hyb.2 r1 r2
theorem uT {ts:List be} {i:Nat} {t:be} (h:∀ t∈ts,TSm t) (ht:TSm t):∀ u∈ts.set i t,TSm u:=fun u hu=>by
 rcases List.mem_or_eq_of_mem_set hu with h' | h'
 ·exact h u h'
 ·rw [h'];exact ht
theorem sk {α:Type} {xs:List α} {i:Int} {y:α} (h0:0≤i) (h:i<xs.length):sto xs i y=some (xs.set i.toNat y):=by
 obtain ⟨k,rfl⟩:=Int.eq_ofNat_of_zero_le h0
 exact i5 (by omega)
theorem vC (hM:1073742848≤N) {a:List Int} (ha:eQ a) {p h:Int} (hc:cw a p):∃ ts q g,lP N a p h=some (ts,q,g)∧cw a q∧ts.length=5∧∀ t∈ts,TSm t:=by
 unfold lP
 obtain ⟨m,q,g,e,hm,hc1⟩:=iA (N:=N) ha (h:=h) (l:=[2,3,4,6]) hc (by decide)
 have hmb:0<m∧m≤100:=by
  simp only [List.mem_cons,List.not_mem_nil,or_false] at hm
  omega
 rw [e,bs]
 dsimp only
 obtain ⟨q2,g2,ts,v,e2,hc2,hl,ht⟩:=DU hM ha (z:=[]) hmb 5 N [] q g 0 hc1 rfl (by omega) rfl (by simp)
 have e2':gS N N a q g [] m [] lZ (lZ.length:Int) 0=some (q2,g2,ts,v):=e2
 rw [e2',bs]
 unfold lpB
 dsimp only
 obtain ⟨b,q3,g3,e3,hc3⟩:=mU (N:=N) ha (h:=g2) (n:=8) hc2
 rw [e3,bs]
 dsimp only
 cases b with
 | false=>rw [cond_false];exact ⟨_,_,_,rfl,hc3,hl,ht⟩
 | true =>
  obtain ⟨x,q4,g4,e4,b0,b1,_,hc4⟩:=cx (N:=N) ha (h:=g3) (n:=5) hc3
  have b1:=b1 (by decide)
  have hx:x<(ts.length:Int):=by omega
  have hm:=ht _ (List.getElem_mem (show x.toNat<ts.length by omega))
  rw [cond_true,e4,bs]
  dsimp only
  rw [ii b0 hx,bs,sk b0 hx,bs]
  exact ⟨_,_,_,rfl,hc4,by rw [List.length_set];exact hl,uT ht ⟨hm.1,Nat.zero_le _,fun r hr=>by cases hr⟩⟩
theorem wh.t {r:Int × aK} {s:ByteArray} (hs:s.size≤5) (k:wh r):TSm (s,r):=⟨hs,by show r.2.length≤10;have:=k.2.1;omega,fun w hw=>(k.2.2 w hw).1⟩
theorem zp (hM:1073742848≤N) {a:List Int} (ha:eQ a) {p h:Int} (hc:cw a p):∃ ts q g,lV N a p h=some (ts,q,g)∧cw a q∧DSm ts:=by
 have hN:1073741824≤N:=by omega
 obtain ⟨ts,q,g,e,hc1,hl,ht⟩:=vC hM ha (h:=h) hc
 obtain ⟨x,q2,g2,e2,b0,b1,_,hc2⟩:=cx (N:=N) ha (h:=g) (n:=5) hc1
 have b1:=b1 (by decide)
 obtain ⟨y,q3,g3,e3,_,_,_,hc3⟩:=cx (N:=N) ha (h:=g2) (n:=14) hc2
 have hx:x<(ts.length:Int):=by omega
 have hm:=ht _ (List.getElem_mem (show x.toNat<ts.length by omega))
 unfold lV
 rw [e,bs]
 dsimp only
 rw [e2,bs]
 dsimp only
 rw [e3,bs]
 dsimp only
 cases h0:(y == 0) with
 | true =>
  obtain ⟨s,q4,g4,e4,hs,hc4⟩:=oS (N:=N) ha (h:=g3) (l:=[ByteArray.empty,(⟨#[82]⟩:ByteArray),(⟨#[97,98,99,100,101]⟩:ByteArray),(⟨#[97]⟩:ByteArray),(⟨#[122]⟩:ByteArray)]) hc3 (by decide)
  have hss:∀ s∈[ByteArray.empty,(⟨#[82]⟩:ByteArray),(⟨#[97,98,99,100,101]⟩:ByteArray),(⟨#[97]⟩:ByteArray),(⟨#[122]⟩:ByteArray)],s.size≤5:=by decide
  rw [cond_true,e4,bs,ii b0 hx,bs,sk b0 hx,bs]
  exact ⟨_,_,_,rfl,hc4,by rw [List.length_set];omega,uT ht ⟨hss s hs,hm.2⟩⟩
 | false =>
 rw [cond_false]
 cases h1:(y == 1) with
 | true =>
  obtain ⟨r,q4,g4,e4,hc4,hr⟩:=zl hM ha (h:=g3) hc3
  rw [cond_true,e4,bs,ii b0 hx,bs,sk b0 hx,bs]
  exact ⟨_,_,_,rfl,hc4,by rw [List.length_set];omega,uT ht (hr.t hm.1)⟩
 | false =>
 rw [cond_false]
 cases h2:(y == 2) with
 | true =>
  rw [cond_true,ii b0 hx,bs,bu (by decide) (by simp;omega),bs]
  refine ⟨_,_,_,rfl,hc3,by simp;omega,fun t h=>?_⟩
  rcases List.mem_append.1 h with h | h
  ·exact ht t h
  ·rw [List.mem_singleton] at h;rw [h];exact hm
 | false =>
 rw [cond_false]
 cases h3:(y == 3) with
 | true =>
  have es:slc ts 0 x=some ((ts.take x.toNat).drop 0):=by
   have:=iN (xs:=ts) (lo:=0) (hi:=x.toNat) (by omega) (by omega)
   rwa [show ((x.toNat:Nat):Int)=x by omega] at this
  rw [cond_true,es,bs]
  refine ⟨_,_,_,rfl,hc3,by rw [List.drop_zero,List.length_take];omega,fun t h=>ht t (List.mem_of_mem_take (by simpa using h))⟩
 | false =>
 rw [cond_false]
 exact ⟨_,_,_,rfl,hc3,by omega,ht⟩
theorem xX (hM:1073742848≤N) {a:List Int} (ha:eQ a) {p h:Int} (hc:cw a p):∃ ts r q g,la N a p h=some (ts,r,q,g)∧cw a q∧DSm ts∧QSm r:=by
 have hN:1073741824≤N:=by omega
 obtain ⟨ts,q,g,e,hc1,hl,ht⟩:=vC hM ha (h:=h) hc
 obtain ⟨r,q2,g2,e2,hc2,hr⟩:=qX hN ha (h:=g) hc1
 obtain ⟨y,q3,g3,e3,_,_,_,hc3⟩:=cx (N:=N) ha (h:=g2) (n:=24) hc2
 unfold la
 rw [e,bs]
 dsimp only
 rw [e2,bs]
 dsimp only
 rw [e3,bs]
 dsimp only
 cases h0:(y == 0) with
 | true =>
  obtain ⟨ts2,q4,g4,e4,hc4,ht4⟩:=zp hM ha (h:=g3) hc3
  rw [cond_true,e4,bs]
  exact ⟨_,_,_,_,rfl,hc4,ht4,hr.sm⟩
 | false =>
 rw [cond_false]
 cases h1:(y == 1) with
 | true =>
  obtain ⟨r2,q4,g4,e4,hc4,hr4⟩:=yY hN ha (h:=g3) hc3
  rw [cond_true,e4,bs]
  exact ⟨_,_,_,_,rfl,hc4,⟨by omega,ht⟩,hr4⟩
 | false =>
 rw [cond_false]
 exact ⟨_,_,_,_,rfl,hc3,⟨by omega,ht⟩,hr.sm⟩
theorem zw (hN:1073741824≤N) {a acc:List Int} {p h:Int} {n v:Nat} (hn:n≤5) (hacc:acc.length≤5) (hv:v<n) (hf:(v:Int)∉acc):∀ (d k r:Nat),r<n→(r+d=v∨r+d=v+n)→d≤n→d<k→∃ x:Int,gb N k a p h (n:Int) acc (r:Int)=some x∧0≤x∧x<n:=by
 intro d
 induction d with
 | zero =>
  intro k r hr hd _ hk
  obtain ⟨k,rfl⟩:∃ g,k=g+1:=⟨k-1,by omega⟩
  have:r=v:=by omega
  subst this
  have hneg:¬ 0≤cm acc (r:Int):=fun h=>hf (mR.1 h)
  rw [gb,jN hN (by omega),bs,decide_eq_false hneg,cond_false]
  exact ⟨_,rfl,by omega,by omega⟩
 | succ d ih =>
  intro k r hr hd hdn hk
  obtain ⟨k,rfl⟩:∃ g,k=g+1:=⟨k-1,by omega⟩
  rw [gb,jN hN (by omega),bs]
  by_cases hq:0≤cm acc (r:Int)
  ·rw [decide_eq_true hq,cond_true,ad1 (by omega),bs,sf (by omega),bs]
   by_cases hw:r+1=n
   ·have e:(((r+1:Nat):Int)).tmod (n:Int)=((0:Nat):Int):=by rw [hw,Int.tmod_self];rfl
    rw [e]
    exact ih k 0 (by omega) (by omega) (by omega) (by omega)
   ·have e:(((r+1:Nat):Int)).tmod (n:Int)=((r+1:Nat):Int):=Int.tmod_eq_of_lt (by omega) (by omega)
    rw [e]
    exact ih k (r+1) (by omega) (by omega) (by omega) (by omega)
  ·rw [decide_eq_false hq,cond_false]
   exact ⟨_,rfl,by omega,by omega⟩
theorem y9 (hN:1073741824≤N) {a:List Int} (ha:eQ a) {n:Nat} (hn:n≤5):∀ (d k:Nat) (acc:List Int) (p h:Int),cw a p→acc.length+d=n→d<k→(∀ v∈acc,0≤v∧v<n) →
  ∃ q g out,gZ N k a p h (n:Int) acc=some (q,g,out)∧cw a q∧out.length=n∧∀ v∈out,0≤v∧v<n:=by
 intro d
 induction d with
 | zero =>
  intro k acc p h hc hd hk hv
  obtain ⟨k,rfl⟩:∃ g,k=g+1:=⟨k-1,by omega⟩
  rw [gZ,decide_eq_false (by omega),cond_false]
  exact ⟨_,_,_,rfl,hc,by omega,hv⟩
 | succ d ih =>
  intro k acc p h hc hd hk hv
  obtain ⟨k,rfl⟩:∃ g,k=g+1:=⟨k-1,by omega⟩
  obtain ⟨x,q,g,e,b0,b1,_,hc1⟩:=cx (N:=N) ha (h:=h) (n:=(n:Int)) hc
  have b1:=b1 (by omega)
  obtain ⟨v,hv1,hv2⟩:=BQ n acc (by omega)
  obtain ⟨r,rfl⟩:=Int.eq_ofNat_of_zero_le b0
  obtain ⟨y,e2,y0,y1⟩:=zw hN (a:=a) (p:=q) (h:=g) hn (by omega) hv1 hv2 (if r≤v then v-r else v+n-r) N r (by omega) (by split <;> omega) (by split <;> omega) (by split <;> omega)
  rw [gZ,decide_eq_true (by omega),cond_true,e,bs]
  dsimp only
  have e2':gb N N a q g (n:Int) acc ((r:Nat):Int)=some y:=e2
  rw [e2',bs]
  unfold lpB
  dsimp only
  rw [bu (by decide) (by simp;omega),bs]
  refine ih k _ q g hc1 (by simp;omega) (by omega) fun w hw=>?_
  rcases List.mem_append.1 hw with h | h
  ·exact hv w h
  ·rw [List.mem_singleton] at h;rw [h];exact ⟨y0,y1⟩
theorem xn (hN:1073741824≤N) {a:List Int} (ha:eQ a) {p h:Int} {n:Nat} (hn:n≤5) (hc:cw a p):∃ out q g,kv N a p h (n:Int)=some (out,q,g)∧cw a q∧out.length=n:=by
 obtain ⟨q,g,out,e,h1,h2,_⟩:=y9 hN ha hn n N [] p h hc (by simp) (by omega) (by simp)
 unfold kv
 rw [e,bs]
 exact ⟨_,_,_,rfl,h1,h2⟩
theorem vU (hN:1073741824≤N) {a:List Int} (ha:eQ a) {p h n:Int} {ats:List aY} {o:List Int} (hc:cw a p):∃ out q g,jZ N a p h n ats o=some (out,q,g)∧cw a q∧out.length≤5:=by
 unfold jZ
 have hi:∃ m:Nat,imx 0 (imn 5 n)=(m:Int)∧m≤5:=by
  have h1:0≤imx 0 (imn 5 n)∧imx 0 (imn 5 n)≤5:=by
   unfold imx imn
   split <;> split at*<;> omega
  exact ⟨(imx 0 (imn 5 n)).toNat,by omega,by omega⟩
 obtain ⟨m,em,hm⟩:=hi
 obtain ⟨out,q,g,e,hc1,hl⟩:=xn hN ha (h:=h) hm hc
 rw [em,e,bs]
 dsimp only
 by_cases h0:(0:Int)<(out.length:Int)
 ·obtain ⟨b,q2,g2,e2,hc2⟩:=mU (N:=N) ha (h:=g) (n:=14) hc1
  rw [decide_eq_true h0,cond_true,e2,bs]
  dsimp only
  cases b with
  | false=>rw [cond_false];exact ⟨_,_,_,rfl,hc2,by omega⟩
  | true =>
   obtain ⟨x,q3,g3,e3,_,_,_,hc3⟩:=cx (N:=N) ha (h:=g2) (n:=6) hc2
   rw [cond_true,e3,bs,ii (by decide) h0,bs,sk (by decide) h0,bs]
   exact ⟨_,_,_,rfl,hc3,by rw [List.length_set];omega⟩
 ·rw [decide_eq_false h0,cond_false];exact ⟨_,_,_,rfl,hc1,by rw [hl];exact hm⟩
def JSm (ts:List be) (r:n9) (o:List Int):Prop:=DSm ts∧QSm r∧o.length≤5
theorem JSm.o {ts:List be} {r:n9} {o:List Int} (h:JSm ts r o):okI o:=⟨by have:=h.2.2;omega,fun _ _=>trivial⟩
theorem wJ (hM:1073742848≤N) {a:List Int} (ha:eQ a) {p h:Int} (hc:cw a p):∃ ts r o q g,kw N a p h=some (ts,r,o,q,g)∧cw a q∧JSm ts r o:=by
 obtain ⟨ts,r,q,g,e,hc1,ht,hr⟩:=xX hM ha (h:=h) hc
 unfold kw
 rw [e,bs]
 dsimp only
 obtain ⟨o,q2,g2,e2,hc2,hl⟩:=vU (N:=N) (by omega) ha (h:=g) (n:=r.1) (ats:=r.2.1) (o:=r.2.2) hc1
 rw [e2,bs]
 exact ⟨_,_,_,_,_,rfl,hc2,ht,hr,hl⟩
theorem EK {a:List Int}:cw a 0:=⟨Int.le_refl _,by omega⟩
theorem qG (hM:1073742848≤N) {a:List Int} (ha:eQ a):∃ ts r o,gA N a=some (ts,r,o)∧JSm ts r o:=by
 obtain ⟨h,e⟩:=zj (N:=N) (by omega) ha
 obtain ⟨ts,r,o,q,g,e2,_,hj⟩:=wJ hM ha (h:=h) EK
 unfold gA
 rw [e,bs]
 dsimp only
 rw [e2,bs]
 exact ⟨_,_,_,rfl,hj⟩
end
theorem vH {f:Nxt}:∀ {m:Nat} {p0 s r:List Int},r∈(bz f m p0).1→s.length<m→r.take (p0++s).length=p0++s→∃ h:(p0++s).length<r.length,r[(p0++s).length]∈(f (p0++s)).1
 | 0,_,_,_,_,hs,_=>absurd hs (Nat.not_lt_zero _)
 | m+1,p0,s,r,hr,hs,ht=>by
  obtain ⟨v,hv,hr⟩:=List.mem_flatMap.1 hr
  obtain ⟨s',e,hl⟩:=kq hr
  cases s with
  | nil =>
   subst e
   simp only [List.append_nil]
   refine ⟨by simp,?_⟩
   have:(p0++[v]++s')[p0.length]'(by simp)=v:=by simp
   rw [this];exact hv
  | cons w s =>
   have hw:w=v:=by
    subst e
    have h1:=congrArg (fun l:List Int=>l[p0.length]?) ht
    simp only [List.length_append,List.length_cons,List.append_assoc] at h1
    rw [List.getElem?_take_of_lt (by omega)] at h1
    simpa using h1.symm
   subst hw
   have e2:p0++w :: s=p0++[w]++s:=by simp
   rw [e2] at ht ⊢
   exact vH hr (by simp at hs;omega) ht
theorem vA {f g:Nxt} {n:Nat} (h:∀ p:List Int,p.length<n→(f p).1=(g p).1):∀ (m:Nat) (p:List Int),p.length+m≤n→(bz f m p).1=(bz g m p).1
 | 0,_,_=>rfl
 | m+1,p,hp=>by
  show (f p).1.flatMap (fun v=>(bz f m (p++[v])).1)=(g p).1.flatMap fun v=>(bz g m (p++[v])).1
  rw [h p (by omega)]
  congr 1
  funext v
  exact vA h m _ (by simp;omega)
theorem uX {ts:List be} {n:Nat} {atoms:List aY} {order:List Int} (q:QFor ts n atoms order):(bz (bb ts order atoms) n []).1=(bz (ug ts order atoms) n []).1 :=
 vA (n:=n) (fun p hp=>xG ((jo q).asc p) ((Bp q).asc p) (Ex q hp)) n [] (by simp)
section
variable {N:Nat}
theorem xk (hN:1073741824≤N) {xs ys:List Int} (hx:xs.length≤1048576):j0 N xs ys=some (decide (xs=ys)):=by
 unfold j0
 by_cases hl:xs.length=ys.length
 ·rw [BU hl,cond_false]
  refine Ah (L:=fun k i=>eS N k xs ys i) hl hx hN (fun k i h h'=>?_) (fun k=>?_)
  ·show eS N (k+1) xs ys (i:Int)=_
   rw [eS,dlt h,cond_true,aR h,bs,aR h',bs,oL,ad1 (by omega),bs]
   cases decide (xs[i]=ys[i]) <;> rfl
  ·show eS N (k+1) xs ys (xs.length:Int)=_
   rw [eS,dge (by omega),cond_false]
 ·rw [BW hl,cond_true];exact DD hl
end
section
variable {N:Nat}
theorem qW (hM:1073742848≤N) {a:List Int} (ha:eQ a):∃ ts r o,gV N a=some (ts,r,o)∧JSm ts r o:=by
 obtain ⟨ts,r,o,e,hj⟩:=qG hM ha
 unfold gV
 rw [e,bs]
 exact ⟨_,_,_,rfl,hj⟩
end
theorem qU {ts:List be} {n:Nat} {atoms:List aY} {order:List Int} (q:QFor ts n atoms order) {v:Int} (h0:0≤v) (h1:v<n):v∈order:=by
 apply Classical.byContradiction
 intro hn
 obtain ⟨h2,h3⟩:=iw q.os
 have:=ld n (v :: order) (List.nodup_cons.2 ⟨hn,h2⟩) (fun x hx=>by
  rcases List.mem_cons.1 hx with rfl | h
  ·exact ⟨h0,h1⟩
  ·have:=h3 x h;omega)
 rw [List.length_cons,q.ol] at this
 omega
theorem y7 {ts:List be} {n:Nat} {atoms:List aY} {order:List Int} (q:QFor ts n atoms order) (he:iM (bC ts order atoms)=true):(bz (ug ts order atoms) n []).1=[]:=by
 refine List.eq_nil_iff_forall_not_mem.2 fun r hr=>?_
 unfold iM bC at he
 rw [List.any_eq_true] at he
 obtain ⟨t,ht,h0⟩:=he
 rw [decide_eq_true_eq] at h0
 obtain ⟨a,ha,rfl⟩:=List.mem_map.1 ht
 obtain ⟨i,hi,rfl⟩:=List.getElem_of_mem ha
 obtain ⟨h1,h2,h3⟩:=q.al _ ha
 have hv:=h3 _ (List.getElem_mem (show 0<atoms[i].2.length by omega))
 obtain ⟨l,hl,el⟩:=List.getElem_of_mem (qU q hv.1 hv.2)
 have hol:=q.ol
 obtain ⟨s,e,hs⟩:=kq hr
 have hrl:r.length=n:=by rw [e];exact hs
 have hpl:(r.take l).length=l:=by rw [List.length_take];omega
 obtain ⟨w1,w2⟩:=vH (p0:=[]) (s:=r.take l) hr (by omega) (by rw [List.nil_append,hpl])
 obtain ⟨x,w2⟩:∃ x,x∈(ug ts order atoms (r.take l)).1:=⟨_,by simpa using w2⟩
 have k:=oQ (ls:=eD ts order atoms (r.take l)) (B:=16) fun l hl=>(gU q l hl).1
 have hin:atV ts order atoms (r.take l) i∈eD ts order atoms (r.take l):=by
  unfold eD
  rw [hpl]
  refine List.mem_map.2 ⟨i,ly.2 ⟨hi,?_⟩,rfl⟩
  rw [bk hl,el,fU hi]
  exact List.getElem_mem _
 have hx:=k.2.1 _ w2 _ hin
 unfold atV at hx
 rw [fU hi] at hx
 have hlen:=vK (il ts order atoms[i]).1 (il ts order atoms[i]).2 (kZ atoms[i].2 order (r.take l))
 have:=List.length_pos_of_mem hx
 omega
def nG (order r:List Int) (v:Int):Int:=r.getD (cm order v).toNat 0
def rZ (ts:List be) (a:aY):aK:=(bV ts a.1).1.2
def EG (ts:List be) (atoms:List aY) (f:Int→Int):Prop:=∀ a∈atoms,a.2.map f∈rZ ts a
theorem nk {vs:List Int} {v:Int} (h:v∈vs):∃ j:Nat,cm vs v=(j:Int)∧∃ hj:j<vs.length,vs[j]=v:=by
 rcases l0 vs v with ⟨h1,_⟩ | ⟨j,hj,e,e2,_⟩
 ·exact absurd h h1
 ·exact ⟨j,e2,hj,e⟩
theorem zC {vs:List Int} {f:Int→Int} {j:Nat} (h:j<vs.length):(vs.map f).getD j 0=f vs[j]:=by
 rw [bk (by rw [List.length_map];exact h),List.getElem_map]
theorem pC (vars:List Int):∀ (l out:List Int),l.Nodup→(∀ v∈l,v∈vars→cm vars v∉out)→l.foldl (eM vars) out=out++(l.filter fun v=>decide (v∈vars)).map (cm vars)
 | [],out,_,_=>by simp
 | v :: l,out,hn,ho=>by
  obtain ⟨n1,n2⟩:=List.nodup_cons.1 hn
  rw [List.foldl_cons]
  by_cases hv:v∈vars
  ·have e:eM vars out v=out++[cm vars v]:=by
    unfold eM
    rw [decide_eq_true (mR.2 hv),decide_eq_false (ho v List.mem_cons_self hv)];rfl
   rw [e,pC vars l _ n2 (fun w hw hwv hm=>by
    rcases List.mem_append.1 hm with h | h
    ·exact ho w (List.mem_cons_of_mem _ hw) hwv h
    ·rw [List.mem_singleton] at h
     obtain ⟨j,e1,hj,e2⟩:=nk hwv
     obtain ⟨k,e3,hk,e4⟩:=nk hv
     have:j=k:=by omega
     subst this
     rw [e2] at e4;subst e4;exact n1 hw),List.filter_cons,if_pos (by simpa using hv)]
   simp
  ·have e:eM vars out v=out:=by
    unfold eM
    rw [decide_eq_false (fun h=>hv (mR.1 h))];rfl
   rw [e,pC vars l _ n2 (fun w hw=>ho w (List.mem_cons_of_mem _ hw)),List.filter_cons,if_neg (by simpa using hv)]
theorem rO {vs order x:List Int} (hn:order.Nodup):cX (dw vs x) (iP vs order)=(order.filter fun v=>decide (v∈bf vs)).map fun v=>x.getD (cm vs v).toNat 0:=by
 unfold iP
 rw [pC _ _ _ hn (by simp),List.nil_append]
 unfold cX
 rw [List.map_map]
 refine List.map_congr_left fun v hv=>?_
 rw [List.mem_filter,decide_eq_true_eq] at hv
 obtain ⟨j,e1,hj,e2⟩:=nk hv.2
 show (dw vs x).getD (cm (bf vs) v).toNat 0=_
 unfold dw
 rw [e1,Int.toNat_natCast,zC hj,e2]
theorem wD {ts:List be} {order:List Int} {a:aY} {t:List Int}:t∈(il ts order a).2↔∃ x∈rZ ts a,fb a.2 x=true∧t=cX (dw a.2 x) (iP a.2 order):=by
 unfold il rZ
 dsimp only
 rw [oH,List.mem_map]
 constructor
 ·rintro ⟨y,hy,rfl⟩
  rw [oH] at hy
  unfold b7 at hy
  obtain ⟨x,hx,rfl⟩:=List.mem_map.1 hy
  rw [List.mem_filter] at hx
  exact ⟨x,hx.1,hx.2,rfl⟩
 ·rintro ⟨x,h1,h2,rfl⟩
  refine ⟨_,(oH _ _ _).2 (List.mem_map.2 ⟨x,List.mem_filter.2 ⟨h1,h2⟩,rfl⟩),rfl⟩
theorem w4 {vs order r:List Int} (hn:order.Nodup):∀ m,m≤order.length→fG vs order r m=((order.take m).filter fun v=>decide (v∈vs)).map (nG order r)
 | 0,_=>rfl
 | m+1,h=>by
  rw [jQ,w4 hn m (by omega),List.take_succ_eq_append_getElem (by omega),List.filter_append,List.map_append,bk (by omega)]
  by_cases hv:order[m]∈vs
  ·rw [decide_eq_true hv,cond_true,List.filter_cons,if_pos (by simpa using hv)]
   simp only [List.filter_nil,List.map_cons,List.map_nil]
   unfold nG
   rw [sY hn,Int.toNat_natCast]
  ·rw [decide_eq_false hv,cond_false,List.filter_cons,if_neg (by simpa using hv)]
   simp
theorem yT {vs x:List Int} (h:fb vs x=true) {i:Nat} (hi:i<vs.length):x.getD (cm vs vs[i]).toNat 0=x.getD i 0:=by
 unfold fb lX at h
 rw [List.all_eq_true] at h
 have:=h i (by simp;omega)
 unfold oG at this
 rw [decide_eq_true_eq,bk hi] at this
 exact this
theorem zf {vs x:List Int} (h:∀ i (hi:i<vs.length),x.getD (cm vs vs[i]).toNat 0=x.getD i 0):fb vs x=true:=by
 unfold fb lX
 rw [List.all_eq_true]
 intro i hi
 have hi:i<vs.length:=by simpa using hi
 unfold oG
 rw [decide_eq_true_eq,bk hi]
 exact h i hi
section
variable {ts:List be} {n:Nat} {atoms:List aY} {order:List Int}
theorem pK (q:QFor ts n atoms order):order.Nodup:=(iw q.os).1
theorem tu (q:QFor ts n atoms order) {a:aY} {r:List Int} (hr:r.length=n):kZ a.2 order r=(order.filter fun v=>decide (v∈bf a.2)).map (nG order r):=by
 unfold kZ
 have hb:=(iw q.os).2
 have h5:=q.n5
 rw [w4 (pK q) _ (by rw [q.ol,hr];exact Nat.le_refl _),hr,← q.ol,List.take_length]
 congr 1
 refine List.filter_congr fun v hv=>?_
 rw [decide_eq_decide,iy]
 have:=hb v hv
 exact ⟨fun h=>⟨by omega,h⟩,fun h=>h.2⟩
theorem By (q:QFor ts n atoms order) {a:aY} (ha:a∈atoms) {x:List Int} (hx:x∈rZ ts a):x.length=a.2.length∧bi x=true:=by
 obtain ⟨h1,h2⟩:=q.af a ha
 obtain ⟨_,h4⟩:=pw h1 h2
 obtain ⟨i,hi,rfl⟩:=List.getElem_of_mem hx
 exact h4 i hi
theorem wl (q:QFor ts n atoms order) {a:aY} (ha:a∈atoms) {r:List Int} (hr:r.length=n):kZ a.2 order r∈(il ts order a).2↔a.2.map (nG order r)∈rZ ts a:=by
 have hnd:=pK q
 obtain ⟨hl5,hl1,hv⟩:=q.al a ha
 have hF:∀ v∈a.2,v∈order.filter fun v=>decide (v∈bf a.2):=fun v hm=>by
  have h5:=q.n5
  have:=hv v hm
  rw [List.mem_filter,decide_eq_true_eq,iy]
  exact ⟨qU q this.1 this.2,by omega,hm⟩
 have hF2:∀ v,v∈(order.filter fun v=>decide (v∈bf a.2))→v∈a.2:=fun v hm=>by
  rw [List.mem_filter,decide_eq_true_eq,iy] at hm
  exact hm.2.2
 rw [wD,tu q hr]
 constructor
 ·rintro ⟨x,hx,hf,e⟩
  rw [rO hnd,List.map_inj_left] at e
  have hxl:=(By q ha hx).1
  have:a.2.map (nG order r)=x:=by
   refine List.ext_getElem (by rw [List.length_map,hxl]) fun i h1 h2=>?_
   have hi:i<a.2.length:=by rw [← hxl];exact h2
   rw [List.getElem_map,e _ (hF _ (List.getElem_mem hi)),yT hf hi,bk h2]
  rw [this];exact hx
 ·intro hx
  have key:∀ v∈a.2,(a.2.map (nG order r)).getD (cm a.2 v).toNat 0=nG order r v:=fun v hm=>by
   obtain ⟨j,e1,hj,e2⟩:=nk hm
   rw [e1,Int.toNat_natCast,zC hj,e2]
  refine ⟨_,hx,zf fun i hi=>?_,?_⟩
  ·rw [key _ (List.getElem_mem hi),zC hi]
  ·rw [rO hnd]
   exact List.map_congr_left fun v hm=>(key v (hF2 v hm)).symm
theorem tz {f:Nxt}:∀ {m:Nat} {p r:List Int},r∈(bz f m p).1↔∃ s,r=p++s∧s.length=m∧∀ l (h:l<s.length),s[l]∈(f (p++s.take l)).1
 | 0,p,r=>by
  constructor
  ·intro h;exact ⟨[],by rw [List.append_nil];exact List.mem_singleton.1 h,rfl,fun l h=>absurd h (Nat.not_lt_zero _)⟩
  ·rintro ⟨s,rfl,hs,_⟩
   rw [List.length_eq_zero_iff.1 hs,List.append_nil];exact List.mem_singleton.2 rfl
 | m+1,p,r=>by
  constructor
  ·intro h
   obtain ⟨v,hv,h⟩:=List.mem_flatMap.1 h
   obtain ⟨s,rfl,hs,hl⟩:=tz.1 h
   refine ⟨v :: s,by simp,by simp [hs],fun l h=>?_⟩
   cases l with
   | zero=>simpa using hv
   | succ l =>
    have:=hl l (by simpa using h)
    simpa using this
  ·rintro ⟨s,rfl,hs,hl⟩
   cases s with
   | nil=>simp at hs
   | cons v s =>
    have h0:=hl 0 (by simp)
    rw [List.take_zero,List.append_nil] at h0
    refine List.mem_flatMap.2 ⟨v,h0,tz.2 ⟨s,by simp,by simpa using hs,fun l h=>?_⟩⟩
    have:=hl (l+1) (by simpa using h)
    simpa using this
theorem vw (q:QFor ts n atoms order) {p:List Int} (hp:p.length<n) {x:Int}:x∈(bb ts order atoms p).1↔∀ i,i<atoms.length→order.getD p.length 0∈(fj atoms i).2→x∈atV ts order atoms p i:=by
 have ha:=uz q hp
 have k1:=pB (ls:=eD ts order atoms p) (B:=16) fun l hl=>(gU q l hl).1
 have hm:(∀ l∈eD ts order atoms p,x∈l)↔∀ i,i<atoms.length→order.getD p.length 0∈(fj atoms i).2→x∈atV ts order atoms p i:=by
  unfold eD
  constructor
  ·intro h i hi hv
   exact h _ (List.mem_map.2 ⟨i,ly.2 ⟨hi,hv⟩,rfl⟩)
  ·intro h l hl
   obtain ⟨i,hi,rfl⟩:=List.mem_map.1 hl
   exact h i (ly.1 hi).1 (ly.1 hi).2
 rw [← hm]
 exact ⟨fun h=>k1.2.1 x h,fun h=>k1.2.2.2.2 ha x h⟩
theorem vk {vs order r:List Int}:∀ {l m:Nat},l≤m→m≤r.length→fG vs order (r.take m) l=fG vs order r l
 | 0,_,_,_=>rfl
 | l+1,m,h,hm=>by
  rw [jQ,jQ,vk (by omega) hm,bk (xs:=r.take m) (by rw [List.length_take];omega),bk (xs:=r) (by omega),List.getElem_take]
theorem xf {vs order r:List Int}:∀ {l m:Nat},l≤m→∃ t,fG vs order r m=fG vs order r l++t
 | l,0,h=>by
  obtain rfl:l=0:=by omega
  exact ⟨[],by simp⟩
 | l,m+1,h=>by
  by_cases e:l=m+1
  ·subst e;exact ⟨[],by simp⟩
  ·obtain ⟨t,ht⟩:=xf (vs:=vs) (order:=order) (r:=r) (show l≤m by omega)
   rw [jQ,ht]
   cases decide (order.getD m 0∈vs)
   ·exact ⟨t,rfl⟩
   ·exact ⟨t++[r.getD m 0],by simp⟩
theorem vv {vs order r:List Int}:∀ {m:Nat},fG vs order r m≠[]→∃ l,l<m∧order.getD l 0∈vs∧fG vs order r m=fG vs order r l++[r.getD l 0]
 | 0,h=>absurd rfl h
 | m+1,h=>by
  rw [jQ] at h ⊢
  by_cases hv:order.getD m 0∈vs
  ·rw [decide_eq_true hv,cond_true];exact ⟨m,by omega,hv,rfl⟩
  ·rw [decide_eq_false hv,cond_false] at h ⊢
   obtain ⟨l,h1,h2,h3⟩:=vv h
   exact ⟨l,by omega,h2,h3⟩
theorem wR (q:QFor ts n atoms order) {a:aY} (ha:a∈atoms) {t:List Int} (ht:t∈(il ts order a).2):(t.length:Int)=(il ts order a).1:=by
 obtain ⟨_,_,h3,_⟩:=mL q ha
 obtain ⟨_,_,_,h4⟩:=bM h3
 obtain ⟨i,hi,rfl⟩:=List.getElem_of_mem ht
 exact (h4 i hi).1
theorem A8 (q:QFor ts n atoms order) {r:List Int}:r∈(bz (bb ts order atoms) n []).1↔r.length=n∧EG ts atoms (nG order r):=by
 have hol:=q.ol
 have step:∀ {r:List Int},r.length=n→((∀ l (h:l<r.length),r[l]∈(bb ts order atoms (r.take l)).1)↔∀ a∈atoms,kZ a.2 order r∈(il ts order a).2):=by
  intro r hr
  have own:∀ {l:Nat} (vs:List Int),l≤n→kZ vs order (r.take l)=fG vs order r l:=fun {l} vs hl=>by
   unfold kZ
   rw [List.length_take,Nat.min_eq_left (by omega),vk (Nat.le_refl _) (by omega)]
  have full:∀ vs:List Int,kZ vs order r=fG vs order r n:=fun vs=>by unfold kZ;rw [hr]
  constructor
  ·intro h a ha
   obtain ⟨i,hi,rfl⟩:=List.getElem_of_mem ha
   rw [full]
   have hne:fG atoms[i].2 order r n≠[]:=fun e=>by
    have h2:=tu q (a:=atoms[i]) hr
    rw [full,e] at h2
    obtain ⟨_,h1,hv⟩:=q.al _ ha
    have h3:=hv _ (List.getElem_mem (show 0<atoms[i].2.length by omega))
    have h5:=q.n5
    have h4:atoms[i].2[0]'(by omega)∈order.filter fun v=>decide (v∈bf atoms[i].2):=by
     rw [List.mem_filter,decide_eq_true_eq,iy]
     exact ⟨qU q h3.1 h3.2,by omega,List.getElem_mem _⟩
    have:=congrArg List.length h2
    rw [List.length_map] at this
    have h6:=List.length_pos_of_mem h4
    simp at this
    omega
   obtain ⟨l,h1,h2,h3⟩:=vv hne
   have hk:=(vw q (p:=r.take l) (by rw [List.length_take];omega)).1 (h l (by omega)) i hi (by rw [List.length_take,Nat.min_eq_left (by omega),fU hi];exact h2)
   unfold atV at hk
   rw [fU hi,own _ (by omega)] at hk
   unfold kL at hk
   split at hk
   ·obtain ⟨t,ht,e1,e2⟩:=rA.1 hk
    have htl:=wR q ha ht
    have hown:=tu q (a:=atoms[i]) hr
    rw [full] at hown
    have hlen:(fG atoms[i].2 order r n).length=t.length:=by
     obtain ⟨x,_,_,e5⟩:=wD.1 ht
     rw [rO (pK q)] at e5
     rw [hown,e5,List.length_map,List.length_map]
    have:fG atoms[i].2 order r n=t:=by
     rw [h3] at hlen ⊢
     rw [List.length_append] at hlen
     refine List.ext_getElem (by rw [List.length_append];exact hlen) fun j j1 j2=>?_
     by_cases hj:j<(fG atoms[i].2 order r l).length
     ·rw [List.getElem_append_left hj]
      have:=List.getElem_of_eq e1.symm (i:=j) hj
      rw [this,List.getElem_take]
     ·have hj':j=(fG atoms[i].2 order r l).length:=by simp at j1;omega
      subst hj'
      rw [List.getElem_append_right (Nat.le_refl _)]
      simp only [Nat.sub_self,List.getElem_cons_zero]
      rw [bk (by omega)] at e2 ⊢
      exact e2
    rw [this];exact ht
   ·cases hk
  ·intro h l hl
   refine (vw q (by rw [List.length_take];omega)).2 fun i hi hv=>?_
   rw [List.length_take,Nat.min_eq_left (by omega),fU hi] at hv
   have ha:=List.getElem_mem hi
   have ht:=h _ ha
   rw [full] at ht
   have htl:=wR q ha ht
   unfold atV
   rw [fU hi,own _ (by omega)]
   obtain ⟨t,e⟩:=xf (vs:=atoms[i].2) (order:=order) (r:=r) (show l+1≤n by omega)
   rw [jQ,decide_eq_true hv,cond_true,List.append_assoc] at e
   have hlt:(fG atoms[i].2 order r l).length<(fG atoms[i].2 order r n).length:=by rw [e];simp
   unfold kL
   rw [if_pos (by omega),rA]
   refine ⟨_,ht,by rw [e];simp,?_⟩
   rw [e,bk (xs:=_++_) (by simp),List.getElem_append_right (Nat.le_refl _)]
   simp only [Nat.sub_self,List.cons_append,List.nil_append,List.getElem_cons_zero]
   rw [bk (by omega)]
 rw [tz]
 constructor
 ·rintro ⟨s,e,hs,hl⟩
  rw [List.nil_append] at e
  subst e
  refine ⟨hs,fun a ha=>(wl q ha hs).1 ((step hs).1 (fun l h=>?_) a ha)⟩
  have:=hl l h
  rwa [List.nil_append] at this
 ·rintro ⟨hr,hb⟩
  refine ⟨r,rfl,hr,fun l h=>?_⟩
  rw [List.nil_append]
  exact (step hr).2 (fun a ha=>(wl q ha hr).2 (hb a ha)) l h
end
section
variable {ts:List be} {n:Int} {atoms:List aY} {out order:List Int}
theorem C3 (h:(eq ts n atoms out order).2.2=true):∃ m:Nat,n=(m:Int)∧QFor ts m atoms order∧okQ ts n atoms out order=true∧(eq ts n atoms out order).1=(n,(bz (bb ts order atoms) m []).1)∧(bz (bb ts order atoms) m []).1.length≤4000:=by
 unfold eq at h ⊢
 cases ho:okQ ts n atoms out order with
 | false=>rw [ho] at h;cases h
 | true =>
  obtain ⟨m,rfl,q,_⟩:=tM ho
  rw [ho,cond_true] at h
  rw [cond_true]
  refine ⟨m,rfl,q,rfl,?_⟩
  cases he:iM (bC ts order atoms) with
  | true =>
   rw [uX q,y7 q he]
   exact ⟨rfl,Nat.zero_le _⟩
  | false =>
   rw [he,cond_false] at h
   rw [cond_false]
   unfold jh at h ⊢
   cases hk:decide (((bz (bb ts order atoms) (m:Int).toNat []).1.length:Int)≤4000) with
   | false=>rw [hk] at h;cases h
   | true =>
    rw [decide_eq_true_eq] at hk
    exact ⟨rfl,by have:((bz (bb ts order atoms) m []).1.length:Int)≤4000:=hk;omega⟩
end
def szN (ns:List aS):Nat:=(ns.map fun x=>x.1.length).sum
theorem Cd (ns:List aS) (x:aS):szN (fZ ns x).2≤szN ns+x.1.length:=by
 unfold fZ
 split
 ·exact Nat.le_add_right _ _
 ·show szN (ns++[x])≤_
  unfold szN
  rw [List.map_append,List.sum_append];simp
theorem xv {rec:List aS→List (List Int)→Int × List aS} {e:Nat} (hr:∀ ns rs,rs≠[]→szN (rec ns rs).2≤szN ns+rs.length*e) {rows:List (List Int)} {d:Nat}:∀ f ns vals chs i,i≤rows.length →
  szN (bO rec rows d f ns vals chs i).1+(bO rec rows d f ns vals chs i).2.1.length≤szN ns+vals.length+(rows.length-i)*(e+1)
 | 0,ns,vals,chs,i,_=>by unfold bO;show szN ns+vals.length≤_;omega
 | f+1,ns,vals,chs,i,hi=>by
  unfold bO
  split
  ·rename_i hlt
   obtain ⟨g1,g2⟩:=kR (d:=d) hlt
   have h1:=hr ns _ (tZ (d:=d) hlt)
   rw [rX g2] at h1
   have h2:=xv hr (rows:=rows) (d:=d) f (rec ns ((rows.take (dM rows d i)).drop i)).2 (vals++[(rows.getD i []).getD d 0]) (chs++[(rec ns ((rows.take (dM rows d i)).drop i)).1]) (dM rows d i) g2
   rw [List.length_append,List.length_singleton] at h2
   obtain ⟨t,ht⟩:∃ t,dM rows d i=i+(t+1):=⟨dM rows d i-i-1,by omega⟩
   obtain ⟨u,hu⟩:∃ u,rows.length=i+(t+1)+u:=⟨rows.length-dM rows d i,by omega⟩
   rw [ht] at h1 h2 ⊢
   rw [hu] at h2 ⊢
   rw [show i+(t+1)+u-i=(t+1)+u by omega,Nat.add_mul]
   rw [show i+(t+1)+u-(i+(t+1))=u by omega] at h2
   rw [show i+(t+1)-i=t+1 by omega] at h1
   have e2:(t+1)*(e+1)=(t+1)*e+(t+1):=Nat.mul_succ _ _
   omega
  ·show szN ns+vals.length≤_
   omega
theorem vm:∀ (e d:Nat) (ns:List aS) (rs:List (List Int)),szN (bJ e ns rs d).2≤szN ns+rs.length*e
 | 0,d,ns,rs=>by show szN ns≤_;omega
 | e+1,d,ns,rs=>by
  have h1:=xv (e:=e) (fun ns rs _=>vm e (d+1) ns rs) (rows:=rs) (d:=d) rs.length ns [] [] 0 (by omega)
  unfold bJ
  have h2:=Cd (bO (fun ns rs=>bJ e ns rs (d+1)) rs d rs.length ns [] [] 0).1 (bO (fun ns rs=>bJ e ns rs (d+1)) rs d rs.length ns [] [] 0).2
  simp only [List.length_nil,Nat.add_zero,Nat.sub_zero] at h1
  omega
theorem BF (n:Nat) (rows:List (List Int)):szN (dS n rows)≤rows.length*n:=by
 unfold dS
 by_cases h:rows=[]
 ·rw [if_pos h];exact Nat.zero_le _
 ·rw [if_neg h]
  have:=vm n 0 zN rows
  have e:szN zN=0:=rfl
  show szN (bJ n zN rows 0).2≤_
  omega

def nq (v:Int):aS:=([v],[0])
def pot (D:List Int) (ns:List aS):Nat:=2*ns.length+2*(D.filter fun v=>decide (nq v∉ns.drop 1)).length
theorem qY {α:Type} {p q:α→Bool}:∀ {l:List α},(∀ a∈l,p a=true→q a=true)→(l.filter p).length≤(l.filter q).length
 | [],_=>Nat.le_refl _
 | a :: l,h=>by
  have h1:=qY (l:=l) fun b hb=>h b (List.mem_cons_of_mem _ hb)
  rw [List.filter_cons,List.filter_cons]
  cases hp:p a with
  | false =>
   rw [if_neg (by decide)]
   split
   ·rw [List.length_cons];omega
   ·exact h1
  | true =>
   rw [h a List.mem_cons_self hp,if_pos rfl,if_pos rfl,List.length_cons,List.length_cons];omega
theorem vD {α:Type} {p q:α→Bool} {v:α} (hp:p v=false) (hq:q v=true):∀ {l:List α},(∀ a∈l,p a=true→q a=true)→v∈l→(l.filter p).length+1≤(l.filter q).length
 | [],_,hv=>by cases hv
 | a :: l,h,hv=>by
  have h1:=qY (p:=p) (q:=q) (l:=l) fun b hb=>h b (List.mem_cons_of_mem _ hb)
  rw [List.filter_cons,List.filter_cons]
  rcases List.mem_cons.1 hv with rfl | hv
  ·rw [hp,hq,if_neg (by decide),if_pos rfl,List.length_cons];omega
  ·have h2:=vD hp hq (l:=l) (fun b hb=>h b (List.mem_cons_of_mem _ hb)) hv
   cases hpa:p a with
   | false =>
    rw [if_neg (by decide)]
    split
    ·rw [List.length_cons];omega
    ·exact h2
   | true =>
    rw [h a List.mem_cons_self hpa,if_pos rfl,if_pos rfl,List.length_cons,List.length_cons];omega
theorem vB {ns:List aS} {x:aS}:∀ f i,lq ns x f i=none→∀ j,i≤j→j<i+f→ns.getD j ([],[])≠x
 | 0,i,_,j,h1,h2=>by omega
 | f+1,i,h,j,h1,h2=>by
  unfold lq at h
  split at h
  ·cases h
  ·rename_i hne
   by_cases e:j=i
   ·rw [e];exact hne
   ·exact vB f (i+1) h j (by omega) (by omega)
theorem xI {ns:List aS} {x:aS} (h:1≤ns.length):(ns++[x]).drop 1=ns.drop 1++[x]:=by
 cases ns with
 | nil=>simp at h
 | cons a l=>rfl
theorem vi {D:List Int} {ns:List aS} {x:aS} (h:1≤ns.length):pot D (fZ ns x).2≤pot D ns+2∧1≤(fZ ns x).2.length:=by
 unfold fZ
 split
 ·exact ⟨Nat.le_add_right _ _,h⟩
 ·show pot D (ns++[x])≤_∧1≤(ns++[x]).length
  refine ⟨?_,by simp⟩
  unfold pot
  rw [xI h,List.length_append,List.length_singleton]
  have:=qY (p:=fun v=>decide (nq v∉ns.drop 1++[x])) (q:=fun v=>decide (nq v∉ns.drop 1)) (l:=D) fun a _ h1=>by
   rw [decide_eq_true_eq] at h1 ⊢
   exact fun h2=>h1 (List.mem_append_left _ h2)
  omega
theorem Cv {D:List Int} {ns:List aS} {v:Int} (h:1≤ns.length) (hv:v∈D):pot D (fZ ns (nq v)).2≤pot D ns:=by
 unfold fZ
 split
 ·exact Nat.le_refl _
 ·rename_i hf
  have hn:=vB _ _ hf
  show pot D (ns++[nq v])≤_
  unfold pot
  rw [xI h,List.length_append,List.length_singleton]
  have:=vD (v:=v) (p:=fun w=>decide (nq w∉ns.drop 1++[nq v])) (q:=fun w=>decide (nq w∉ns.drop 1)) (l:=D) (decide_eq_false (by simp)) (by
   rw [decide_eq_true_eq]
   intro hm
   obtain ⟨j,hj,e⟩:=List.getElem_of_mem hm
   rw [List.getElem_drop] at e
   rw [List.length_drop] at hj
   refine hn (1+j) (by omega) (by omega) ?_
   rw [List.getD_eq_getElem?_getD,List.getElem?_eq_getElem (by omega),Option.getD_some]
   exact e) (fun a _ h1=>by
   rw [decide_eq_true_eq] at h1 ⊢
   exact fun h2=>h1 (List.mem_append_left _ h2)) hv
  omega
theorem vS {rec:List aS→List (List Int)→Int × List aS} {n d:Nat} (hdn:d<n) {rows:List (List Int)} {pre:List Int} (ha:fq rows) (hrow:∀ r∈rows,r.length=n∧r.take d=pre) {C:List Int} (hC:∀ r∈rows,r.getD d 0∈C) :
  ∀ f ns vals chs i,fL vals→(∀ v∈vals,v∈C)→(∀ v∈vals,∀ j,i≤j→j<rows.length→v<(rows.getD j []).getD d 0) →
   fL (bO rec rows d f ns vals chs i).2.1∧∀ v∈(bO rec rows d f ns vals chs i).2.1,v∈C
 | 0,ns,vals,chs,i,hv,hc,hb=>by unfold bO;exact ⟨hv,hc⟩
 | f+1,ns,vals,chs,i,hv,hc,hb=>by
  unfold bO
  split
  ·rename_i hlt
   have hgb:=kR (d:=d) hlt
   refine vS hdn ha hrow hC f _ _ _ _ ?_ (fun v hv'=>?_) (fun v hv' j h1 h2=>?_)
   ·refine List.pairwise_append.2 ⟨hv,List.pairwise_singleton _ _,fun a h1 b h2=>?_⟩
    rw [List.mem_singleton] at h2;subst h2
    exact hb a h1 i (Nat.le_refl _) hlt
   ·rcases List.mem_append.1 hv' with h | h
    ·exact hc v h
    ·rw [List.mem_singleton] at h;subst h
     rw [xw hlt]
     exact hC _ (List.getElem_mem hlt)
   ·rcases List.mem_append.1 hv' with h | h
    ·exact hb v h j (by omega) h2
    ·rw [List.mem_singleton] at h;subst h
     have hs:=rC (rows:=rows) (d:=d) (v:=(rows.getD i []).getD d 0) (rows.length-i) i (by show dM rows d i<_;omega)
     have hs:(rows.getD (dM rows d i) []).getD d 0≠(rows.getD i []).getD d 0:=hs
     have l1:=sl hdn ha hrow (show i≤dM rows d i by omega) (by omega)
     have l2:=sl hdn ha hrow h1 h2
     omega
  ·exact ⟨hv,hc⟩
theorem vr:∀ {l D:List Int},l.Nodup→(∀ v∈l,v∈D)→l.length≤D.length
 | [],_,_,_=>Nat.zero_le _
 | v :: l,D,hn,hs=>by
  obtain ⟨h1,h2⟩:=List.nodup_cons.1 hn
  have hv:=hs v List.mem_cons_self
  have:=vr (l:=l) (D:=D.erase v) h2 fun w hw=>by
   have hne:w≠v:=fun e=>h1 (by rw [← e];exact hw)
   exact (List.mem_erase_of_ne hne).2 (hs w (List.mem_cons_of_mem _ hw))
  rw [List.length_erase_of_mem hv] at this
  have hp:0<D.length:=List.length_pos_of_mem hv
  rw [List.length_cons];omega
theorem qV {D:List Int} {rec:List aS→List (List Int)→Int × List aS} {n d t:Nat} (hdn:d<n) {rows:List (List Int)} {pre:List Int}
  (hr:∀ ns rs pre,1≤ns.length→rs≠[]→rs.Sublist rows→(∀ r∈rs,r.length=n∧r.take (d+1)=pre)→pot D (rec ns rs).2≤pot D ns+rs.length+2*t∧1≤(rec ns rs).2.length)
  (hrow:∀ r∈rows,r.length=n∧r.take d=pre):∀ f ns vals chs i,1≤ns.length→i≤rows.length →
  pot D (bO rec rows d f ns vals chs i).1+2*t*vals.length≤pot D ns+(rows.length-i)+2*t*(bO rec rows d f ns vals chs i).2.1.length∧1≤(bO rec rows d f ns vals chs i).1.length
 | 0,ns,vals,chs,i,h1,hi=>by
  unfold bO
  refine ⟨?_,h1⟩
  show pot D ns+2*t*vals.length≤pot D ns+(rows.length-i)+2*t*vals.length
  omega
 | f+1,ns,vals,chs,i,h1,hi=>by
  unfold bO
  split
  ·rename_i hlt
   obtain ⟨g1,g2⟩:=kR (d:=d) hlt
   obtain ⟨q1,q2⟩:=hr ns _ _ h1 (tZ (d:=d) hlt) rW (uI hdn hlt hrow)
   rw [rX g2] at q1
   obtain ⟨p1,p2⟩:=qV hdn hr hrow f (rec ns ((rows.take (dM rows d i)).drop i)).2 (vals++[(rows.getD i []).getD d 0]) (chs++[(rec ns ((rows.take (dM rows d i)).drop i)).1]) (dM rows d i) q2 g2
   refine ⟨?_,p2⟩
   rw [List.length_append,List.length_singleton,Nat.mul_add,Nat.mul_one] at p1
   omega
  ·refine ⟨?_,h1⟩
   show pot D ns+2*t*vals.length≤pot D ns+(rows.length-i)+2*t*vals.length
   omega
def tN:Nat→Nat
 | 0=>0
 | 1=>0
 | e+2=>10*tN (e+1)+1
theorem uB {D:List Int} {n:Nat} {C:Nat→List Int} (hC:∀ j,(C j).length≤10) (hD:C (n-1)=D):∀ (e d:Nat),d+(e+1)=n→∀ ns rs pre,1≤ns.length→rs≠[]→fq rs→(∀ r∈rs,r.length=n∧r.take d=pre)→(∀ r∈rs,∀ j,j<n→r.getD j 0∈C j) →
  pot D (bJ (e+1) ns rs d).2≤pot D ns+rs.length+2*tN (e+1)∧1≤(bJ (e+1) ns rs d).2.length
 | 0,d,hd,ns,rs,pre,h1,hne,ha,hrow,hc=>by
  obtain ⟨p1,p2⟩:=qV (D:=D) (rec:=fun ns rs=>bJ 0 ns rs (d+1)) (n:=n) (d:=d) (t:=0) (by omega) (rows:=rs) (pre:=pre) (fun ns rs pre h _ _ _=>⟨by show pot D ns≤_;omega,h⟩) hrow rs.length ns [] [] 0 h1 (by omega)
  have hloop:∀ f vals chs i,(bO (fun ns rs=>bJ 0 ns rs (d+1)) rs d f ns vals chs i).1=ns:=by
   intro f
   induction f with
   | zero=>intro vals chs i;rfl
   | succ f ih =>
    intro vals chs i
    unfold bO
    split
    ·exact ih _ _ _
    ·rfl
  unfold bJ
  by_cases hl:rs.length=1
  ·obtain ⟨r,rfl⟩:∃ r,rs=[r]:=List.length_eq_one_iff.1 hl
   have e1:bO (fun ns rs=>bJ 0 ns rs (d+1)) [r] d [r].length ns [] [] 0=(ns,nq (r.getD d 0)):=by
    show bO (fun ns rs=>bJ 0 ns rs (d+1)) [r] d 1 ns [] [] 0=_
    simp [bO,nq,bJ]
   rw [e1]
   have hv:r.getD d 0∈D:=by
    have:=hc r List.mem_cons_self d (by omega)
    rw [← hD]
    rw [show n-1=d by omega];exact this
   have h3:=Cv h1 hv
   have h4:=(vi (D:=D) (x:=nq (r.getD d 0)) h1).2
   exact ⟨Nat.le_trans h3 (by omega),h4⟩
  ·have h2:2≤rs.length:=by
    have:rs.length≠0:=fun h=>hne (List.length_eq_zero_iff.1 h)
    omega
   obtain ⟨q1,q2⟩:=vi (D:=D) (ns:=(bO (fun ns rs=>bJ 0 ns rs (d+1)) rs d rs.length ns [] [] 0).1) (x:=(bO (fun ns rs=>bJ 0 ns rs (d+1)) rs d rs.length ns [] [] 0).2) p2
   rw [hloop] at q1
   rw [hloop]
   rw [hloop] at q2
   exact ⟨Nat.le_trans q1 (by omega),q2⟩
 | e+1,d,hd,ns,rs,pre,h1,hne,ha,hrow,hc=>by
  obtain ⟨p1,p2⟩:=qV (D:=D) (rec:=fun ns rs=>bJ (e+1) ns rs (d+1)) (n:=n) (d:=d) (t:=tN (e+1)) (by omega) (rows:=rs) (pre:=pre) (fun ns' rs' pre' k1 k2 k3 k4 =>
   uB hC hD e (d+1) (by omega) ns' rs' pre' k1 k2 (List.Pairwise.sublist k3 ha) k4 (fun r hr j hj=>hc r (k3.subset hr) j hj)) hrow rs.length ns [] [] 0 h1 (by omega)
  obtain ⟨a1,a2⟩:=vS (rec:=fun ns rs=>bJ (e+1) ns rs (d+1)) (n:=n) (d:=d) (by omega) ha hrow (C:=C d) (fun r hr=>hc r hr d (by omega)) rs.length ns [] [] 0 List.Pairwise.nil (by simp) (by simp)
  have a3:=vr (yO a1) a2
  have a4:=hC d
  have a5:=Nat.mul_le_mul_left (2*tN (e+1)) (Nat.le_trans a3 a4)
  show pot D (bJ (e+2) ns rs d).2≤pot D ns+rs.length+2*(10*tN (e+1)+1)∧_
  unfold bJ
  obtain ⟨q1,q2⟩:=vi (D:=D) (ns:=(bO (fun ns rs=>bJ (e+1) ns rs (d+1)) rs d rs.length ns [] [] 0).1) (x:=(bO (fun ns rs=>bJ (e+1) ns rs (d+1)) rs d rs.length ns [] [] 0).2) p2
  refine ⟨?_,q2⟩
  rw [List.length_nil,Nat.mul_zero] at p1
  omega
theorem Et:∀ {n:Nat},n≤5→tN n≤1111
 | 0,_=>by decide
 | 1,_=>by decide
 | 2,_=>by decide
 | 3,_=>by decide
 | 4,_=>by decide
 | 5,_=>by decide
 | n+6,h=>by omega
theorem zk {n:Nat} {rows:List (List Int)} (h1:1≤n) (hn5:n≤5) (hl:rows.length≤4000) (ha:fq rows) (hrow:∀ r∈rows,r.length=n) {C:Nat→List Int} (hC:∀ j,(C j).length≤10) (hc:∀ r∈rows,∀ j,j<n→r.getD j 0∈C j):(dS n rows).length≤4000:=by
 unfold dS
 by_cases h:rows=[]
 ·rw [if_pos h];show 2≤4000;omega
 ·rw [if_neg h]
  obtain ⟨e,rfl⟩:∃ e,n=e+1:=⟨n-1,by omega⟩
  have hp:=(uB (D:=C (e+1-1)) (n:=e+1) hC rfl e 0 (by omega) zN rows [] (by decide) h ha (fun r hr=>⟨hrow r hr,rfl⟩) hc).1
  have ht:=Et hn5
  have h0:pot (C (e+1-1)) zN≤22:=by
   unfold pot
   have:=List.length_filter_le (fun v=>decide (nq v∉zN.drop 1)) (C (e+1-1))
   have:=hC (e+1-1)
   have:zN.length=1:=rfl
   omega
  have h3:2*(bJ (e+1) zN rows 0).2.length≤pot (C (e+1-1)) (bJ (e+1) zN rows 0).2:=by unfold pot;omega
  show (bJ (e+1) zN rows 0).2.length≤4000
  omega
theorem BL {ts:List be} (h:DSm ts) (s:ByteArray):(bV ts s).1.2.length≤10:=by
 unfold bV
 cases lC ts with
 | false=>exact Nat.zero_le _
 | true =>
  rw [cond_true]
  cases hf:ts.find? (fun t=>decide (t.1=s)) with
  | none=>exact Nat.zero_le _
  | some t=>exact (h.2 t (List.mem_of_find?_eq_some hf)).2.1
theorem AF {ts:List be} {n:Nat} {atoms:List aY} {order:List Int} (hd:DSm ts) (q:QFor ts n atoms order):∃ C:Nat→List Int,(∀ j,(C j).length≤10)∧∀ r∈(bz (bb ts order atoms) n []).1,∀ j,j<n→r.getD j 0∈C j:=by
 have key:∀ j:Nat,∃ L:List Int,L.length≤10∧(j<n→∀ r∈(bz (bb ts order atoms) n []).1,r.getD j 0∈L):=fun j=>by
  by_cases hj:j<n
  ·have hjo:j<order.length:=by rw [q.ol];exact hj
   have hv:=(iw q.os).2 _ (List.getElem_mem hjo)
   obtain ⟨a,ha,hm⟩:=q.cov order[j] (by omega) (by omega)
   refine ⟨(rZ ts a).map fun x=>x.getD (cm a.2 order[j]).toNat 0,by rw [List.length_map];exact BL hd a.1,fun _ r hr=>?_⟩
   obtain ⟨h1,h2⟩:=(A8 q).1 hr
   refine List.mem_map.2 ⟨_,h2 a ha,?_⟩
   obtain ⟨i,e1,hi,e2⟩:=nk hm
   rw [e1,Int.toNat_natCast,zC hi,e2]
   unfold nG
   rw [sY (pK q) hjo,Int.toNat_natCast]
  ·exact ⟨[],Nat.zero_le _,fun h=>absurd h hj⟩
 obtain ⟨C,hC⟩:=Classical.axiomOfChoice key
 exact ⟨C,fun j=>(hC j).1,fun r hr j hj=>(hC j).2 hj r hr⟩
theorem AZ {ts:List be} {n:Nat} {atoms:List aY} {order:List Int} (hd:DSm ts) (q:QFor ts n atoms order) (hl:(bz (bb ts order atoms) n []).1.length≤4000):(dS n (bz (bb ts order atoms) n []).1).length≤4000:=by
 obtain ⟨C,h1,h2⟩:=AF hd q
 obtain ⟨_,w2,w3⟩:=lO (jo q) q.n5
 exact zk q.n1 q.n5 hl w3 (fun r hr=>(w2 r hr).1) h1 h2
theorem yV {ts:List be} {n:Nat} {atoms:List aY} {order:List Int} (q:QFor ts n atoms order):eu order=true:=by
 have h5:=q.n5
 unfold eu
 rw [q.ol,decide_eq_true (by omega),q.os];rfl
section
variable {N:Nat}
theorem szL {nodes:List aS} (hn:okN nodes):∀ (m i k:Nat) (s:Nat),i+m=nodes.length→m<k→s≤i*1048576→dJ N k (s:Int) nodes (nodes.length:Int) (i:Int)=some (((s+((nodes.drop i).map fun x=>x.1.length).sum:Nat):Int),(nodes.length:Int)):=by
 have hl:=hn.1
 intro m
 induction m with
 | zero =>
  intro i k s hi hk hs
  obtain ⟨k,rfl⟩:∃ k',k=k'+1:=⟨k-1,by omega⟩
  obtain rfl:i=nodes.length:=by omega
  rw [dJ,dge (by omega),cond_false,List.drop_length];rfl
 | succ m ih =>
  intro i k s hi hk hs
  obtain ⟨k,rfl⟩:∃ k',k=k'+1:=⟨k-1,by omega⟩
  have h:i<nodes.length:=by omega
  have h1:=(hn.2 _ (List.getElem_mem h)).1.1
  have hmul:=Nat.mul_le_mul_right 1048576 (show i+1≤1048576 by omega)
  rw [Nat.add_mul] at hmul
  rw [dJ,dlt h,cond_true,aR h,bs,gX (by omega) (by omega),bs,ad1 (by omega),bs]
  have:=ih (i+1) k (s+nodes[i].1.length) (by omega) (by omega) (by rw [Nat.add_mul];omega)
  rw [eV h,List.map_cons,List.sum_cons,← Nat.add_assoc]
  exact this
theorem nI (hN:1073741824≤N) {order:List Int} {nodes:List aS} (hn:okN nodes):fD N order nodes=some (szN nodes:Int):=by
 have hl:=hn.1
 unfold fD
 rw [show (0:Int)=((0:Nat):Int) from rfl,szL hn nodes.length 0 N 0 (by omega) (by omega) (by omega),bs,lpB]
 simp [szN]
end
theorem qI {N:Nat} (hM:1073742848≤N) {x0:List Int} (_:(lU (fun _=>True) 9223372036854775807) x0) (g0:∀ v∈x0,0≤v∧v≤255):io N x0=some true:=by
 have hN:1073741824≤N:=by omega
 unfold io qx
 rw [bs]
 by_cases hb:(1048576:Int)<(x0.length:Int)
 ·rw [decide_eq_true hb];rfl
 ·rw [decide_eq_false hb,cond_false]
  have hc:eQ x0:=⟨by omega,fun v hv=>g0 v hv⟩
  obtain ⟨ts,⟨n,ats,out⟩,o,e1,hj⟩:=qW hM hc
  have d1:=hj.1.ok;have d2:=hj.2.1.atoms;have d3:=hj.2.1.out;have d4:=hj.o
  rw [e1,bs]
  dsimp only at d2 d3 ⊢
  have hr:=y5 (ts:=ts) (n:=n) (atoms:=ats) (out:=out) (order:=o)
  rw [sA hM d1 d2 d3 d4,bs,pT hM d1 d2 d3 d4,bs]
  unfold zd
  cases ht:(eq ts n ats out o).2.2 with
  | false=>rfl
  | true =>
   obtain ⟨m,rfl,q,ho,e2,hl⟩:=C3 ht
   obtain ⟨w1,w2,w3⟩:=lO (jo q) q.n5
   have h5:=q.n5
   have hal:mQ m (bz (bb ts o ats) m []).1:=⟨hl,fun i hi=>by rw [xw hi];exact (w2 _ (List.getElem_mem hi)).1⟩
   have p3:okN (dS m (bz (bb ts o ats) m []).1):=Bl h5 hal
   have h4:=AZ hj.1 q hl
   have hp:=yV q
   have r1:∀ r∈(bz (bb ts o ats) m []).1,r.length=m:=fun r hr=>(w2 r hr).1
   have v1:∀ r∈(bz (bb ts o ats) m []).1,bi r=true:=fun r hr=>(w2 r hr).2
   obtain ⟨x1,x2⟩:=wz w3 r1 v1 h4 hl hp q.ol
   have hv:=sN w3 r1 v1 h4 hp q.ol
   have hsz:=BF m (bz (bb ts o ats) m []).1
   have hmul:=Nat.mul_le_mul hl h5
   rw [e2,cond_true,Int.toNat_natCast]
   dsimp only
   rw [bne_self_eq_false,cond_false,cond_true,nh hN d4 p3,bs,x1,gK hN d4 p3,bs,hv,cond_true,mF hN d4 p3,bs,hv,cond_true]
   dsimp only
   rw [cond_true,oN hN w1 w1,bs,decide_eq_true rfl,cond_true,jX hN d4 p3,bs,x2,beq_self_eq_true,cond_true,nI hN p3,bs,q.ol]
   have hc1:((bz (bb ts o ats) m []).1.length:Int)*(m:Int)=((((bz (bb ts o ats) m []).1.length*m:Nat)):Int):=by simp
   rw [uq (by rw [hc1];omega) (by rw [hc1];omega),bs,hc1,decide_eq_true (show (szN (dS m (bz (bb ts o ats) m []).1):Int)≤(((bz (bb ts o ats) m []).1.length*m:Nat):Int) by omega),cond_true,xk hN d4.1,bs,decide_eq_true rfl]
section
variable {P:Program} {n:Nat} {Q Q':Exit→Env→World→Prop} {K:Env→World→Prop} {KQ:Env→Prop} {e:Env} {w w0:World} {c y:Code} {x:Exit} {ops:Array Oper} {rest:List Oper}
variable {d:Nat} {op:Op} {ty:TypeId} {pos:String} {af:Array Edge} {o z1 z2 z3:Operand} {v:Value} {q1:Oper}
theorem dt {p:Prop} [Decidable p] (h:decide p=true:=by rfl):p:=of_decide_eq_true h
theorem oB {α β:Type} {C:Prop} {o:Option α} {f:α→Option β} {r:β} (h:o.bind f=some r) (k:∀ x,o=some x→f x=some r→C):C:=by
 obtain ⟨x,h1,h2⟩:=ob h
 exact k x h1 h2
theorem oF {α:Type} {C:Prop} {c:Bool} {x y:Option α} {r:α} (h:(bif c then x else y)=some r) (k1:c=true→x=some r→C) (k2:c=false→y=some r→C):C:=by
 rcases oif h with ⟨h1,h2⟩ | ⟨h1,h2⟩
 ·exact k1 h1 h2
 ·exact k2 h1 h2
theorem oI {α:Type} {a b:α} (h:some a=some b):a=b:=Option.some.inj h
theorem nn {α:Type} {x:α} (h:none=some x):False:=nomatch h
theorem cR {α:Type} {a b:α} (h:a=b) (f:α→Value):Ending.returned (f a)=Ending.returned (f b):=by rw [h]
theorem sP {α:Type} {a b:α} (h:a=b) (f:α→List Asn) (S:Sat w0 w (f a)):Sat w0 w (f b):=by rw [← h];exact S
abbrev pt (b o:Nat):Value:=.pointer (some ⟨b,o,none⟩)
theorem sg (h:∀ Q':Exit→Env→World→Prop,(∀ x e w,thn (fun e w=>CW P n y Q e w) Q x e w→Q' x e w)→CW P n c Q' e w):CW P n (.seq c y) Q e w:=zO (ub h)
theorem sR {id:Nat} {l:List Oper} (h:∀ Q':Exit→Env→World→Prop,(∀ x e w,thn (fun e w=>CW P n y Q e w) Q x e w→Q' x e w)→EL P n l.toArray (fun e w=>Q' .normal e w) l e w):CW P n (.seq (.region id l.toArray false) y) Q e w:=zO (ub fun Q' q=>ah (h Q' q))
theorem gn (h:∀ Q':Exit→Env→World→Prop,(∀ x e w,Q x e w→Q' x e w)→CW P n c Q' e w):CW P n c Q e w:=ub h
theorem bg {i:Nat} (h:∀ Q':Exit→Env→World→Prop,(∀ x e w,inb i Q x e w→Q' x e w)→CW P n c Q' e w):CW P n (.block i c) Q e w:=Bf (ub h)
theorem hq {f:Exit→Env→World→Prop} (h:∀ x e w,f x e w→Q' x e w) (k:f x e w):Q' x e w:=h _ _ _ k
theorem tn (h:∀ x e w,thn K Q x e w→Q' x e w) (k:K e w):Q' .normal e w:=h _ _ _ k
theorem tr (h:∀ x e w,thn K Q x e w→Q' x e w) (k:Q .ret e w):Q' .ret e w:=h _ _ _ k
theorem tx {i:Nat} (h:∀ x e w,thn K Q x e w→Q' x e w) (k:Q (.exit i) e w):Q' (.exit i) e w:=h _ _ _ k
theorem bn {i:Nat} (h:∀ x e w,inb i Q x e w→Q' x e w) (k:Q .normal e w):Q' .normal e w:=h _ _ _ k
theorem br {i:Nat} (h:∀ x e w,inb i Q x e w→Q' x e w) (k:Q .ret e w):Q' .ret e w:=h _ _ _ k
theorem bS {i:Nat} (h:∀ x e w,inb i Q x e w→Q' x e w) (k:Q .normal e w):Q' (.exit i) e w:=h _ _ _ (Ew k)
theorem en (h:∀ x e w,thn K Q x e w→Q' x e w) (k:K e w):EL P n ops (fun e w=>Q' .normal e w) [] e w:=ag (h _ _ _ k)
theorem sn (h:∀ x e w,thn K Q x e w→Q' x e w) (k:K e w):CW P n .skip Q' e w:=aV (h _ _ _ k)
theorem pa (v:Value) (hK:EL P n ops K rest (upd e d v) w) (hx:ev e o=v:=by exact rfl) (hd:d<n:=by decide):EL P n ops K (⟨some d,.assign o,ty,pos,af,none⟩ :: rest) e w:=m6 (cj hx) hd hK
theorem pm (v:Value) (hK:EL P n ops K rest (upd e d v) w) (hx:ev e o=v:=by exact rfl) (hd:d<n:=by decide):EL P n ops K (⟨some d,.move o,ty,pos,af,none⟩ :: rest) e w:=m6 (aN hx) hd hK
theorem pM (v:Value) (hx:ev e o=v) (hK:EL P n ops K rest (upd e d v) w) (hd:d<n:=by decide):EL P n ops K (⟨some d,.move o,ty,pos,af,none⟩ :: rest) e w:=m6 (aN hx) hd hK
theorem pe (v:Value) (hp:PV P ⟨some d,op,ty,pos,af,none⟩ e w v) (hK:EL P n ops K rest (upd e d v) w) (hd:d<n:=by decide):EL P n ops K (⟨some d,op,ty,pos,af,none⟩ :: rest) e w:=m6 hp hd hK
theorem qe (v:Value) (hp:PV P ⟨some d,op,ty,pos,af,none⟩ e w v) (hK:QL P n ops w KQ rest (upd e d v)) (hd:d<n:=by decide):QL P n ops w KQ (⟨some d,op,ty,pos,af,none⟩ :: rest) e:=sj hp hd hK
theorem qm (v:Value) (hK:QL P n ops w KQ rest (upd e d v)) (hx:ev e o=v:=by exact rfl) (hd:d<n:=by decide):QL P n ops w KQ (⟨some d,.move o,ty,pos,af,none⟩ :: rest) e:=sj (aN hx) hd hK
theorem qM (v:Value) (hx:ev e o=v) (hK:QL P n ops w KQ rest (upd e d v)) (hd:d<n:=by decide):QL P n ops w KQ (⟨some d,.move o,ty,pos,af,none⟩ :: rest) e:=sj (aN hx) hd hK
theorem eo {j:Nat} {b b' c:Bool} (hc:c=b) (hK:EL P n ops K rest (upd e d undef) w) (h:yld ops e j=some c:=by exact rfl) (hb:(b == b')=false:=by exact rfl) (hd:d<n:=by decide):EL P n ops K (⟨some d,op,ty,pos,af,some (j,b')⟩ :: rest) e w:=Em h hc hb hd hK
theorem qo {j:Nat} {b b' c:Bool} (hc:c=b) (hK:QL P n ops w KQ rest (upd e d undef)) (h:yld ops e j=some c:=by exact rfl) (hb:(b == b')=false:=by exact rfl) (hd:d<n:=by decide):QL P n ops w KQ (⟨some d,op,ty,pos,af,some (j,b')⟩ :: rest) e:=Er h hc hb hd hK
theorem ei {j:Nat} {b c:Bool} {dst:Option Nat} (hc:c=b) (hK:EL P n ops K (⟨dst,op,ty,pos,af,none⟩ :: rest) e w) (h:yld ops e j=some c:=by exact rfl):EL P n ops K (⟨dst,op,ty,pos,af,some (j,b)⟩ :: rest) e w:=Ey h hc hK
theorem qi {j:Nat} {b c:Bool} {dst:Option Nat} (hc:c=b) (hK:QL P n ops w KQ (⟨dst,op,ty,pos,af,none⟩ :: rest) e) (h:yld ops e j=some c:=by exact rfl):QL P n ops w KQ (⟨dst,op,ty,pos,af,some (j,b)⟩ :: rest) e:=EE h hc hK
theorem ct {b:Bool} (hb:b=true) (h:CW P n c Q e w) (hc:ev e o=.bool b:=by exact rfl):CW P n (.cond o c y) Q e w:=zS hc hb h
theorem cf {b:Bool} (hb:b=false) (h:CW P n y Q e w) (hc:ev e o=.bool b:=by exact rfl):CW P n (.cond o c y) Q e w:=A0 hc hb h
theorem rB {a b:Bool} {Γ:List Asn} (h:some a=some b) (hS:Sat w0 w Γ):Ending.returned (.bool a)=.returned (.bool b)∧Ext w0 w:=⟨by rw [Option.some.inj h],hS.below⟩
theorem rI {a b:Int} {Γ:List Asn} (h:some a=some b) (hS:Sat w0 w Γ):Ending.returned (.int .i64 a)=.returned (.int .i64 b)∧Ext w0 w:=⟨by rw [Option.some.inj h],hS.below⟩
abbrev i_ (x:Int):Value:=.int .i64 x
abbrev n_:Value:=.slice none 0 0
theorem ec0 {f:FuncId} {args:Array Operand} {tys:Array TypeId} {vals:Array Value} {Γ:List Asn} (hg:Goes P f) (hc:Calls P f vals w fun x w'=>x=.returned v∧Ext w w') (hv:(args.toList.map (ev e)).toArray=vals) (S:Sat w0 w Γ)
  (hK:∀ w',Ext w w'→Sat w0 w' Γ→EL P n ops K rest (upd e d v) w') (hd:d<n:=by decide):EL P n ops K (⟨some d,.call ⟨.value (.func f),args,tys⟩,ty,pos,af,none⟩ :: rest) e w :=
 aX hg hc hv hd (by rintro _ w' ⟨rfl,hx⟩;exact ⟨_,rfl,hK w' hx (S.ext hx)⟩)
theorem ec1 {f:FuncId} {args:Array Operand} {tys:Array TypeId} {vals:Array Value} {Γ:List Asn} {G:Value→Value} {A:Value→Asn} (hg:Goes P f) (hc:Calls P f vals w fun x w'=>∃ v,x=.returned (G v)∧Sat w w' [A v]) (hv:(args.toList.map (ev e)).toArray=vals) (S:Sat w0 w Γ)
  (hK:∀ w' v,Ext w w'→Sat w0 w' (A v :: Γ)→EL P n ops K rest (upd e d (G v)) w') (hd:d<n:=by decide):EL P n ops K (⟨some d,.call ⟨.value (.func f),args,tys⟩,ty,pos,af,none⟩ :: rest) e w :=
 aX hg hc hv hd (by rintro _ w' ⟨v,rfl,S'⟩;exact ⟨_,rfl,hK w' v S'.below (S.call1 S')⟩)
theorem aO {X:List Nat} {C:World→Prop} (i:Nat) {f:Nat} {L:Array Bool} (ho:ops[i]? = some q1)
  (h:EL P n ops (fun e' w'=>(X.contains i=true→C w')∧AL P n ops X C K f (L.setIfInBounds i true) e' w') [q1] e w) (hr:Region.ready .any ops L=[i]:=by kernel_rfl):AL P n ops X C K (f+1) L e w:=Di i hr ho h
theorem aP {X:List Nat} {C:World→Prop} (v:Value) (i:Nat) {f:Nat} {L:Array Bool} (hi:ops[i]? = some q1) (hdst:q1.dst=some d) (hC:C w)
  (hy:SV P n ops C q1 e v) (hK:AL P n ops X C K f (L.setIfInBounds i true) (upd e d v) w) (hsel:mT ops=true:=by kernel_rfl) (hdn:d<n:=by decide) (hf:oM ops X L i q1=true:=by kernel_rfl) (hr:(Region.ready .any ops L).contains i=true:=by kernel_rfl):AL P n ops X C K (f+1) L e w:=y2 hsel i hi hdst hdn hC hf hr hy hK
theorem ca {α β:Type} {f:α→β} {l:List α} {m:List β} (h:l.map f=m):(l.map f).toArray=m.toArray:=congrArg List.toArray h
theorem Sat.t1 {a0 a1:Asn} {Γ:List Asn} (h:Sat w0 w (a0 :: a1 :: Γ)):Sat w0 w (a1 :: a0 :: Γ):=h.top 1 rfl
theorem Sat.t2 {a0 a1 a2:Asn} {Γ:List Asn} (h:Sat w0 w (a0 :: a1 :: a2 :: Γ)):Sat w0 w (a2 :: a0 :: a1 :: Γ):=h.top 2 rfl
theorem Sat.t3 {a0 a1 a2 a3:Asn} {Γ:List Asn} (h:Sat w0 w (a0 :: a1 :: a2 :: a3 :: Γ)):Sat w0 w (a3 :: a0 :: a1 :: a2 :: Γ):=h.top 3 rfl
theorem Sat.t4 {a0 a1 a2 a3 a4:Asn} {Γ:List Asn} (h:Sat w0 w (a0 :: a1 :: a2 :: a3 :: a4 :: Γ)):Sat w0 w (a4 :: a0 :: a1 :: a2 :: a3 :: Γ):=h.top 4 rfl
theorem Sat.t5 {a0 a1 a2 a3 a4 a5:Asn} {Γ:List Asn} (h:Sat w0 w (a0 :: a1 :: a2 :: a3 :: a4 :: a5 :: Γ)):Sat w0 w (a5 :: a0 :: a1 :: a2 :: a3 :: a4 :: Γ):=h.top 5 rfl
theorem Sat.t6 {a0 a1 a2 a3 a4 a5 a6:Asn} {Γ:List Asn} (h:Sat w0 w (a0 :: a1 :: a2 :: a3 :: a4 :: a5 :: a6 :: Γ)):Sat w0 w (a6 :: a0 :: a1 :: a2 :: a3 :: a4 :: a5 :: Γ):=h.top 6 rfl
theorem Sat.t7 {a0 a1 a2 a3 a4 a5 a6 a7:Asn} {Γ:List Asn} (h:Sat w0 w (a0 :: a1 :: a2 :: a3 :: a4 :: a5 :: a6 :: a7 :: Γ)):Sat w0 w (a7 :: a0 :: a1 :: a2 :: a3 :: a4 :: a5 :: a6 :: Γ):=h.top 7 rfl
theorem Sat.t8 {a0 a1 a2 a3 a4 a5 a6 a7 a8:Asn} {Γ:List Asn} (h:Sat w0 w (a0 :: a1 :: a2 :: a3 :: a4 :: a5 :: a6 :: a7 :: a8 :: Γ)):Sat w0 w (a8 :: a0 :: a1 :: a2 :: a3 :: a4 :: a5 :: a6 :: a7 :: Γ):=h.top 8 rfl
theorem Sat.r0 {a0:Asn} {Γ:List Asn} (h:Sat w0 w (a0 :: Γ)):Sat w0 w (Γ):=h.rem 0 rfl
theorem Sat.r1 {a0 a1:Asn} {Γ:List Asn} (h:Sat w0 w (a0 :: a1 :: Γ)):Sat w0 w (a0 :: Γ):=h.rem 1 rfl
theorem Sat.r2 {a0 a1 a2:Asn} {Γ:List Asn} (h:Sat w0 w (a0 :: a1 :: a2 :: Γ)):Sat w0 w (a0 :: a1 :: Γ):=h.rem 2 rfl
theorem Sat.r3 {a0 a1 a2 a3:Asn} {Γ:List Asn} (h:Sat w0 w (a0 :: a1 :: a2 :: a3 :: Γ)):Sat w0 w (a0 :: a1 :: a2 :: Γ):=h.rem 3 rfl
theorem Sat.r4 {a0 a1 a2 a3 a4:Asn} {Γ:List Asn} (h:Sat w0 w (a0 :: a1 :: a2 :: a3 :: a4 :: Γ)):Sat w0 w (a0 :: a1 :: a2 :: a3 :: Γ):=h.rem 4 rfl
theorem Sat.r5 {a0 a1 a2 a3 a4 a5:Asn} {Γ:List Asn} (h:Sat w0 w (a0 :: a1 :: a2 :: a3 :: a4 :: a5 :: Γ)):Sat w0 w (a0 :: a1 :: a2 :: a3 :: a4 :: Γ):=h.rem 5 rfl
theorem Sat.r6 {a0 a1 a2 a3 a4 a5 a6:Asn} {Γ:List Asn} (h:Sat w0 w (a0 :: a1 :: a2 :: a3 :: a4 :: a5 :: a6 :: Γ)):Sat w0 w (a0 :: a1 :: a2 :: a3 :: a4 :: a5 :: Γ):=h.rem 6 rfl
theorem Sat.r7 {a0 a1 a2 a3 a4 a5 a6 a7:Asn} {Γ:List Asn} (h:Sat w0 w (a0 :: a1 :: a2 :: a3 :: a4 :: a5 :: a6 :: a7 :: Γ)):Sat w0 w (a0 :: a1 :: a2 :: a3 :: a4 :: a5 :: a6 :: Γ):=h.rem 7 rfl
theorem Sat.r8 {a0 a1 a2 a3 a4 a5 a6 a7 a8:Asn} {Γ:List Asn} (h:Sat w0 w (a0 :: a1 :: a2 :: a3 :: a4 :: a5 :: a6 :: a7 :: a8 :: Γ)):Sat w0 w (a0 :: a1 :: a2 :: a3 :: a4 :: a5 :: a6 :: a7 :: Γ):=h.rem 8 rfl
theorem Sat.r9 {a0 a1 a2 a3 a4 a5 a6 a7 a8 a9:Asn} {Γ:List Asn} (h:Sat w0 w (a0 :: a1 :: a2 :: a3 :: a4 :: a5 :: a6 :: a7 :: a8 :: a9 :: Γ)):Sat w0 w (a0 :: a1 :: a2 :: a3 :: a4 :: a5 :: a6 :: a7 :: a8 :: Γ):=h.rem 9 rfl
end
abbrev R0_:=aB bZ 3
abbrev R1_:=aB kg 9
abbrev R2_:=pD R0_ 28
abbrev R3_:=aB R0_ 28
abbrev R4_:=oC kg R0_
abbrev R5_:=oC R0_ R0_
abbrev R6_:=oC bZ R3_
abbrev R7_:=aB R4_ 95
abbrev R8_:=aB R5_ 72
abbrev R9_:=aB R6_ 90
abbrev nZ:=oC kg R6_
abbrev bI:=aB nZ 131
abbrev T0_:=List Int
abbrev T1_:=List T0_
abbrev T2_:=List Int × List Int
abbrev T3_:=ByteArray × List Int
abbrev T4_:=Int × List T0_
abbrev T5_:=List T2_
abbrev T6_:=ByteArray × T4_
abbrev T7_:=List T6_
abbrev T8_:=Int × List T3_ × List Int
section
set_option maxRecDepth 100000
set_option maxHeartbeats 4000000
theorem xZ {w0:World} {u0:Value} {a0:List Int} (ha0:(aB u8R 5).rd w0 [u0] a0) {N:Nat} {r:Bool} (F:qx N a0=some r): Calls Tryz.prog 5 #[u0] w0 fun e w'=>e=.returned (.bool r)∧Ext w0 w' := by
 unfold qx at F;refine aJ Tryz.func5 rfl rfl dt ?_;have S:=Sat.start w0;refine sR fun _ J=>pa (.bool false) (en J (sR fun _ U=>pm u0 (pe (i_ (a0.length:Int)) (aq rfl ha0) (pe (.bool (decide (1048576 < (a0.length:Int)))) (bA rfl rfl) (pa (.bool (decide (1048576 < (a0.length:Int)))) (en U (aj (aH rfl rfl ?_))))))));exact rB F S
theorem vX {w0:World} {u0:Value} {a0:List Int} (ha0:(aB u8R 5).rd w0 [u0] a0) {N:Nat} {r:Int × Int} (F:md N a0=some r): Calls Tryz.prog 20 #[u0] w0 fun e w'=>∃ (q0:Nat),e=.returned (pt q0 0)∧Sat w0 w' [Box q0 77 [u0,i_ r.1,i_ r.2]] := by
 unfold md at F;refine aJ Tryz.func20 rfl rfl dt ?_;have S:=Sat.start w0;refine sR fun _ Fb=>pa (.pointer none) (en Fb (sR fun _ Fc=>pm u0 (pe (i_ (a0.length:Int)) (aq rfl ha0) (oB F fun EU E3 F=>pe (i_ EU) (aD rfl rfl E3) (pa (i_ EU) (en Fc (sg fun _ EZ=>sR fun _ Fd=>pa (i_ 0) (en Fd (bg fun _ E0=>?_)))))))));obtain ⟨Fe,hL,EY⟩:=ob F;refine aF (fun k e w=>∃ (J:Int),∃ (U:Int),e 0=u0∧e 3=i_ J∧e 4=i_ U∧Sat w0 w []∧hQ N k a0 J U=some Fe) N ?_ ?_ ?_
 ·exact ⟨EU,0,rfl,rfl,rfl,S,hL⟩
 ·rintro e w ⟨_,_,_,_,_,_,hz⟩; exact nn hz
 rintro k Fo Fp ⟨J,U,Z,EP,EO,S,F⟩;refine gn fun _ EV=>sg fun _ EW=>sR fun _ E1=>pM (i_ U) EO (pM u0 Z (pe (i_ (a0.length:Int)) (aq rfl ha0) (pe (.bool (decide (U < (a0.length:Int)))) (aL rfl rfl) (pm (.bool (decide (U < (a0.length:Int)))) (oF F (fun Y F=>?_) fun Y F=>?_)))))
 ·refine ei Y (pM (i_ U) EO (ei Y (pe (.bool (decide (U < 4000))) (aL rfl rfl) (pe (.bool (decide (U < 4000))) (aw rfl Y rfl) (en E1 (oF F (fun EQ F=>?_) fun EQ F=>?_))))))
  ·refine ct EQ (sn EW (sg fun _ Ff=>bg fun _ Fg=>ah (pM (i_ J) EP (oB F fun Fh E4 F=>pe (i_ Fh) (rb rfl rfl E4) (pM u0 Z (pM (i_ U) EO (oB F fun E2 E5 F=>?_)))))));refine aE (wA:=w0) rfl ha0 rfl dt rfl E5 dt ?_;intro Fq Fl Fr E6 E7;obtain rfl:=E6;refine pe (.int .u8 E2) (ac rfl ((ak S.below E7) 0 _ rfl)) (pe (i_ (IntKind.i64.wrap E2)) (xu Tryz.underlying5 Tryz.underlying3 rfl) (oB F fun Fi E8 F=>pe (i_ Fi) (aD rfl rfl E8) (oB F fun ER E9 F=>pe (i_ ER) (aD rfl rfl E9) (pe (i_ (gH ER 1073741823)) (wj rfl rfl) (pa (i_ (gH ER 1073741823)) (ag (bn Fg (tn Ff (ah (pM (i_ U) EO (oB F fun EX Fa F=>pe (i_ EX) (aD rfl rfl Fa) (pa (i_ EX) (en EV ?_)))))))))))));replace S:=S.keep 0;exact ⟨(gH ER 1073741823),EX,Z,rfl,rfl,S,F⟩
  refine cf EQ (aG (tx EW (tx EV ?_)));replace F:=exB F EY;refine bS E0 (tn EZ (sR fun _ Fj=>pM u0 Z (pM (i_ J) EP (pe (.agg #[u0,i_ 0,i_ J]) (bj [(0,[u0]),(2,[i_ J])] [u0,i_ 0,i_ J] (cH (aM rfl (oc ha0)) (cH rfl rfl)) rfl) ?_))));refine bo [u0,i_ 0,i_ J] rfl S dt ?_;intro Fs ES S Fm;refine pa (pt ES 0) (en Fj (aj (aH rfl rfl ?_)));have hr:=oI F;exact ⟨ES,cR hr fun r=>.pointer (some ⟨ES,0,none⟩),sP hr (fun r=>[Box ES 77 [u0,i_ r.1,i_ r.2]]) (S.keep 1)⟩
 refine eo Y (eo Y (pe (.bool false) (ax rfl Y rfl) (en E1 (cf rfl (aG (tx EW (tx EV ?_)))))));replace F:=exB F EY;refine bS E0 (tn EZ (sR fun _ Fk=>pM u0 Z (pM (i_ J) EP (pe (.agg #[u0,i_ 0,i_ J]) (bj [(0,[u0]),(2,[i_ J])] [u0,i_ 0,i_ J] (cH (aM rfl (oc ha0)) (cH rfl rfl)) rfl) ?_))));refine bo [u0,i_ 0,i_ J] rfl S dt ?_;intro Ft ET S Fn;refine pa (pt ET 0) (en Fk (aj (aH rfl rfl ?_)));have hr:=oI F;exact ⟨ET,cR hr fun r=>.pointer (some ⟨ET,0,none⟩),sP hr (fun r=>[Box ET 77 [u0,i_ r.1,i_ r.2]]) (S.keep 1)⟩
theorem jD {w0:World} {Z:World} {G0:List Asn} {b0:Nat} {u0:Value} {a0:List Int} {a1:Int} {a2:Int} (ha0:(aB u8R 5).rd Z [u0] a0) (S:Sat Z w0 (Box b0 77 [u0,i_ a1,i_ a2] :: G0)) {N:Nat} {r:Int × Int × Int} (F:gQ N a0 a1 a2=some r): Calls Tryz.prog 47 #[.pointer (some ⟨b0,0,none⟩)] w0 fun e w'=>e=.returned (i_ r.1)∧Sat Z w' (Box b0 77 [u0,i_ r.2.1,i_ r.2.2] :: G0) := by
 unfold gQ at F;refine aJ Tryz.func47 rfl rfl dt ?_;refine sR fun _ EZ=>pa (i_ 0) (en EZ (sR fun _ E0=>pm (pt b0 0) (pm (pt b0 0) (pe (pt b0 0) (dv rfl) (pe (pt b0 (0 + 2)) (ae rfl) (pe (i_ a2) (ac rfl ((S.boxAt 0 rfl) 2 _ rfl)) (pe (i_ (IntKind.i64.wrap (a2 * 6364136223846793005))) (Cj rfl rfl) (pe (i_ (IntKind.i64.wrap ((IntKind.i64.wrap (a2 * 6364136223846793005)) + 1442695040888963407))) (uN rfl rfl) (pe (pt b0 0) (dv rfl) (pe (pt b0 (0 + 2)) (ae rfl) ?_))))))))));refine ap (S.top 0 rfl) rfl [i_ (IntKind.i64.wrap ((IntKind.i64.wrap (a2 * 6364136223846793005)) + 1442695040888963407))] rfl rfl dt (all_cons rfl rfl) ?_;intro E1 S;replace S:Sat Z E1 (Box b0 77 [u0,i_ a1,i_ (IntKind.i64.wrap ((IntKind.i64.wrap (a2 * 6364136223846793005)) + 1442695040888963407))] :: G0):=S;refine en E0 (sg fun _ E2=>?_);refine bF (by kernel_rfl) (by kernel_rfl) ?_;refine qm (pt b0 0) (qe (pt b0 0) (dv rfl) (qe (pt b0 (0 + 2)) (ae rfl) (qe (i_ (IntKind.i64.wrap ((IntKind.i64.wrap (a2 * 6364136223846793005)) + 1442695040888963407))) (ac rfl ((S.boxAt 0 rfl) 2 _ rfl)) (oB F fun J ER F=>qe (i_ J) (AK rfl rfl ER) (qm (pt b0 0) (qe (pt b0 0) (dv rfl) (qe (pt b0 (0 + 2)) (ae rfl) (qe (i_ (IntKind.i64.wrap ((IntKind.i64.wrap (a2 * 6364136223846793005)) + 1442695040888963407))) (ac rfl ((S.boxAt 0 rfl) 2 _ rfl)) (oB F fun U ES F=>qe (i_ U) (AK rfl rfl ES) (qe (i_ (kp J U)) (D4 rfl rfl) (qe (i_ (gH (kp J U) 255)) (wj rfl rfl) (qe (i_ (gH (kp J U) 255)) (cj rfl) (aZ ?_)))))))))))));intro E9 ET;replace S:=S.ext ET;refine tn E2 (sg fun _ EP=>sg fun _ E3=>?_);refine bF (by kernel_rfl) (by kernel_rfl) ?_;refine qm (pt b0 0) (qe (pt b0 0) (dv rfl) (qe (pt b0 (0 + 1)) (ae rfl) (qe (i_ a1) (ac rfl ((S.boxAt 0 rfl) 1 _ rfl)) (qm (pt b0 0) (qe (pt b0 0) (dv rfl) (qe (pt b0 (0 + 0)) (ae rfl) (qe u0 (ac rfl ((S.boxAt 0 rfl) 0 _ rfl)) (qe (i_ (a0.length:Int)) (aq rfl ha0) (qe (.bool (decide (a1 < (a0.length:Int)))) (aL rfl rfl) (aZ ?_))))))))));intro E4 EU;replace S:=S.ext EU;refine tn E3 (oF F (fun EO F=>?_) fun EO F=>?_)
 ·refine ct EO (sg fun _ E5=>?_);refine bF (by kernel_rfl) (by kernel_rfl) ?_;refine qm (i_ (gH (kp J U) 255)) (qm (pt b0 0) (qe (pt b0 0) (dv rfl) (qe (pt b0 (0 + 0)) (ae rfl) (qe u0 (ac rfl ((S.boxAt 0 rfl) 0 _ rfl)) (qm (pt b0 0) (qe (pt b0 0) (dv rfl) (qe (pt b0 (0 + 1)) (ae rfl) (qe (i_ a1) (ac rfl ((S.boxAt 0 rfl) 1 _ rfl)) (oB F fun Y EV F=>?_)))))))));refine aU (wA:=Z) rfl ha0 rfl dt rfl EV dt ?_;intro Fa E8 Fb EW EX;obtain rfl:=EW;refine qe (.int .u8 Y) (ac rfl ((ak S.below EX) 0 _ rfl)) (qe (i_ (IntKind.i64.wrap Y)) (xu Tryz.underlying5 Tryz.underlying3 rfl) (qe (i_ (IntKind.i64.wrap ((gH (kp J U) 255) + (IntKind.i64.wrap Y)))) (uN rfl rfl) (qe (i_ (gH (IntKind.i64.wrap ((gH (kp J U) 255) + (IntKind.i64.wrap Y))) 255)) (wj rfl rfl) (qe (i_ (gH (IntKind.i64.wrap ((gH (kp J U) 255) + (IntKind.i64.wrap Y))) 255)) (cj rfl) (aZ ?_)))));intro Fc EY;replace S:=S.ext EY;refine tn E5 (ah (pm (pt b0 0) (pm (pt b0 0) (pe (pt b0 0) (dv rfl) (pe (pt b0 (0 + 1)) (ae rfl) (pe (i_ a1) (ac rfl ((S.boxAt 0 rfl) 1 _ rfl)) (pe (i_ (IntKind.i64.wrap (a1 + 1))) (uN rfl rfl) (pe (pt b0 0) (dv rfl) (pe (pt b0 (0 + 1)) (ae rfl) ?_)))))))));refine ap (S.top 0 rfl) rfl [i_ (IntKind.i64.wrap (a1 + 1))] rfl rfl dt (all_cons rfl rfl) ?_;intro EQ S;replace S:Sat Z EQ (Box b0 77 [u0,i_ (IntKind.i64.wrap (a1 + 1)),i_ (IntKind.i64.wrap ((IntKind.i64.wrap (a2 * 6364136223846793005)) + 1442695040888963407))] :: G0):=S;refine en EP (sR fun _ E6=>pm (i_ (gH (IntKind.i64.wrap ((gH (kp J U) 255) + (IntKind.i64.wrap Y))) 255)) (pa (i_ (gH (IntKind.i64.wrap ((gH (kp J U) 255) + (IntKind.i64.wrap Y))) 255)) (en E6 (aj (aH rfl rfl ?_)))));have hr:=oI F;exact ⟨(cR hr fun r=>i_ r.1 :),Eq.mp (congrArg (fun (r:Int × Int × Int)=>Sat Z EQ (Box b0 77 [u0,i_ r.2.1,i_ r.2.2] :: G0)) hr :) S⟩
 refine cf EO (sn EP (sR fun _ E7=>pm (i_ (gH (kp J U) 255)) (pa (i_ (gH (kp J U) 255)) (en E7 (aj (aH rfl rfl ?_))))));have hr:=oI F;exact ⟨(cR hr fun r=>i_ r.1 :),Eq.mp (congrArg (fun (r:Int × Int × Int)=>Sat Z E4 (Box b0 77 [u0,i_ r.2.1,i_ r.2.2] :: G0)) hr :) S⟩
theorem bT {w0:World} {J:World} {G0:List Asn} {b0:Nat} {u0:Value} {a0:List Int} {a1:Int} {a2:Int} {a3:Int} (ha0:(aB u8R 5).rd J [u0] a0) (S:Sat J w0 (Box b0 77 [u0,i_ a1,i_ a2] :: G0)) {N:Nat} {r:Int × Int × Int} (F:bW N a0 a1 a2 a3=some r): Calls Tryz.prog 23 #[.pointer (some ⟨b0,0,none⟩),i_ a3] w0 fun e w'=>e=.returned (i_ r.1)∧Sat J w' (Box b0 77 [u0,i_ r.2.1,i_ r.2.2] :: G0) := by
 unfold bW at F;refine aJ Tryz.func23 rfl rfl dt ?_;refine sR fun _ Fb=>pa (i_ 0) (en Fb (sg fun _ ER=>sR fun _ Fc=>pm (i_ a3) (pe (.bool (decide (a3 ≤ 0))) (iL rfl rfl) (en Fc (oF F (fun U F=>?_) fun U F=>?_)))))
 ·refine ct U (sR fun _ Fd=>pa (i_ 0) (en Fd (aj (tr ER (aH rfl rfl ?_)))));have hr:=oI F;exact ⟨(cR hr fun r=>i_ r.1 :),Eq.mp (congrArg (fun (r:Int × Int × Int)=>Sat J w0 (Box b0 77 [u0,i_ r.2.1,i_ r.2.2] :: G0)) hr :) S⟩
 refine cf U (sn ER (sg fun _ ES=>sR fun _ Fe=>pm (i_ a3) (pe (.bool (decide (a3 ≤ 256))) (iL rfl rfl) (en Fe (oF F (fun Y F=>?_) fun Y F=>?_)))))
 ·refine ct Y (sR fun _ Ff=>pm (pt b0 0) (oB F fun ET EY F=>?_));refine aX rE (jD ha0 S EY) (ca (ai rfl rfl)) dt ?_;rintro _ EU ⟨rfl,S⟩;refine ⟨_,rfl,?_⟩;replace S:Sat J EU (Box b0 77 [u0,i_ ET.2.1,i_ ET.2.2] :: G0):=S;refine pm (i_ a3) (oB F fun EV EZ F=>pe (i_ EV) (pf rfl rfl EZ) (pa (i_ EV) (en Ff (aj (tr ES (aH rfl rfl ?_))))));have hr:=oI F;exact ⟨(cR hr fun r=>i_ r.1 :),Eq.mp (congrArg (fun (r:Int × Int × Int)=>Sat J EU (Box b0 77 [u0,i_ r.2.1,i_ r.2.2] :: G0)) hr :) S⟩
 refine cf Y (sn ES (sR fun _ Fg=>pm (pt b0 0) (oB F fun Z E0 F=>?_)));refine aX rE (jD ha0 S E0) (ca (ai rfl rfl)) dt ?_;rintro _ Fh ⟨rfl,S⟩;refine ⟨_,rfl,?_⟩;replace S:Sat J Fh (Box b0 77 [u0,i_ Z.2.1,i_ Z.2.2] :: G0):=S;refine pa (i_ Z.1) (en Fg (sR fun _ Fi=>pm (pt b0 0) (oB F fun EO E1 F=>?_)));refine aX rE (jD ha0 S E1) (ca (ai rfl rfl)) dt ?_;rintro _ Fj ⟨rfl,S⟩;refine ⟨_,rfl,?_⟩;replace S:Sat J Fj (Box b0 77 [u0,i_ EO.2.1,i_ EO.2.2] :: G0):=S;refine pa (i_ EO.1) (en Fi (sR fun _ Fk=>pm (pt b0 0) (oB F fun EP E2 F=>?_)));refine aX rE (jD ha0 S E2) (ca (ai rfl rfl)) dt ?_;rintro _ Fl ⟨rfl,S⟩;refine ⟨_,rfl,?_⟩;replace S:Sat J Fl (Box b0 77 [u0,i_ EP.2.1,i_ EP.2.2] :: G0):=S;refine pa (i_ EP.1) (en Fk (sR fun _ Fm=>pm (pt b0 0) (oB F fun EQ E3 F=>?_)));refine aX rE (jD ha0 S E3) (ca (ai rfl rfl)) dt ?_;rintro _ EW ⟨rfl,S⟩;refine ⟨_,rfl,?_⟩;replace S:Sat J EW (Box b0 77 [u0,i_ EQ.2.1,i_ EQ.2.2] :: G0):=S;refine pa (i_ EQ.1) (en Fm (sR fun _ Fn=>pm (i_ Z.1) (oB F fun Fo E4 F=>pe (i_ Fo) (rb rfl rfl E4) (pm (i_ EO.1) (oB F fun Fp E5 F=>pe (i_ Fp) (rb rfl rfl E5) (oB F fun Fq E6 F=>pe (i_ Fq) (aD rfl rfl E6) (pm (i_ EP.1) (oB F fun Fr E7 F=>pe (i_ Fr) (rb rfl rfl E7) (oB F fun Fs E8 F=>pe (i_ Fs) (aD rfl rfl E8) (pm (i_ EQ.1) (oB F fun Ft E9 F=>pe (i_ Ft) (aD rfl rfl E9) (pm (i_ a3) (oB F fun EX Fa F=>pe (i_ EX) (pf rfl rfl Fa) (pa (i_ EX) (en Fn (aj (aH rfl rfl ?_)))))))))))))))));have hr:=oI F;exact ⟨(cR hr fun r=>i_ r.1 :),Eq.mp (congrArg (fun (r:Int × Int × Int)=>Sat J EW (Box b0 77 [u0,i_ r.2.1,i_ r.2.2] :: G0)) hr :) S⟩
theorem kN {w0:World} {U:World} {G0:List Asn} {b0:Nat} {u0:Value} {a0:List Int} {a1:Int} {a2:Int} {a3:Int} (ha0:(aB u8R 5).rd U [u0] a0) (S:Sat U w0 (Box b0 77 [u0,i_ a1,i_ a2] :: G0)) {N:Nat} {r:Bool × Int × Int} (F:ir N a0 a1 a2 a3=some r): Calls Tryz.prog 45 #[.pointer (some ⟨b0,0,none⟩),i_ a3] w0 fun e w'=>e=.returned (.bool r.1)∧Sat U w' (Box b0 77 [u0,i_ r.2.1,i_ r.2.2] :: G0) := by
 unfold ir at F;refine aJ Tryz.func45 rfl rfl dt ?_;refine sR fun _ EO=>pa (.bool false) (en EO (sR fun _ EP=>pm (pt b0 0) (pm (i_ a3) (oB F fun J Z F=>?_))));refine aX f7 (bT ha0 S Z) (ca (ai rfl (ai rfl rfl))) dt ?_;rintro _ Y ⟨rfl,S⟩;refine ⟨_,rfl,?_⟩;replace S:Sat U Y (Box b0 77 [u0,i_ J.2.1,i_ J.2.2] :: G0):=S;refine pe (.bool (J.1 == 0)) (bq rfl rfl) (pa (.bool (J.1 == 0)) (en EP (aj (aH rfl rfl ?_))));have hr:=oI F;exact ⟨(cR hr fun r=>.bool r.1 :),Eq.mp (congrArg (fun (r:Bool × Int × Int)=>Sat U Y (Box b0 77 [u0,i_ r.2.1,i_ r.2.2] :: G0)) hr :) S⟩
theorem fm {w0:World} {U:World} {G0:List Asn} {b0:Nat} {u0:Value} {a0:List Int} {a1:Int} {a2:Int} {u3:Value} {a3:List Int} (ha0:(aB u8R 5).rd U [u0] a0) (S:Sat U w0 (Box b0 77 [u0,i_ a1,i_ a2] :: Own R0_ [u3] a3 :: G0)) {N:Nat} {r:Int × Int × Int} (F:dX N a0 a1 a2 a3=some r): Calls Tryz.prog 95 #[.pointer (some ⟨b0,0,none⟩),u3] w0 fun e w'=>e=.returned (i_ r.1)∧Sat U w' (Box b0 77 [u0,i_ r.2.1,i_ r.2.2] :: G0) := by
 unfold dX at F;refine aJ Tryz.func95 rfl rfl dt ?_;refine sR fun _ ER=>pa (i_ 0) (en ER (sR fun _ ES=>pm u3 (pm (pt b0 0) (pm u3 (pe (i_ (a3.length:Int)) (aq rfl (S.rdAt (R:=R0_) 1 rfl)) (oB F fun Y EQ F=>?_))))));refine aX f7 (bT ha0 S EQ) (ca (ai rfl (ai rfl rfl))) dt ?_;rintro _ EO ⟨rfl,S⟩;refine ⟨_,rfl,?_⟩;replace S:Sat U EO (Box b0 77 [u0,i_ Y.2.1,i_ Y.2.2] :: Own R0_ [u3] a3 :: G0):=S;refine oB F fun EP J F=>?_;obtain ⟨ET,EU,Z⟩:=bp 1 S rfl J;refine pe (pt ET (Y.1.toNat * 1)) (bh (v:=u3) rfl Z rfl J) (pe (i_ EP) (ac rfl (S.ownCell 1 rfl Z J)) (pa (i_ EP) (en ES (aj (aH rfl rfl ?_)))));have hr:=oI F;replace S:=S.r1;exact ⟨(cR hr fun r=>i_ r.1 :),Eq.mp (congrArg (fun (r:Int × Int × Int)=>Sat U EO (Box b0 77 [u0,i_ r.2.1,i_ r.2.2] :: G0)) hr :) S⟩
theorem eh {w0:World} {a0:Int} {a1:Int} {a2:Int}  {N:Nat} {r:Bool} (F:ew N a0 a1 a2=some r): Calls Tryz.prog 40 #[i_ a0,i_ a1,i_ a2] w0 fun e w'=>e=.returned (.bool r)∧Ext w0 w' := by
 unfold ew at F;refine aJ Tryz.func40 rfl rfl dt ?_;have S:=Sat.start w0;refine sR fun _ Y=>pa (.bool false) (en Y (sR fun _ U=>pm (i_ a0) (pm (i_ a1) (pe (.bool (decide (a1 ≤ a0))) (eI rfl rfl) (pm (.bool (decide (a1 ≤ a0))) (oF F (fun J F=>?_) fun J F=>?_))))))
 ·refine ei J (pm (i_ a0) (ei J (pm (i_ a2) (ei J (pe (.bool (decide (a0 ≤ a2))) (iL rfl rfl) (pe (.bool (decide (a0 ≤ a2))) (aw rfl J rfl) (pa (.bool (decide (a0 ≤ a2))) (en U (aj (aH rfl rfl ?_))))))))));exact rB F S
 refine eo J (eo J (eo J (pe (.bool false) (ax rfl J rfl) (pa (.bool false) (en U (aj (aH rfl rfl ?_)))))));exact rB F S
theorem jt {w0:World} {u0:Value} {a0:List Int} (ha0:R0_.rd w0 [u0] a0) {N:Nat} {r:Bool} (F:eB N a0=some r): Calls Tryz.prog 39 #[u0] w0 fun e w'=>e=.returned (.bool r)∧Ext w0 w' := by
 unfold eB at F;refine aJ Tryz.func39 rfl rfl dt ?_;have S:=Sat.start w0;refine sR fun _ E2=>pa (.bool false) (en E2 (sg fun _ ES=>sR fun _ E3=>pa (i_ 0) (en E3 (bg fun _ ET=>?_))));obtain ⟨E4,hL,ER⟩:=ob F;refine aF (fun k e w=>∃ (J:Int),e 0=u0∧e 3=i_ J∧Sat w0 w []∧dg N k a0 J=some E4) N ?_ ?_ ?_
 ·exact ⟨0,rfl,rfl,S,hL⟩
 ·rintro e w ⟨_,_,_,_,hz⟩; exact nn hz
 rintro k Fd Fe ⟨J,U,Y,S,F⟩;refine gn fun _ EP=>sg fun _ EU=>sR fun _ E5=>pM (i_ J) Y (pM u0 U (pe (i_ (a0.length:Int)) (aq rfl ha0) (pe (.bool (decide (J < (a0.length:Int)))) (aL rfl rfl) (en E5 (oF F (fun Z F=>?_) fun Z F=>?_)))))
 ·refine ct Z (sn EU (sg fun _ EV=>bg fun _ EW=>sR fun _ E6=>pM u0 U (pM (i_ J) Y (oB F fun E7 EX F=>?_))));refine aE (wA:=w0) rfl ha0 rfl dt rfl EX dt ?_;intro Ff Fb Fg EY EZ;obtain rfl:=EY;refine pe (i_ E7) (ac rfl ((ak S.below EZ) 0 _ rfl)) (oB F fun E8 E0 F=>?_);refine ec0 j6 (eh E0) (ca (ai rfl (ai rfl (ai rfl rfl)))) S fun Fh Fc S=>?_;refine pe (.bool (!E8)) (bc rfl) (en E6 (oF F (fun EO F=>?_) fun EO F=>?_))
  ·refine cf (am EO) (aV (bn EW (tn EV (ah (pM (i_ J) Y (oB F fun EQ E1 F=>pe (i_ EQ) (aD rfl rfl E1) (pa (i_ EQ) (en EP ?_))))))));replace S:=S.keep 0;exact ⟨EQ,U,rfl,S,F⟩
  refine ct (an EO) (sR fun _ E9=>pa (.bool false) (en E9 (aj (br EW (tr EV (tr EP (br ET (tr ES ?_))))))));replace F:=exL F ER;refine aH rfl rfl ?_;exact rB F S
 refine cf Z (aG (tx EU (tx EP ?_)));replace F:=exA F ER;refine bS ET (tn ES (sR fun _ Fa=>pa (.bool true) (en Fa (aj (aH rfl rfl ?_)))));exact rB F S
theorem pk {w0:World} {a0:Int} {u1:Value} {a1:List T0_} (ha1:R3_.rd w0 [u1] a1) {N:Nat} {r:Int × List T0_} (F:j9 N a0 a1=some r): Calls Tryz.prog 59 #[.agg #[i_ a0,u1]] w0 fun e w'=>∃ (q0:Value),e=.returned (.agg #[i_ r.1,q0])∧Sat w0 w' [Own R3_ [q0] r.2] := by
 unfold j9 at F;refine aJ Tryz.func59 rfl rfl dt ?_;have S:=Sat.start w0;refine sR fun _ Fd=>?_;refine bo [i_ a0,u1] rfl S dt ?_;intro FA U S Ft;refine aQ S dt ?_;intro FB EP S Fu;refine en Fd (sR fun _ Fe=>pe (pt U (0 + 0)) (ae rfl) (pe (i_ a0) (ac rfl ((S.boxAt 1 rfl) 0 _ rfl)) (pe (.agg #[i_ a0,n_]) (bj [(0,[i_ a0])] [i_ a0,n_] (cH rfl rfl) rfl) ?_)));refine aQ S dt ?_;intro FC Y S Fv;refine ap (S.top 0 rfl) rfl [i_ a0,n_] rfl rfl dt (all_cons rfl (all_cons rfl rfl)) ?_;intro Ff S;replace S:Sat w0 Ff [Box Y 39 [i_ a0,n_],Box EP 39 [i_ 0,n_],Box U 39 [i_ a0,u1]]:=S;refine en Fe (sg fun _ Fg=>sR fun _ Fh=>pa (i_ 0) (en Fh (bg fun _ Fi=>?_)));replace S:=S.nil R0_ 28;obtain ⟨Fj,hL,E4⟩:=ob F;refine aF (fun k e w=>∃ (J:Value),∃ (EQ:List T0_),∃ (Z:Int),e 1=pt U 0∧e 2=pt EP 0∧e 3=pt Y 0∧e 4=i_ Z∧Sat w0 w [Own R3_ [J] EQ,Box Y 39 [i_ a0,J],Box EP 39 [i_ 0,n_],Box U 39 [i_ a0,u1]]∧eZ N k a0 a1 0 [] a0 EQ Z=some Fj) N ?_ ?_ ?_
 ·exact ⟨n_,[],0,rfl,rfl,rfl,rfl,S,hL⟩
 ·rintro e w ⟨_,_,_,_,_,_,_,_,hz⟩; exact nn hz
 rintro k FD FE ⟨J,EQ,Z,ER,ES,EO,ET,S,F⟩;refine gn fun _ E0=>sg fun _ E1=>sR fun _ Fk=>pM (i_ Z) ET (pe (pt U (0 + 1)) (ae ER) (pe u1 (ac rfl ((S.boxAt 3 rfl) 1 _ rfl)) (pe (i_ (a1.length:Int)) (aq rfl ha1) (pe (.bool (decide (Z < (a1.length:Int)))) (aL rfl rfl) (en Fk (oF F (fun EU F=>?_) fun EU F=>?_))))))
 ·refine ct EU (sn E1 (sg fun _ Fl=>bg fun _ Fm=>?_));obtain ⟨C,hCd⟩:∃ C:World → Prop,∀ w,C w ↔ ∃ G,Sat w0 w ([Box Y 39 [i_ a0,J],Box U 39 [i_ a0,u1]] ++ G):=⟨_,fun _=>Iff.rfl⟩;refine bN [0,1,2,3,4,5,6,7,8,9,10,11] C (by kernel_rfl) ?_;intro FF E5;replace S:=S.ext E5;replace S:=S.t3.t2;have hC:=(hCd _).2 ⟨_,S⟩;refine aP (pt Y (0 + 1)) 0 rfl rfl hC (ay rfl (fun w' hw'=>by obtain ⟨_,S⟩:=(hCd _).1 hw'; exact (ae EO))) ?_;refine aP J 1 rfl rfl hC (ay rfl (fun w' hw'=>by obtain ⟨_,S⟩:=(hCd _).1 hw'; exact (ac rfl ((S.boxAt 0 rfl) 1 _ rfl)))) ?_;refine aP (pt U (0 + 1)) 3 rfl rfl hC (ay rfl (fun w' hw'=>by obtain ⟨_,S⟩:=(hCd _).1 hw'; exact (ae ER))) ?_;refine aP u1 4 rfl rfl hC (ay rfl (fun w' hw'=>by obtain ⟨_,S⟩:=(hCd _).1 hw'; exact (ac rfl ((S.boxAt 1 rfl) 1 _ rfl)))) ?_;refine aP (i_ Z) 5 rfl rfl hC (ay rfl (fun w' hw'=>by obtain ⟨_,S⟩:=(hCd _).1 hw'; exact (aN ET))) ?_;refine oB F fun Fn E6 F=>?_;refine hJ (wA:=w0) (by kernel_rfl) 6 rfl hC (by kernel_rfl) (by kernel_rfl) rfl ha1 rfl dt rfl E6 dt ?_;intro FG Fw FH EX E7;obtain ⟨Fo,rfl⟩:=av EX;refine aP Fo 7 rfl rfl hC (ay rfl (fun w' hw'=>by obtain ⟨_,S⟩:=(hCd _).1 hw'; exact (ac rfl ((ak S.below E7) 0 _ rfl)))) ?_;refine aO 2 rfl ?_;refine aW bZ S dt ?_;intro FI FJ S Fx;refine ag ?_;replace S:=S.t2.t2;have hC:=(hCd _).2 ⟨_,S⟩;refine ⟨fun _=>hC,?_⟩;refine aO 8 rfl ?_;refine oB F fun FK E8 F=>?_;obtain ⟨Fy,FL,E9,Fa,EY⟩:=ea (S.up EX);replace S:=S.t2;replace S:=S.ints (xs:=Fn);refine aA rfl dt rfl dt S rfl (rfl.trans E9) rfl Fa EY E8 dt ?_;intro FM E2 S;refine ag ?_;replace S:=S.t2.t2;have hC:=(hCd _).2 ⟨_,S⟩;refine ⟨fun _=>hC,?_⟩;refine aO 9 rfl ?_;refine au [E2] (aM rfl (oc (S.rdAt (R:=R0_) 2 rfl))) (by rfl) dt rfl dt S dt ?_;intro FN Fp S Fz;refine ag ?_;replace S:=S.t2.t2;have hC:=(hCd _).2 ⟨_,S⟩;refine ⟨fun _=>hC,?_⟩;refine aO 10 rfl ?_;refine oB F fun E3 Fb F=>?_;have EZ:=S.boxRow 2 rfl;replace S:=S.t4;replace S:=S.t4;replace S:=S.one;refine aA rfl dt rfl dt S rfl rfl rfl (by simp) EZ Fb dt ?_;intro FO EV S;refine ag ?_;replace S:=S.t2.t2;have hC:=(hCd _).2 ⟨_,S⟩;refine ⟨fun _=>hC,?_⟩;refine aO 11 rfl ?_;refine pe (pt Y (0 + 1)) (ae EO) (ag ?_);refine ⟨fun _=>hC,?_⟩;refine aO 12 rfl ?_;refine ap (S.top 0 rfl) rfl [EV] (aM rfl (oc (S.rdAt (R:=R3_) 2 rfl))) rfl dt (all_cons (oc (S.rdAt (R:=R3_) 2 rfl)) rfl) ?_;intro Fq S;replace S:Sat w0 Fq [Box Y 39 [i_ a0,EV],Box U 39 [i_ a0,u1],Own R3_ [EV] E3,Box Fp 28 [E2],Box EP 39 [i_ 0,n_]]:=S;refine ag ?_;refine ⟨fun h=>(nomatch (show false=true from h)),?_⟩;refine bB (by kernel_rfl) ?_;refine bn Fm (tn Fl ?_);replace S:=S.r3;refine ah (pM (i_ Z) ET (oB F fun EW Fc F=>pe (i_ EW) (aD rfl rfl Fc) (pa (i_ EW) (en E0 ?_))));replace S:=S.t1.t3.t2.t3;replace S:=S.keep 4;exact ⟨EV,E3,EW,ER,ES,EO,rfl,S,F⟩
 refine cf EU (aG (tx E1 (tx E0 ?_)));replace F:=exB F E4;refine bS Fi (tn Fg (sg fun _ Fr=>?_));replace S:=S.r3;refine ah (pe (.agg #[i_ a0,J]) (az (cs:=[i_ a0,J]) EO rfl (aC (S.boxAt 1 rfl))) ?_);refine ap (S.top 2 rfl) ES [i_ a0,J] rfl rfl dt (all_cons rfl (all_cons (oc (S.rdAt (R:=R3_) 0 rfl)) rfl)) ?_;intro Fs S;replace S:Sat w0 Fs [Box EP 39 [i_ a0,J],Own R3_ [J] EQ,Box Y 39 [i_ a0,J]]:=S;refine en Fr (aj ?_);refine eK (cs:=[i_ a0,J]) rfl ES rfl (aC (S.boxAt 0 rfl))  ?_;replace S:=S.t1;have hr:=oI F;exact ⟨J,cR hr fun r=>.agg #[i_ r.1,J],sP hr (fun r=>[Own R3_ [J] r.2]) (S.keep 1)⟩
theorem bE {w0:World} {u0:Value} {a0:List Int} {u1:Value} {a1:List Int} (ha0:R0_.rd w0 [u0] a0) (ha1:R0_.rd w0 [u1] a1) {N:Nat} {r:Int} (F:bD N a0 a1=some r): Calls Tryz.prog 41 #[u0,u1] w0 fun e w'=>e=.returned (i_ r)∧Ext w0 w' := by
 unfold bD at F;refine aJ Tryz.func41 rfl rfl dt ?_;have S:=Sat.start w0;refine sR fun _ Ft=>pa (i_ 0) (en Ft (sg fun _ ER=>sR fun _ Fu=>pa (i_ 0) (en Fu (bg fun _ ES=>?_))));obtain ⟨Fv,hL,EP⟩:=ob F;refine aF (fun k e w=>∃ (J:Int),e 0=u0∧e 1=u1∧e 5=i_ J∧Sat w0 w []∧gw N k a0 a1 J=some Fv) N ?_ ?_ ?_
 ·exact ⟨0,rfl,rfl,rfl,S,hL⟩
 ·rintro e w ⟨_,_,_,_,_,hz⟩; exact nn hz
 rintro k FO FP ⟨J,Y,Z,EO,S,F⟩;refine gn fun _ EQ=>sg fun _ E0=>sR fun _ E4=>pM (i_ J) EO (pM u0 Y (pe (i_ (a0.length:Int)) (aq rfl ha0) (pe (.bool (decide (J < (a0.length:Int)))) (aL rfl rfl) (pm (.bool (decide (J < (a0.length:Int)))) (oF F (fun U F=>?_) fun U F=>?_)))))
 ·refine ei U (pM (i_ J) EO (ei U (pM u1 Z (ei U (pe (i_ (a1.length:Int)) (aq rfl ha1) (ei U (pe (.bool (decide (J < (a1.length:Int)))) (aL rfl rfl) (pe (.bool (decide (J < (a1.length:Int)))) (aw rfl U rfl) (en E4 (oF F (fun ET F=>?_) fun ET F=>?_))))))))))
  ·refine ct ET (sn E0 (sg fun _ E1=>bg fun _ E2=>sg fun _ E5=>sg fun _ Fw=>?_));refine bF (by kernel_rfl) (by kernel_rfl) ?_;refine qM u0 Y (qM (i_ J) EO (oB F fun E6 Fe F=>?_));refine aU (wA:=w0) rfl ha0 rfl dt rfl Fe dt ?_;intro FQ FK FR Ff Fg;obtain rfl:=Ff;refine qe (i_ E6) (ac rfl ((ak S.below Fg) 0 _ rfl)) (qM u1 Z (qM (i_ J) EO (oB F fun E7 Fh F=>?_)));refine aU (wA:=w0) rfl ha1 rfl dt rfl Fh dt ?_;intro FS FL FT Fi Fj;obtain rfl:=Fi;refine qe (i_ E7) (ac rfl ((ak S.below Fj) 0 _ rfl)) (qe (.bool (decide (E6 < E7))) (aL rfl rfl) (aZ ?_));intro FU Fk;replace S:=S.ext Fk;refine tn Fw (oF F (fun EU F=>?_) fun EU F=>?_)
   ·refine ct EU (sR fun _ Fx=>pa (i_ (-1)) (en Fx (aj (tr E5 (br E2 (tr E1 (tr EQ (br ES (tr ER ?_)))))))));replace F:=exL F EP;refine aH rfl rfl ?_;exact rI F S
   refine cf EU (sn E5 (sg fun _ Fy=>?_));refine bF (by kernel_rfl) (by kernel_rfl) ?_;refine qM u0 Y (qM (i_ J) EO (oB F fun E8 Fl F=>?_));refine aU (wA:=w0) rfl ha0 rfl dt rfl Fl dt ?_;intro FV FM FW Fm Fn;obtain rfl:=Fm;refine qe (i_ E8) (ac rfl ((ak S.below Fn) 0 _ rfl)) (qM u1 Z (qM (i_ J) EO (oB F fun E9 Fo F=>?_)));refine aU (wA:=w0) rfl ha1 rfl dt rfl Fo dt ?_;intro FX FN FY Fp Fq;obtain rfl:=Fp;refine qe (i_ E9) (ac rfl ((ak S.below Fq) 0 _ rfl)) (qe (.bool (decide (E9 < E8))) (bA rfl rfl) (aZ ?_));intro FZ Fr;replace S:=S.ext Fr;refine tn Fy (oF F (fun EV F=>?_) fun EV F=>?_)
   ·refine ct EV (sR fun _ Fz=>pa (i_ 1) (en Fz (aj (br E2 (tr E1 (tr EQ (br ES (tr ER ?_))))))));replace F:=exL F EP;refine aH rfl rfl ?_;exact rI F S
   refine cf EV (aV (bn E2 (tn E1 (ah (pM (i_ J) EO (oB F fun E3 Fs F=>pe (i_ E3) (aD rfl rfl Fs) (pa (i_ E3) (en EQ ?_))))))));replace S:=S.keep 0;exact ⟨E3,Y,Z,rfl,S,F⟩
  refine cf ET (aG (tx E0 (tx EQ ?_)));replace F:=exA F EP;refine bS ES (tn ER (sg fun _ Fa=>sR fun _ FA=>pM u0 Y (pe (i_ (a0.length:Int)) (aq rfl ha0) (pM u1 Z (pe (i_ (a1.length:Int)) (aq rfl ha1) (pe (.bool (decide ((a0.length:Int) < (a1.length:Int)))) (aL rfl rfl) (en FA (oF F (fun EW F=>?_) fun EW F=>?_))))))))
  ·refine ct EW (sR fun _ FB=>pa (i_ (-1)) (en FB (aj (tr Fa (aH rfl rfl ?_)))));exact rI F S
  refine cf EW (sn Fa (sg fun _ Fb=>sR fun _ FC=>pM u0 Y (pe (i_ (a0.length:Int)) (aq rfl ha0) (pM u1 Z (pe (i_ (a1.length:Int)) (aq rfl ha1) (pe (.bool (decide ((a1.length:Int) < (a0.length:Int)))) (bA rfl rfl) (en FC (oF F (fun EX F=>?_) fun EX F=>?_))))))))
  ·refine ct EX (sR fun _ FD=>pa (i_ 1) (en FD (aj (tr Fb (aH rfl rfl ?_)))));exact rI F S
  refine cf EX (sn Fb (sR fun _ FE=>pa (i_ 0) (en FE (aj (aH rfl rfl ?_)))));exact rI F S
 refine eo U (eo U (eo U (eo U (pe (.bool false) (ax rfl U rfl) (en E4 (cf rfl (aG (tx E0 (tx EQ ?_)))))))));replace F:=exA F EP;refine bS ES (tn ER (sg fun _ Fc=>sR fun _ FF=>pM u0 Y (pe (i_ (a0.length:Int)) (aq rfl ha0) (pM u1 Z (pe (i_ (a1.length:Int)) (aq rfl ha1) (pe (.bool (decide ((a0.length:Int) < (a1.length:Int)))) (aL rfl rfl) (en FF (oF F (fun EY F=>?_) fun EY F=>?_))))))))
 ·refine ct EY (sR fun _ FG=>pa (i_ (-1)) (en FG (aj (tr Fc (aH rfl rfl ?_)))));exact rI F S
 refine cf EY (sn Fc (sg fun _ Fd=>sR fun _ FH=>pM u0 Y (pe (i_ (a0.length:Int)) (aq rfl ha0) (pM u1 Z (pe (i_ (a1.length:Int)) (aq rfl ha1) (pe (.bool (decide ((a1.length:Int) < (a0.length:Int)))) (bA rfl rfl) (en FH (oF F (fun EZ F=>?_) fun EZ F=>?_))))))))
 ·refine ct EZ (sR fun _ FI=>pa (i_ 1) (en FI (aj (tr Fd (aH rfl rfl ?_)))));exact rI F S
 refine cf EZ (sn Fd (sR fun _ FJ=>pa (i_ 0) (en FJ (aj (aH rfl rfl ?_)))));exact rI F S
theorem uj (N:Nat):∀ {w0:World} {u0:Value} {a0:List T0_} (_:R3_.rd w0 [u0] a0) {r:T1_} (_:f5 N a0=some r), Calls Tryz.prog 60 #[u0] w0 fun e w'=>∃ (q0:Value),e=.returned (q0)∧Ext w0 w'∧R3_.rd w' [q0] r := by
 induction N with
 | zero=>intros; exact nomatch (show none=some _ by assumption)
 | succ N ih=>
  intro w0 u0 a0 ha0 r F;refine aJ Tryz.func60 rfl rfl dt ?_;have S:=Sat.start w0;refine sR fun _ Kb=>pa n_ (en Kb (sg fun _ He=>sR fun _ Kc=>pm u0 (pe (i_ (a0.length:Int)) (aq rfl ha0) (pe (.bool (decide ((a0.length:Int) < 2))) (aL rfl rfl) (en Kc (oF F (fun FP F=>?_) fun FP F=>?_))))))
  ·refine ct FP (sR fun _ Kd=>pm u0 (pa u0 (en Kd (aj (tr He (aH rfl rfl ?_))))));have hr:=oI F;exact ⟨u0,cR hr fun r=>u0,S.below,Eq.mp (congrArg (fun (r:T1_)=>R3_.rd w0 [u0] r) hr :) (S.up ha0)⟩
  refine cf FP (sn He (sR fun _ Ke=>pm u0 (pe (i_ (a0.length:Int)) (aq rfl ha0) (oB F fun FQ H9 F=>pe (i_ FQ) (wH rfl rfl H9) (pa (i_ FQ) (en Ke (sR fun _ Kf=>pm u0 (pm (i_ FQ) (oB F fun Ms Ia F=>?_)))))))));refine dH (wA:=w0) rfl rfl ha0 (.inr ⟨rfl,rfl⟩) (.inl (congrArg some rfl)) Ia dt ?_;intro Mu GN;refine oB F fun Kg Ib F=>?_;refine aX xH (ih (S.up GN) Ib) (ca (ai rfl rfl)) dt ?_;rintro _ Gz ⟨Hf,rfl,Ic,Id⟩;refine ⟨_,rfl,?_⟩;replace S:=S.ext Ic;have Ie:Ext w0 Gz:=S.below;have FR:=S.up ha0;have LH:=S.up ha0;have LI:=S.up GN;replace S:=Sat.start Gz;refine pa Hf (en Kf (sR fun _ Kh=>pm u0 (pm (i_ FQ) (oB F fun Mv If F=>?_))));refine dH (wA:=Gz) rfl rfl FR (.inl (congrArg some rfl)) (.inr ⟨rfl,rfl⟩) If dt ?_;intro Mw GO;refine oB F fun Ki Ig F=>?_;refine aX xH (ih (S.up GO) Ig) (ca (ai rfl rfl)) dt ?_;rintro _ J ⟨Hg,rfl,Ih,Ii⟩;refine ⟨_,rfl,?_⟩;replace S:=S.ext Ih;have Ij:Ext w0 J:=(S.rebase Ie).below;have LJ:=S.up FR;have Ik:=S.up Id;have LK:=S.up FR;have LL:=S.up GO;replace S:=Sat.start J;refine pa Hg (en Kh (sR fun _ Kj=>?_));refine aW (roR J R0_) S dt ?_;intro Mx Hh S LM;refine pa Hh (en Kj (sg fun _ Kk=>bg fun _ Kl=>?_));obtain ⟨Km,hL,Il⟩:=ob F;refine aF (fun k e w=>∃ (ES:Value),∃ (EV:List T0_),∃ (ET:Value),∃ (EW:List T0_),∃ (Y:Value),∃ (Z:List T0_),e 4=ES∧e 5=ET∧e 6=Y∧Sat J w [Own (aB (roR J R0_) 28) [Y] Z]∧R3_.rd J [ES] EV∧R3_.rd J [ET] EW∧aT (f5 N) N k EV EW Z=some Km) N ?_ ?_ ?_
  ·exact ⟨Hf,Kg,Hg,Ki,Hh,[],rfl,rfl,rfl,S,Ik,Ii,hL⟩
  ·rintro e w ⟨_,_,_,_,_,_,_,_,_,_,_,_,hz⟩; exact nn hz
  rintro k My Kn ⟨ES,EV,ET,EW,Y,Z,EO,EP,U,S,EQ,ER,F⟩;refine gn fun _ EU=>sg fun _ GA=>sR fun _ Hi=>pM ES EO (pe (i_ (EV.length:Int)) (aq rfl EQ) (pe (.bool (decide (0 < (EV.length:Int)))) (bA rfl rfl) (pm (.bool (decide (0 < (EV.length:Int)))) (oF F (fun E9 F=>?_) fun E9 F=>?_))))
  ·refine eo E9 (eo E9 (eo E9 (pe (.bool true) (aw rfl E9 rfl) (en Hi (ct rfl (sn GA (bg fun _ E7=>sR fun _ Ko=>pa (i_ 0) (en Ko (sg fun _ GB=>bg fun _ GC=>sR fun _ Kp=>pM ES EO (pe (i_ (EV.length:Int)) (aq rfl EQ) (pe (.bool ((EV.length:Int) == 0)) (bq rfl rfl) (pa (.bool ((EV.length:Int) == 0)) (en Kp (oF F (fun FS F=>?_) fun FS F=>?_))))))))))))))
   ·refine ct FS (ah (pa (i_ 1) (ag (bn GC (tn GB (sR fun _ Kq=>?_))))));refine aW bZ S dt ?_;intro Hj Kr S LN;refine pa Kr (en Kq (sg fun _ Hk=>sg fun _ Ks=>?_));replace S:=S.r0;refine ah (pm (i_ 1) (pe (.bool (decide (0 < (1:Int)))) (bA rfl rfl) (en Ks (oF F (fun FT F=>?_) fun FT F=>?_))))
    ·refine ct FT (sR fun _ Kt=>pM ET EP (oB F fun Mz Im F=>?_));refine aE (wA:=J) rfl ER rfl dt rfl Im dt ?_;intro MA LO MB Fa In;obtain ⟨Fk,rfl⟩:=av Fa;refine pe Fk (ac rfl ((ak S.below In) 0 _ rfl)) (pa Fk (en Kt (ah (pM ET EP (oB F fun GD Io F=>?_)))));refine dH (wA:=J) rfl rfl ER (.inl (congrArg some rfl)) (.inr ⟨rfl,rfl⟩) Io dt ?_;intro FU FV;refine pa FU (en Hk (sR fun _ Hl=>pM Y U (pe (i_ (Z.length:Int)) (aq rfl (S.rdAt (R:=(aB (roR J R0_) 28)) 0 rfl)) (pe (.bool ((Z.length:Int) == 0)) (bq rfl rfl) (pm (.bool ((Z.length:Int) == 0)) (oF F (fun EX F=>?_) fun EX F=>?_))))))
     ·refine eo EX (eo EX (eo EX (eo EX (eo EX (eo EX (eo EX (eo EX (eo EX (pe (.bool true) (aw rfl EX rfl) (en Hl (ct rfl (ah (pM Y U (pm Fk ?_))))))))))))));refine au [Fk] (aM rfl (oc Fa)) (by rfl) dt rfl dt S dt ?_;intro MC MD S LP;refine oB F fun Ku Ip F=>?_;have GT:=S.boxRow 0 rfl;replace S:=S.t1;replace S:=S.roOne (R:=R0_) (W:=J) Fa;replace S:=S.one;refine aA rfl dt rfl dt S rfl rfl rfl (by simp) GT Ip dt ?_;intro ME Hm S;refine pa Hm (ag (bn E7 (tn EU ?_)));replace S:=S.keep 1;exact ⟨ES,EV,FU,GD,Hm,Ku,EO,rfl,rfl,S,EQ,FV,F⟩
     refine ei EX (pM Y U (ei EX (pM Y U (ei EX (pe (i_ (Z.length:Int)) (aq rfl (S.rdAt (R:=(aB (roR J R0_) 28)) 0 rfl)) (ei EX (oB F fun Kv Iq F=>pe (i_ Kv) (cg rfl rfl Iq) (ei EX (oB F fun MF Ir F=>?_)))))))));refine aE (wA:=Hj) rfl (S.rdAt (R:=(aB (roR J R0_) 28)) 0 rfl) rfl dt rfl Ir dt ?_;intro MG LQ MH FE Fu;replace FE:R0_.rd J _ _:=FE;obtain ⟨Kw,rfl⟩:=av FE;refine ei EX (pe Kw (ac rfl (Fu 0 _ rfl)) (ei EX (pm Fk (ei EX (oB F fun Hn Is F=>?_)))));refine ec0 f9 (bE (S.up FE) (S.up Fa) Is) (ca (ai rfl (ai rfl rfl))) S fun MI It S=>?_;have Fu:=ak It Fu;refine ei EX (pe (.bool (Hn != 0)) (cJ rfl rfl) (pe (.bool (Hn != 0)) (ax rfl EX rfl) (en Hl (oF F (fun FW F=>?_) fun FW F=>?_))))
     ·refine ct FW (ah (pM Y U (pm Fk ?_)));refine au [Fk] (aM rfl (oc Fa)) (by rfl) dt rfl dt S dt ?_;intro MJ MK S Iu;have Fu:=ak Iu Fu;refine oB F fun Kx Iv F=>?_;have GU:=S.boxRow 0 rfl;replace S:=S.t1;replace S:=S.roOne (R:=R0_) (W:=J) Fa;replace S:=S.one;refine aA rfl dt rfl dt S rfl rfl rfl (by simp) GU Iv dt ?_;intro ML Ho S;refine pa Ho (ag (bn E7 (tn EU ?_)));replace S:=S.keep 1;exact ⟨ES,EV,FU,GD,Ho,Kx,EO,rfl,rfl,S,EQ,FV,F⟩
     refine cf FW (aV (bn E7 (tn EU ?_)));replace S:=S.keep 1;exact ⟨ES,EV,FU,GD,Y,Z,EO,rfl,U,S,EQ,FV,F⟩
    refine cf FT (sR fun _ Ky=>pM ES EO (oB F fun MM Iw F=>?_));refine aE (wA:=J) rfl EQ rfl dt rfl Iw dt ?_;intro MN LR MO Fb Ix;obtain ⟨Fl,rfl⟩:=av Fb;refine pe Fl (ac rfl ((ak S.below Ix) 0 _ rfl)) (pa Fl (en Ky (ah (pM ES EO (oB F fun GE Iy F=>?_)))));refine dH (wA:=J) rfl rfl EQ (.inl (congrArg some rfl)) (.inr ⟨rfl,rfl⟩) Iy dt ?_;intro FX FY;refine pa FX (en Hk (sR fun _ Hp=>pM Y U (pe (i_ (Z.length:Int)) (aq rfl (S.rdAt (R:=(aB (roR J R0_) 28)) 0 rfl)) (pe (.bool ((Z.length:Int) == 0)) (bq rfl rfl) (pm (.bool ((Z.length:Int) == 0)) (oF F (fun EY F=>?_) fun EY F=>?_))))))
    ·refine eo EY (eo EY (eo EY (eo EY (eo EY (eo EY (eo EY (eo EY (eo EY (pe (.bool true) (aw rfl EY rfl) (en Hp (ct rfl (ah (pM Y U (pm Fl ?_))))))))))))));refine au [Fl] (aM rfl (oc Fb)) (by rfl) dt rfl dt S dt ?_;intro MP MQ S LS;refine oB F fun Kz Iz F=>?_;have GV:=S.boxRow 0 rfl;replace S:=S.t1;replace S:=S.roOne (R:=R0_) (W:=J) Fb;replace S:=S.one;refine aA rfl dt rfl dt S rfl rfl rfl (by simp) GV Iz dt ?_;intro MR Hq S;refine pa Hq (ag (bn E7 (tn EU ?_)));replace S:=S.keep 1;exact ⟨FX,GE,ET,EW,Hq,Kz,rfl,EP,rfl,S,FY,ER,F⟩
    refine ei EY (pM Y U (ei EY (pM Y U (ei EY (pe (i_ (Z.length:Int)) (aq rfl (S.rdAt (R:=(aB (roR J R0_) 28)) 0 rfl)) (ei EY (oB F fun KA IA F=>pe (i_ KA) (cg rfl rfl IA) (ei EY (oB F fun MS IB F=>?_)))))))));refine aE (wA:=Hj) rfl (S.rdAt (R:=(aB (roR J R0_) 28)) 0 rfl) rfl dt rfl IB dt ?_;intro MT LT MU FF Fv;replace FF:R0_.rd J _ _:=FF;obtain ⟨KB,rfl⟩:=av FF;refine ei EY (pe KB (ac rfl (Fv 0 _ rfl)) (ei EY (pm Fl (ei EY (oB F fun Hr IC F=>?_)))));refine ec0 f9 (bE (S.up FF) (S.up Fb) IC) (ca (ai rfl (ai rfl rfl))) S fun MV ID S=>?_;have Fv:=ak ID Fv;refine ei EY (pe (.bool (Hr != 0)) (cJ rfl rfl) (pe (.bool (Hr != 0)) (ax rfl EY rfl) (en Hp (oF F (fun FZ F=>?_) fun FZ F=>?_))))
    ·refine ct FZ (ah (pM Y U (pm Fl ?_)));refine au [Fl] (aM rfl (oc Fb)) (by rfl) dt rfl dt S dt ?_;intro MW MX S IE;have Fv:=ak IE Fv;refine oB F fun KC IF F=>?_;have GW:=S.boxRow 0 rfl;replace S:=S.t1;replace S:=S.roOne (R:=R0_) (W:=J) Fb;replace S:=S.one;refine aA rfl dt rfl dt S rfl rfl rfl (by simp) GW IF dt ?_;intro MY Hs S;refine pa Hs (ag (bn E7 (tn EU ?_)));replace S:=S.keep 1;exact ⟨FX,GE,ET,EW,Hs,KC,rfl,EP,rfl,S,FY,ER,F⟩
    refine cf FZ (aV (bn E7 (tn EU ?_)));replace S:=S.keep 1;exact ⟨FX,GE,ET,EW,Y,Z,rfl,EP,U,S,FY,ER,F⟩
   refine cf FS (sR fun _ KD=>pM ET EP (pe (i_ (EW.length:Int)) (aq rfl ER) (pe (.bool (decide (0 < (EW.length:Int)))) (bA rfl rfl) (pa (.bool (decide (0 < (EW.length:Int)))) (en KD (oF F (fun F0 F=>?_) fun F0 F=>?_))))))
   ·refine ct F0 ?_;refine bF (by kernel_rfl) (by kernel_rfl) ?_;refine qM ES EO (oB F fun MZ IG F=>?_);refine aU (wA:=J) rfl EQ rfl dt rfl IG dt ?_;intro M0 LU M1 GP IH;obtain ⟨KE,rfl⟩:=av GP;refine qe KE (ac rfl ((ak S.below IH) 0 _ rfl)) (qM ET EP (oB F fun M2 II F=>?_));refine aU (wA:=J) rfl ER rfl dt rfl II dt ?_;intro M3 LV M4 GQ IJ;obtain ⟨KF,rfl⟩:=av GQ;refine qe KF (ac rfl ((ak S.below IJ) 0 _ rfl)) (oB F fun F3 IK F=>?_);refine cb (i_ F3) f9 (fun w' hw'=>bE (bv (S.up GP) hw') (bv (S.up GQ) hw') IK) (ca (ai rfl (ai rfl rfl))) dt ?_;refine qe (i_ F3) (cj rfl) (aZ ?_);intro M5 IL;replace S:=S.ext IL;refine bn GC (tn GB (sR fun _ KG=>?_));refine aW bZ S dt ?_;intro Ht KH S LW;refine pa KH (en KG (sg fun _ Hu=>sg fun _ KI=>?_));replace S:=S.r0;refine ah (pm (i_ F3) (pe (.bool (decide (0 < F3))) (bA rfl rfl) (en KI (oF F (fun F4 F=>?_) fun F4 F=>?_))))
    ·refine ct F4 (sR fun _ KJ=>pM ET EP (oB F fun M6 IM F=>?_));refine aE (wA:=J) rfl ER rfl dt rfl IM dt ?_;intro M7 LX M8 Fc IN;obtain ⟨Fm,rfl⟩:=av Fc;refine pe Fm (ac rfl ((ak S.below IN) 0 _ rfl)) (pa Fm (en KJ (ah (pM ET EP (oB F fun GF IP F=>?_)))));refine dH (wA:=J) rfl rfl ER (.inl (congrArg some rfl)) (.inr ⟨rfl,rfl⟩) IP dt ?_;intro F5 F6;refine pa F5 (en Hu (sR fun _ Hv=>pM Y U (pe (i_ (Z.length:Int)) (aq rfl (S.rdAt (R:=(aB (roR J R0_) 28)) 0 rfl)) (pe (.bool ((Z.length:Int) == 0)) (bq rfl rfl) (pm (.bool ((Z.length:Int) == 0)) (oF F (fun EZ F=>?_) fun EZ F=>?_))))))
     ·refine eo EZ (eo EZ (eo EZ (eo EZ (eo EZ (eo EZ (eo EZ (eo EZ (eo EZ (pe (.bool true) (aw rfl EZ rfl) (en Hv (ct rfl (ah (pM Y U (pm Fm ?_))))))))))))));refine au [Fm] (aM rfl (oc Fc)) (by rfl) dt rfl dt S dt ?_;intro M9 Na S LY;refine oB F fun KK IQ F=>?_;have GX:=S.boxRow 0 rfl;replace S:=S.t1;replace S:=S.roOne (R:=R0_) (W:=J) Fc;replace S:=S.one;refine aA rfl dt rfl dt S rfl rfl rfl (by simp) GX IQ dt ?_;intro Nb Hw S;refine pa Hw (ag (bn E7 (tn EU ?_)));replace S:=S.keep 1;exact ⟨ES,EV,F5,GF,Hw,KK,EO,rfl,rfl,S,EQ,F6,F⟩
     refine ei EZ (pM Y U (ei EZ (pM Y U (ei EZ (pe (i_ (Z.length:Int)) (aq rfl (S.rdAt (R:=(aB (roR J R0_) 28)) 0 rfl)) (ei EZ (oB F fun KL IR F=>pe (i_ KL) (cg rfl rfl IR) (ei EZ (oB F fun Nc IS F=>?_)))))))));refine aE (wA:=Ht) rfl (S.rdAt (R:=(aB (roR J R0_) 28)) 0 rfl) rfl dt rfl IS dt ?_;intro Nd LZ Nf FG Fw;replace FG:R0_.rd J _ _:=FG;obtain ⟨KM,rfl⟩:=av FG;refine ei EZ (pe KM (ac rfl (Fw 0 _ rfl)) (ei EZ (pm Fm (ei EZ (oB F fun Hx IT F=>?_)))));refine ec0 f9 (bE (S.up FG) (S.up Fc) IT) (ca (ai rfl (ai rfl rfl))) S fun Ng IU S=>?_;have Fw:=ak IU Fw;refine ei EZ (pe (.bool (Hx != 0)) (cJ rfl rfl) (pe (.bool (Hx != 0)) (ax rfl EZ rfl) (en Hv (oF F (fun F7 F=>?_) fun F7 F=>?_))))
     ·refine ct F7 (ah (pM Y U (pm Fm ?_)));refine au [Fm] (aM rfl (oc Fc)) (by rfl) dt rfl dt S dt ?_;intro Nh Ni S IV;have Fw:=ak IV Fw;refine oB F fun KN IW F=>?_;have GY:=S.boxRow 0 rfl;replace S:=S.t1;replace S:=S.roOne (R:=R0_) (W:=J) Fc;replace S:=S.one;refine aA rfl dt rfl dt S rfl rfl rfl (by simp) GY IW dt ?_;intro Nj Hy S;refine pa Hy (ag (bn E7 (tn EU ?_)));replace S:=S.keep 1;exact ⟨ES,EV,F5,GF,Hy,KN,EO,rfl,rfl,S,EQ,F6,F⟩
     refine cf F7 (aV (bn E7 (tn EU ?_)));replace S:=S.keep 1;exact ⟨ES,EV,F5,GF,Y,Z,EO,rfl,U,S,EQ,F6,F⟩
    refine cf F4 (sR fun _ KO=>pM ES EO (oB F fun Nk IX F=>?_));refine aE (wA:=J) rfl EQ rfl dt rfl IX dt ?_;intro Nl L0 Nm Fd IY;obtain ⟨Fn,rfl⟩:=av Fd;refine pe Fn (ac rfl ((ak S.below IY) 0 _ rfl)) (pa Fn (en KO (ah (pM ES EO (oB F fun GG IZ F=>?_)))));refine dH (wA:=J) rfl rfl EQ (.inl (congrArg some rfl)) (.inr ⟨rfl,rfl⟩) IZ dt ?_;intro F8 F9;refine pa F8 (en Hu (sR fun _ Hz=>pM Y U (pe (i_ (Z.length:Int)) (aq rfl (S.rdAt (R:=(aB (roR J R0_) 28)) 0 rfl)) (pe (.bool ((Z.length:Int) == 0)) (bq rfl rfl) (pm (.bool ((Z.length:Int) == 0)) (oF F (fun E0 F=>?_) fun E0 F=>?_))))))
    ·refine eo E0 (eo E0 (eo E0 (eo E0 (eo E0 (eo E0 (eo E0 (eo E0 (eo E0 (pe (.bool true) (aw rfl E0 rfl) (en Hz (ct rfl (ah (pM Y U (pm Fn ?_))))))))))))));refine au [Fn] (aM rfl (oc Fd)) (by rfl) dt rfl dt S dt ?_;intro Nn No S L3;refine oB F fun KP I0 F=>?_;have GZ:=S.boxRow 0 rfl;replace S:=S.t1;replace S:=S.roOne (R:=R0_) (W:=J) Fd;replace S:=S.one;refine aA rfl dt rfl dt S rfl rfl rfl (by simp) GZ I0 dt ?_;intro Np HA S;refine pa HA (ag (bn E7 (tn EU ?_)));replace S:=S.keep 1;exact ⟨F8,GG,ET,EW,HA,KP,rfl,EP,rfl,S,F9,ER,F⟩
    refine ei E0 (pM Y U (ei E0 (pM Y U (ei E0 (pe (i_ (Z.length:Int)) (aq rfl (S.rdAt (R:=(aB (roR J R0_) 28)) 0 rfl)) (ei E0 (oB F fun KR I1 F=>pe (i_ KR) (cg rfl rfl I1) (ei E0 (oB F fun Nq I2 F=>?_)))))))));refine aE (wA:=Ht) rfl (S.rdAt (R:=(aB (roR J R0_) 28)) 0 rfl) rfl dt rfl I2 dt ?_;intro Nr L4 Ns FH Fx;replace FH:R0_.rd J _ _:=FH;obtain ⟨KS,rfl⟩:=av FH;refine ei E0 (pe KS (ac rfl (Fx 0 _ rfl)) (ei E0 (pm Fn (ei E0 (oB F fun HB I3 F=>?_)))));refine ec0 f9 (bE (S.up FH) (S.up Fd) I3) (ca (ai rfl (ai rfl rfl))) S fun Nt I4 S=>?_;have Fx:=ak I4 Fx;refine ei E0 (pe (.bool (HB != 0)) (cJ rfl rfl) (pe (.bool (HB != 0)) (ax rfl E0 rfl) (en Hz (oF F (fun Ga F=>?_) fun Ga F=>?_))))
    ·refine ct Ga (ah (pM Y U (pm Fn ?_)));refine au [Fn] (aM rfl (oc Fd)) (by rfl) dt rfl dt S dt ?_;intro Nu Nv S I5;have Fx:=ak I5 Fx;refine oB F fun KT I6 F=>?_;have G1:=S.boxRow 0 rfl;replace S:=S.t1;replace S:=S.roOne (R:=R0_) (W:=J) Fd;replace S:=S.one;refine aA rfl dt rfl dt S rfl rfl rfl (by simp) G1 I6 dt ?_;intro Nw HC S;refine pa HC (ag (bn E7 (tn EU ?_)));replace S:=S.keep 1;exact ⟨F8,GG,ET,EW,HC,KT,rfl,EP,rfl,S,F9,ER,F⟩
    refine cf Ga (aV (bn E7 (tn EU ?_)));replace S:=S.keep 1;exact ⟨F8,GG,ET,EW,Y,Z,rfl,EP,U,S,F9,ER,F⟩
   refine cf F0 (ah (pa (i_ (-1)) (ag (bn GC (tn GB (sR fun _ KU=>?_))))));refine aW bZ S dt ?_;intro HD KV S L5;refine pa KV (en KU (sg fun _ HE=>sg fun _ KW=>?_));replace S:=S.r0;refine ah (pm (i_ (-1)) (pe (.bool (decide (0 < ((-1):Int)))) (bA rfl rfl) (en KW (oF F (fun Gb F=>?_) fun Gb F=>?_))))
   ·refine ct Gb (sR fun _ KX=>pM ET EP (oB F fun Nx I7 F=>?_));refine aE (wA:=J) rfl ER rfl dt rfl I7 dt ?_;intro Ny L6 Nz Fe I8;obtain ⟨Fo,rfl⟩:=av Fe;refine pe Fo (ac rfl ((ak S.below I8) 0 _ rfl)) (pa Fo (en KX (ah (pM ET EP (oB F fun GH I9 F=>?_)))));refine dH (wA:=J) rfl rfl ER (.inl (congrArg some rfl)) (.inr ⟨rfl,rfl⟩) I9 dt ?_;intro Gc Gd;refine pa Gc (en HE (sR fun _ HF=>pM Y U (pe (i_ (Z.length:Int)) (aq rfl (S.rdAt (R:=(aB (roR J R0_) 28)) 0 rfl)) (pe (.bool ((Z.length:Int) == 0)) (bq rfl rfl) (pm (.bool ((Z.length:Int) == 0)) (oF F (fun E1 F=>?_) fun E1 F=>?_))))))
    ·refine eo E1 (eo E1 (eo E1 (eo E1 (eo E1 (eo E1 (eo E1 (eo E1 (eo E1 (pe (.bool true) (aw rfl E1 rfl) (en HF (ct rfl (ah (pM Y U (pm Fo ?_))))))))))))));refine au [Fo] (aM rfl (oc Fe)) (by rfl) dt rfl dt S dt ?_;intro NA NB S L7;refine oB F fun KY Ja F=>?_;have G2:=S.boxRow 0 rfl;replace S:=S.t1;replace S:=S.roOne (R:=R0_) (W:=J) Fe;replace S:=S.one;refine aA rfl dt rfl dt S rfl rfl rfl (by simp) G2 Ja dt ?_;intro NC HG S;refine pa HG (ag (bn E7 (tn EU ?_)));replace S:=S.keep 1;exact ⟨ES,EV,Gc,GH,HG,KY,EO,rfl,rfl,S,EQ,Gd,F⟩
    refine ei E1 (pM Y U (ei E1 (pM Y U (ei E1 (pe (i_ (Z.length:Int)) (aq rfl (S.rdAt (R:=(aB (roR J R0_) 28)) 0 rfl)) (ei E1 (oB F fun KZ Jb F=>pe (i_ KZ) (cg rfl rfl Jb) (ei E1 (oB F fun ND Jc F=>?_)))))))));refine aE (wA:=HD) rfl (S.rdAt (R:=(aB (roR J R0_) 28)) 0 rfl) rfl dt rfl Jc dt ?_;intro NE L8 NF FI Fy;replace FI:R0_.rd J _ _:=FI;obtain ⟨K0,rfl⟩:=av FI;refine ei E1 (pe K0 (ac rfl (Fy 0 _ rfl)) (ei E1 (pm Fo (ei E1 (oB F fun HH Jd F=>?_)))));refine ec0 f9 (bE (S.up FI) (S.up Fe) Jd) (ca (ai rfl (ai rfl rfl))) S fun NG Je S=>?_;have Fy:=ak Je Fy;refine ei E1 (pe (.bool (HH != 0)) (cJ rfl rfl) (pe (.bool (HH != 0)) (ax rfl E1 rfl) (en HF (oF F (fun Ge F=>?_) fun Ge F=>?_))))
    ·refine ct Ge (ah (pM Y U (pm Fo ?_)));refine au [Fo] (aM rfl (oc Fe)) (by rfl) dt rfl dt S dt ?_;intro NH NI S Jf;have Fy:=ak Jf Fy;refine oB F fun K3 Jg F=>?_;have G3:=S.boxRow 0 rfl;replace S:=S.t1;replace S:=S.roOne (R:=R0_) (W:=J) Fe;replace S:=S.one;refine aA rfl dt rfl dt S rfl rfl rfl (by simp) G3 Jg dt ?_;intro NJ HI S;refine pa HI (ag (bn E7 (tn EU ?_)));replace S:=S.keep 1;exact ⟨ES,EV,Gc,GH,HI,K3,EO,rfl,rfl,S,EQ,Gd,F⟩
    refine cf Ge (aV (bn E7 (tn EU ?_)));replace S:=S.keep 1;exact ⟨ES,EV,Gc,GH,Y,Z,EO,rfl,U,S,EQ,Gd,F⟩
   refine cf Gb (sR fun _ K4=>pM ES EO (oB F fun NK Jh F=>?_));refine aE (wA:=J) rfl EQ rfl dt rfl Jh dt ?_;intro NL L9 NM Ff Ji;obtain ⟨Fp,rfl⟩:=av Ff;refine pe Fp (ac rfl ((ak S.below Ji) 0 _ rfl)) (pa Fp (en K4 (ah (pM ES EO (oB F fun GI Jj F=>?_)))));refine dH (wA:=J) rfl rfl EQ (.inl (congrArg some rfl)) (.inr ⟨rfl,rfl⟩) Jj dt ?_;intro Gf Gg;refine pa Gf (en HE (sR fun _ HJ=>pM Y U (pe (i_ (Z.length:Int)) (aq rfl (S.rdAt (R:=(aB (roR J R0_) 28)) 0 rfl)) (pe (.bool ((Z.length:Int) == 0)) (bq rfl rfl) (pm (.bool ((Z.length:Int) == 0)) (oF F (fun E2 F=>?_) fun E2 F=>?_))))))
   ·refine eo E2 (eo E2 (eo E2 (eo E2 (eo E2 (eo E2 (eo E2 (eo E2 (eo E2 (pe (.bool true) (aw rfl E2 rfl) (en HJ (ct rfl (ah (pM Y U (pm Fp ?_))))))))))))));refine au [Fp] (aM rfl (oc Ff)) (by rfl) dt rfl dt S dt ?_;intro NN NO S Ma;refine oB F fun K5 Jk F=>?_;have G4:=S.boxRow 0 rfl;replace S:=S.t1;replace S:=S.roOne (R:=R0_) (W:=J) Ff;replace S:=S.one;refine aA rfl dt rfl dt S rfl rfl rfl (by simp) G4 Jk dt ?_;intro NP HK S;refine pa HK (ag (bn E7 (tn EU ?_)));replace S:=S.keep 1;exact ⟨Gf,GI,ET,EW,HK,K5,rfl,EP,rfl,S,Gg,ER,F⟩
   refine ei E2 (pM Y U (ei E2 (pM Y U (ei E2 (pe (i_ (Z.length:Int)) (aq rfl (S.rdAt (R:=(aB (roR J R0_) 28)) 0 rfl)) (ei E2 (oB F fun K6 Jl F=>pe (i_ K6) (cg rfl rfl Jl) (ei E2 (oB F fun NQ Jm F=>?_)))))))));refine aE (wA:=HD) rfl (S.rdAt (R:=(aB (roR J R0_) 28)) 0 rfl) rfl dt rfl Jm dt ?_;intro NR Mb NS FJ Fz;replace FJ:R0_.rd J _ _:=FJ;obtain ⟨K7,rfl⟩:=av FJ;refine ei E2 (pe K7 (ac rfl (Fz 0 _ rfl)) (ei E2 (pm Fp (ei E2 (oB F fun HL Jn F=>?_)))));refine ec0 f9 (bE (S.up FJ) (S.up Ff) Jn) (ca (ai rfl (ai rfl rfl))) S fun NT Jo S=>?_;have Fz:=ak Jo Fz;refine ei E2 (pe (.bool (HL != 0)) (cJ rfl rfl) (pe (.bool (HL != 0)) (ax rfl E2 rfl) (en HJ (oF F (fun Gh F=>?_) fun Gh F=>?_))))
   ·refine ct Gh (ah (pM Y U (pm Fp ?_)));refine au [Fp] (aM rfl (oc Ff)) (by rfl) dt rfl dt S dt ?_;intro NU NV S Jp;have Fz:=ak Jp Fz;refine oB F fun K8 Jq F=>?_;have G5:=S.boxRow 0 rfl;replace S:=S.t1;replace S:=S.roOne (R:=R0_) (W:=J) Ff;replace S:=S.one;refine aA rfl dt rfl dt S rfl rfl rfl (by simp) G5 Jq dt ?_;intro NW HM S;refine pa HM (ag (bn E7 (tn EU ?_)));replace S:=S.keep 1;exact ⟨Gf,GI,ET,EW,HM,K8,rfl,EP,rfl,S,Gg,ER,F⟩
   refine cf Gh (aV (bn E7 (tn EU ?_)));replace S:=S.keep 1;exact ⟨Gf,GI,ET,EW,Y,Z,rfl,EP,U,S,Gg,ER,F⟩
  refine ei E9 (pM ET EP (ei E9 (pe (i_ (EW.length:Int)) (aq rfl ER) (ei E9 (pe (.bool (decide (0 < (EW.length:Int)))) (bA rfl rfl) (pe (.bool (decide (0 < (EW.length:Int)))) (ax rfl E9 rfl) (en Hi (oF F (fun FK F=>?_) fun FK F=>?_))))))))
  ·refine ct FK (sn GA (bg fun _ E8=>sR fun _ K9=>pa (i_ 0) (en K9 (sg fun _ HN=>bg fun _ HO=>sR fun _ La=>pM ES EO (pe (i_ (EV.length:Int)) (aq rfl EQ) (pe (.bool ((EV.length:Int) == 0)) (bq rfl rfl) (pa (.bool ((EV.length:Int) == 0)) (en La (oF F (fun Gi F=>?_) fun Gi F=>?_)))))))))
   ·refine ct Gi (ah (pa (i_ 1) (ag (bn HO (tn HN (sR fun _ Lb=>?_))))));refine aW bZ S dt ?_;intro HP Lc S Mc;refine pa Lc (en Lb (sg fun _ HQ=>sg fun _ Ld=>?_));replace S:=S.r0;refine ah (pm (i_ 1) (pe (.bool (decide (0 < (1:Int)))) (bA rfl rfl) (en Ld (oF F (fun Gj F=>?_) fun Gj F=>?_))))
    ·refine ct Gj (sR fun _ Le=>pM ET EP (oB F fun NX Jr F=>?_));refine aE (wA:=J) rfl ER rfl dt rfl Jr dt ?_;intro NY Md NZ Fg Js;obtain ⟨Fq,rfl⟩:=av Fg;refine pe Fq (ac rfl ((ak S.below Js) 0 _ rfl)) (pa Fq (en Le (ah (pM ET EP (oB F fun GJ Jt F=>?_)))));refine dH (wA:=J) rfl rfl ER (.inl (congrArg some rfl)) (.inr ⟨rfl,rfl⟩) Jt dt ?_;intro Gk Gl;refine pa Gk (en HQ (sR fun _ HR=>pM Y U (pe (i_ (Z.length:Int)) (aq rfl (S.rdAt (R:=(aB (roR J R0_) 28)) 0 rfl)) (pe (.bool ((Z.length:Int) == 0)) (bq rfl rfl) (pm (.bool ((Z.length:Int) == 0)) (oF F (fun E3 F=>?_) fun E3 F=>?_))))))
     ·refine eo E3 (eo E3 (eo E3 (eo E3 (eo E3 (eo E3 (eo E3 (eo E3 (eo E3 (pe (.bool true) (aw rfl E3 rfl) (en HR (ct rfl (ah (pM Y U (pm Fq ?_))))))))))))));refine au [Fq] (aM rfl (oc Fg)) (by rfl) dt rfl dt S dt ?_;intro N0 N1 S Me;refine oB F fun Lg Ju F=>?_;have G6:=S.boxRow 0 rfl;replace S:=S.t1;replace S:=S.roOne (R:=R0_) (W:=J) Fg;replace S:=S.one;refine aA rfl dt rfl dt S rfl rfl rfl (by simp) G6 Ju dt ?_;intro N3 HS S;refine pa HS (ag (bn E8 (tn EU ?_)));replace S:=S.keep 1;exact ⟨ES,EV,Gk,GJ,HS,Lg,EO,rfl,rfl,S,EQ,Gl,F⟩
     refine ei E3 (pM Y U (ei E3 (pM Y U (ei E3 (pe (i_ (Z.length:Int)) (aq rfl (S.rdAt (R:=(aB (roR J R0_) 28)) 0 rfl)) (ei E3 (oB F fun Lh Jv F=>pe (i_ Lh) (cg rfl rfl Jv) (ei E3 (oB F fun N4 Jw F=>?_)))))))));refine aE (wA:=HP) rfl (S.rdAt (R:=(aB (roR J R0_) 28)) 0 rfl) rfl dt rfl Jw dt ?_;intro N5 Mf N6 FL FA;replace FL:R0_.rd J _ _:=FL;obtain ⟨Li,rfl⟩:=av FL;refine ei E3 (pe Li (ac rfl (FA 0 _ rfl)) (ei E3 (pm Fq (ei E3 (oB F fun HT Jx F=>?_)))));refine ec0 f9 (bE (S.up FL) (S.up Fg) Jx) (ca (ai rfl (ai rfl rfl))) S fun N7 Jy S=>?_;have FA:=ak Jy FA;refine ei E3 (pe (.bool (HT != 0)) (cJ rfl rfl) (pe (.bool (HT != 0)) (ax rfl E3 rfl) (en HR (oF F (fun Gm F=>?_) fun Gm F=>?_))))
     ·refine ct Gm (ah (pM Y U (pm Fq ?_)));refine au [Fq] (aM rfl (oc Fg)) (by rfl) dt rfl dt S dt ?_;intro N8 N9 S Jz;have FA:=ak Jz FA;refine oB F fun Lj JA F=>?_;have G7:=S.boxRow 0 rfl;replace S:=S.t1;replace S:=S.roOne (R:=R0_) (W:=J) Fg;replace S:=S.one;refine aA rfl dt rfl dt S rfl rfl rfl (by simp) G7 JA dt ?_;intro Oa HU S;refine pa HU (ag (bn E8 (tn EU ?_)));replace S:=S.keep 1;exact ⟨ES,EV,Gk,GJ,HU,Lj,EO,rfl,rfl,S,EQ,Gl,F⟩
     refine cf Gm (aV (bn E8 (tn EU ?_)));replace S:=S.keep 1;exact ⟨ES,EV,Gk,GJ,Y,Z,EO,rfl,U,S,EQ,Gl,F⟩
    refine cf Gj (sR fun _ Lk=>pM ES EO (oB F fun Ob JB F=>?_));refine aE (wA:=J) rfl EQ rfl dt rfl JB dt ?_;intro Oc Mg Od Fh JC;obtain ⟨Fr,rfl⟩:=av Fh;refine pe Fr (ac rfl ((ak S.below JC) 0 _ rfl)) (pa Fr (en Lk (ah (pM ES EO (oB F fun GK JD F=>?_)))));refine dH (wA:=J) rfl rfl EQ (.inl (congrArg some rfl)) (.inr ⟨rfl,rfl⟩) JD dt ?_;intro Gn Gp;refine pa Gn (en HQ (sR fun _ HV=>pM Y U (pe (i_ (Z.length:Int)) (aq rfl (S.rdAt (R:=(aB (roR J R0_) 28)) 0 rfl)) (pe (.bool ((Z.length:Int) == 0)) (bq rfl rfl) (pm (.bool ((Z.length:Int) == 0)) (oF F (fun E4 F=>?_) fun E4 F=>?_))))))
    ·refine eo E4 (eo E4 (eo E4 (eo E4 (eo E4 (eo E4 (eo E4 (eo E4 (eo E4 (pe (.bool true) (aw rfl E4 rfl) (en HV (ct rfl (ah (pM Y U (pm Fr ?_))))))))))))));refine au [Fr] (aM rfl (oc Fh)) (by rfl) dt rfl dt S dt ?_;intro Oe Of S Mh;refine oB F fun Ll JE F=>?_;have G8:=S.boxRow 0 rfl;replace S:=S.t1;replace S:=S.roOne (R:=R0_) (W:=J) Fh;replace S:=S.one;refine aA rfl dt rfl dt S rfl rfl rfl (by simp) G8 JE dt ?_;intro Og HW S;refine pa HW (ag (bn E8 (tn EU ?_)));replace S:=S.keep 1;exact ⟨Gn,GK,ET,EW,HW,Ll,rfl,EP,rfl,S,Gp,ER,F⟩
    refine ei E4 (pM Y U (ei E4 (pM Y U (ei E4 (pe (i_ (Z.length:Int)) (aq rfl (S.rdAt (R:=(aB (roR J R0_) 28)) 0 rfl)) (ei E4 (oB F fun Lm JF F=>pe (i_ Lm) (cg rfl rfl JF) (ei E4 (oB F fun Oh JG F=>?_)))))))));refine aE (wA:=HP) rfl (S.rdAt (R:=(aB (roR J R0_) 28)) 0 rfl) rfl dt rfl JG dt ?_;intro Oi Mi Oj FM FB;replace FM:R0_.rd J _ _:=FM;obtain ⟨Ln,rfl⟩:=av FM;refine ei E4 (pe Ln (ac rfl (FB 0 _ rfl)) (ei E4 (pm Fr (ei E4 (oB F fun HX JH F=>?_)))));refine ec0 f9 (bE (S.up FM) (S.up Fh) JH) (ca (ai rfl (ai rfl rfl))) S fun Ok JI S=>?_;have FB:=ak JI FB;refine ei E4 (pe (.bool (HX != 0)) (cJ rfl rfl) (pe (.bool (HX != 0)) (ax rfl E4 rfl) (en HV (oF F (fun Gq F=>?_) fun Gq F=>?_))))
    ·refine ct Gq (ah (pM Y U (pm Fr ?_)));refine au [Fr] (aM rfl (oc Fh)) (by rfl) dt rfl dt S dt ?_;intro Ol Om S JJ;have FB:=ak JJ FB;refine oB F fun Lo JK F=>?_;have G9:=S.boxRow 0 rfl;replace S:=S.t1;replace S:=S.roOne (R:=R0_) (W:=J) Fh;replace S:=S.one;refine aA rfl dt rfl dt S rfl rfl rfl (by simp) G9 JK dt ?_;intro On HY S;refine pa HY (ag (bn E8 (tn EU ?_)));replace S:=S.keep 1;exact ⟨Gn,GK,ET,EW,HY,Lo,rfl,EP,rfl,S,Gp,ER,F⟩
    refine cf Gq (aV (bn E8 (tn EU ?_)));replace S:=S.keep 1;exact ⟨Gn,GK,ET,EW,Y,Z,rfl,EP,U,S,Gp,ER,F⟩
   refine cf Gi (sR fun _ Lp=>pM ET EP (pe (i_ (EW.length:Int)) (aq rfl ER) (pe (.bool (decide (0 < (EW.length:Int)))) (bA rfl rfl) (pa (.bool (decide (0 < (EW.length:Int)))) (en Lp (ct FK ?_))))));refine bF (by kernel_rfl) (by kernel_rfl) ?_;refine qM ES EO (oB F fun Oo JL F=>?_);refine aU (wA:=J) rfl EQ rfl dt rfl JL dt ?_;intro Oq Mj Or GR JM;obtain ⟨Lq,rfl⟩:=av GR;refine qe Lq (ac rfl ((ak S.below JM) 0 _ rfl)) (qM ET EP (oB F fun Ot JN F=>?_));refine aU (wA:=J) rfl ER rfl dt rfl JN dt ?_;intro Ou Mk Ov GS JO;obtain ⟨Lr,rfl⟩:=av GS;refine qe Lr (ac rfl ((ak S.below JO) 0 _ rfl)) (oB F fun Gr JP F=>?_);refine cb (i_ Gr) f9 (fun w' hw'=>bE (bv (S.up GR) hw') (bv (S.up GS) hw') JP) (ca (ai rfl (ai rfl rfl))) dt ?_;refine qe (i_ Gr) (cj rfl) (aZ ?_);intro Ow JQ;replace S:=S.ext JQ;refine bn HO (tn HN (sR fun _ Lt=>?_));refine aW bZ S dt ?_;intro HZ Lu S Ml;refine pa Lu (en Lt (sg fun _ H0=>sg fun _ Lv=>?_));replace S:=S.r0;refine ah (pm (i_ Gr) (pe (.bool (decide (0 < Gr))) (bA rfl rfl) (en Lv (oF F (fun Gs F=>?_) fun Gs F=>?_))))
   ·refine ct Gs (sR fun _ Lw=>pM ET EP (oB F fun Ox JR F=>?_));refine aE (wA:=J) rfl ER rfl dt rfl JR dt ?_;intro Oy Mm Oz Fi JS;obtain ⟨Fs,rfl⟩:=av Fi;refine pe Fs (ac rfl ((ak S.below JS) 0 _ rfl)) (pa Fs (en Lw (ah (pM ET EP (oB F fun GL JT F=>?_)))));refine dH (wA:=J) rfl rfl ER (.inl (congrArg some rfl)) (.inr ⟨rfl,rfl⟩) JT dt ?_;intro Gt Gu;refine pa Gt (en H0 (sR fun _ H1=>pM Y U (pe (i_ (Z.length:Int)) (aq rfl (S.rdAt (R:=(aB (roR J R0_) 28)) 0 rfl)) (pe (.bool ((Z.length:Int) == 0)) (bq rfl rfl) (pm (.bool ((Z.length:Int) == 0)) (oF F (fun E5 F=>?_) fun E5 F=>?_))))))
    ·refine eo E5 (eo E5 (eo E5 (eo E5 (eo E5 (eo E5 (eo E5 (eo E5 (eo E5 (pe (.bool true) (aw rfl E5 rfl) (en H1 (ct rfl (ah (pM Y U (pm Fs ?_))))))))))))));refine au [Fs] (aM rfl (oc Fi)) (by rfl) dt rfl dt S dt ?_;intro OA OB S Mn;refine oB F fun Lx JU F=>?_;have Ha:=S.boxRow 0 rfl;replace S:=S.t1;replace S:=S.roOne (R:=R0_) (W:=J) Fi;replace S:=S.one;refine aA rfl dt rfl dt S rfl rfl rfl (by simp) Ha JU dt ?_;intro OC H2 S;refine pa H2 (ag (bn E8 (tn EU ?_)));replace S:=S.keep 1;exact ⟨ES,EV,Gt,GL,H2,Lx,EO,rfl,rfl,S,EQ,Gu,F⟩
    refine ei E5 (pM Y U (ei E5 (pM Y U (ei E5 (pe (i_ (Z.length:Int)) (aq rfl (S.rdAt (R:=(aB (roR J R0_) 28)) 0 rfl)) (ei E5 (oB F fun Ly JV F=>pe (i_ Ly) (cg rfl rfl JV) (ei E5 (oB F fun OD JW F=>?_)))))))));refine aE (wA:=HZ) rfl (S.rdAt (R:=(aB (roR J R0_) 28)) 0 rfl) rfl dt rfl JW dt ?_;intro OE Mo OF FN FC;replace FN:R0_.rd J _ _:=FN;obtain ⟨Lz,rfl⟩:=av FN;refine ei E5 (pe Lz (ac rfl (FC 0 _ rfl)) (ei E5 (pm Fs (ei E5 (oB F fun H3 JX F=>?_)))));refine ec0 f9 (bE (S.up FN) (S.up Fi) JX) (ca (ai rfl (ai rfl rfl))) S fun OG JY S=>?_;have FC:=ak JY FC;refine ei E5 (pe (.bool (H3 != 0)) (cJ rfl rfl) (pe (.bool (H3 != 0)) (ax rfl E5 rfl) (en H1 (oF F (fun Gv F=>?_) fun Gv F=>?_))))
    ·refine ct Gv (ah (pM Y U (pm Fs ?_)));refine au [Fs] (aM rfl (oc Fi)) (by rfl) dt rfl dt S dt ?_;intro OH OI S JZ;have FC:=ak JZ FC;refine oB F fun LA J0 F=>?_;have Hb:=S.boxRow 0 rfl;replace S:=S.t1;replace S:=S.roOne (R:=R0_) (W:=J) Fi;replace S:=S.one;refine aA rfl dt rfl dt S rfl rfl rfl (by simp) Hb J0 dt ?_;intro OJ H4 S;refine pa H4 (ag (bn E8 (tn EU ?_)));replace S:=S.keep 1;exact ⟨ES,EV,Gt,GL,H4,LA,EO,rfl,rfl,S,EQ,Gu,F⟩
    refine cf Gv (aV (bn E8 (tn EU ?_)));replace S:=S.keep 1;exact ⟨ES,EV,Gt,GL,Y,Z,EO,rfl,U,S,EQ,Gu,F⟩
   refine cf Gs (sR fun _ LB=>pM ES EO (oB F fun OK J1 F=>?_));refine aE (wA:=J) rfl EQ rfl dt rfl J1 dt ?_;intro OL Mp OM Fj J2;obtain ⟨Ft,rfl⟩:=av Fj;refine pe Ft (ac rfl ((ak S.below J2) 0 _ rfl)) (pa Ft (en LB (ah (pM ES EO (oB F fun GM J3 F=>?_)))));refine dH (wA:=J) rfl rfl EQ (.inl (congrArg some rfl)) (.inr ⟨rfl,rfl⟩) J3 dt ?_;intro Gw Gx;refine pa Gw (en H0 (sR fun _ H5=>pM Y U (pe (i_ (Z.length:Int)) (aq rfl (S.rdAt (R:=(aB (roR J R0_) 28)) 0 rfl)) (pe (.bool ((Z.length:Int) == 0)) (bq rfl rfl) (pm (.bool ((Z.length:Int) == 0)) (oF F (fun E6 F=>?_) fun E6 F=>?_))))))
   ·refine eo E6 (eo E6 (eo E6 (eo E6 (eo E6 (eo E6 (eo E6 (eo E6 (eo E6 (pe (.bool true) (aw rfl E6 rfl) (en H5 (ct rfl (ah (pM Y U (pm Ft ?_))))))))))))));refine au [Ft] (aM rfl (oc Fj)) (by rfl) dt rfl dt S dt ?_;intro ON OO S Mq;refine oB F fun LC J4 F=>?_;have Hc:=S.boxRow 0 rfl;replace S:=S.t1;replace S:=S.roOne (R:=R0_) (W:=J) Fj;replace S:=S.one;refine aA rfl dt rfl dt S rfl rfl rfl (by simp) Hc J4 dt ?_;intro OP H6 S;refine pa H6 (ag (bn E8 (tn EU ?_)));replace S:=S.keep 1;exact ⟨Gw,GM,ET,EW,H6,LC,rfl,EP,rfl,S,Gx,ER,F⟩
   refine ei E6 (pM Y U (ei E6 (pM Y U (ei E6 (pe (i_ (Z.length:Int)) (aq rfl (S.rdAt (R:=(aB (roR J R0_) 28)) 0 rfl)) (ei E6 (oB F fun LD J5 F=>pe (i_ LD) (cg rfl rfl J5) (ei E6 (oB F fun OQ J6 F=>?_)))))))));refine aE (wA:=HZ) rfl (S.rdAt (R:=(aB (roR J R0_) 28)) 0 rfl) rfl dt rfl J6 dt ?_;intro OR Mr OS FO FD;replace FO:R0_.rd J _ _:=FO;obtain ⟨LE,rfl⟩:=av FO;refine ei E6 (pe LE (ac rfl (FD 0 _ rfl)) (ei E6 (pm Ft (ei E6 (oB F fun H7 J7 F=>?_)))));refine ec0 f9 (bE (S.up FO) (S.up Fj) J7) (ca (ai rfl (ai rfl rfl))) S fun OT J8 S=>?_;have FD:=ak J8 FD;refine ei E6 (pe (.bool (H7 != 0)) (cJ rfl rfl) (pe (.bool (H7 != 0)) (ax rfl E6 rfl) (en H5 (oF F (fun Gy F=>?_) fun Gy F=>?_))))
   ·refine ct Gy (ah (pM Y U (pm Ft ?_)));refine au [Ft] (aM rfl (oc Fj)) (by rfl) dt rfl dt S dt ?_;intro OU OV S J9;have FD:=ak J9 FD;refine oB F fun LF Ka F=>?_;have Hd:=S.boxRow 0 rfl;replace S:=S.t1;replace S:=S.roOne (R:=R0_) (W:=J) Fj;replace S:=S.one;refine aA rfl dt rfl dt S rfl rfl rfl (by simp) Hd Ka dt ?_;intro OW H8 S;refine pa H8 (ag (bn E8 (tn EU ?_)));replace S:=S.keep 1;exact ⟨Gw,GM,ET,EW,H8,LF,rfl,EP,rfl,S,Gx,ER,F⟩
   refine cf Gy (aV (bn E8 (tn EU ?_)));replace S:=S.keep 1;exact ⟨Gw,GM,ET,EW,Y,Z,rfl,EP,U,S,Gx,ER,F⟩
  refine cf FK (aG (tx GA (tx EU ?_)));replace F:=exB F Il;refine bS Kl (tn Kk (sR fun _ LG=>pM Y U (pa Y (en LG (aj (aH rfl rfl ?_))))));have hr:=oI F;exact ⟨Y,cR hr fun r=>Y,(S.rebase Ij).below,Eq.mp (congrArg (fun (r:T1_)=>R3_.rd Kn [Y] r) hr :) (EH S.below (S.rdAt (R:=(aB (roR J R0_) 28)) 0 rfl))⟩
theorem uV {w0 : World} {u0 : Value} {a0 : List T0_} (ha0 : R3_.rd w0 [u0] a0) {N : Nat} {r : T1_} (hF : f5 N a0 = some r) :
    Calls Tryz.prog 60 #[u0] w0 fun e w' => ∃ (q0 : Value), e = .returned (q0) ∧ Ext w0 w' ∧ R3_.rd w' [q0] r := uj N ha0 hF
theorem fi {w0:World} {a0:Int} {u1:Value} {a1:List T0_} (ha1:R3_.rd w0 [u1] a1) {N:Nat} {r:Bool} (F:cL N a0 a1=some r): Calls Tryz.prog 61 #[.agg #[i_ a0,u1]] w0 fun e w'=>e=.returned (.bool r)∧Ext w0 w' := by
 unfold cL at F;refine aJ Tryz.func61 rfl rfl dt ?_;have S:=Sat.start w0;refine sR fun _ Fx=>?_;refine bo [i_ a0,u1] rfl S dt ?_;intro FS ER S FM;refine pa (.bool false) (en Fx (sg fun _ E4=>sR fun _ Fc=>pe (pt ER (0 + 0)) (ae rfl) (pe (i_ a0) (ac rfl ((S.boxAt 0 rfl) 0 _ rfl)) (oB F fun Fd Ff F=>?_))));refine ec0 j6 (eh Ff) (ca (ai rfl (ai rfl (ai rfl rfl)))) S fun FT FN S=>?_;refine pe (.bool (!Fd)) (bc rfl) (pm (.bool (!Fd)) (oF F (fun Z F=>?_) fun Z F=>?_))
 ·refine ei (am Z) (pe (pt ER (0 + 1)) (ae rfl) (ei (am Z) (pe u1 (ac rfl ((S.boxAt 0 rfl) 1 _ rfl)) (ei (am Z) (pe (i_ (a1.length:Int)) (aq rfl ha1) (ei (am Z) (pe (.bool (decide (4000 < (a1.length:Int)))) (bA rfl rfl) (pe (.bool (decide (4000 < (a1.length:Int)))) (ax rfl (am Z) rfl) (en Fc (oF F (fun EW F=>?_) fun EW F=>?_))))))))))
  ·refine ct EW (sg fun _ Fy=>?_);replace S:=S.r0;refine ah (pa (.bool false) (en Fy (aj (tr E4 (aH rfl rfl ?_)))));exact rB F S
  refine cf EW (sn E4 (sg fun _ EX=>sR fun _ Fz=>pa (i_ 0) (en Fz (bg fun _ EY=>?_))));obtain ⟨FA,hL,ET⟩:=ob F;refine aF (fun k e w=>∃ (EO:Int),e 1=pt ER 0∧e 3=i_ EO∧Sat w0 w [Box ER 39 [i_ a0,u1]]∧cF N k a0 a1 EO=some FA) N ?_ ?_ ?_
  ·exact ⟨0,rfl,rfl,S,hL⟩
  ·rintro e w ⟨_,_,_,_,hz⟩; exact nn hz
  rintro k FU FV ⟨EO,EP,EQ,S,F⟩;refine gn fun _ ES=>sg fun _ Fe=>sR fun _ FB=>pM (i_ EO) EQ (pe (pt ER (0 + 1)) (ae EP) (pe u1 (ac rfl ((S.boxAt 0 rfl) 1 _ rfl)) (pe (i_ (a1.length:Int)) (aq rfl ha1) (pe (.bool (decide (EO < (a1.length:Int)))) (aL rfl rfl) (en FB (oF F (fun EZ F=>?_) fun EZ F=>?_))))))
  ·refine ct EZ (sn Fe (sg fun _ EU=>bg fun _ EV=>sg fun _ E0=>?_));refine bF (by kernel_rfl) (by kernel_rfl) ?_;refine qe (pt ER (0 + 1)) (ae EP) (qe u1 (ac rfl ((S.boxAt 0 rfl) 1 _ rfl)) (qM (i_ EO) EQ (oB F fun E5 Fg F=>?_)));refine aU (wA:=w0) rfl ha1 rfl dt rfl Fg dt ?_;intro FW FO FX E8 Fh;obtain ⟨FC,rfl⟩:=av E8;refine qe FC (ac rfl ((ak S.below Fh) 0 _ rfl)) (qe (i_ (E5.length:Int)) (aq rfl E8) (qe (pt ER (0 + 0)) (ae EP) (qe (i_ a0) (ac rfl ((S.boxAt 0 rfl) 0 _ rfl)) (qe (.bool ((E5.length:Int) != a0)) (cJ rfl rfl) (qm (.bool ((E5.length:Int) != a0)) (oF F (fun U F=>?_) fun U F=>?_))))))
   ·refine qo U (qo U (qo U (qo U (qo U (qo U (qo U (qe (.bool true) (aw rfl U rfl) (qm (.bool true) (qo rfl (qo rfl (qo rfl ?_)))))))))));refine bL rfl dt ?_;refine bL rfl dt ?_;refine bL rfl dt ?_;refine bL rfl dt ?_;refine bL rfl dt ?_;refine bL rfl dt ?_;refine bL rfl dt ?_;refine bL rfl dt ?_;refine bL rfl dt ?_;refine bL rfl dt ?_;refine bL rfl dt ?_;refine bL rfl dt ?_;refine bL rfl dt ?_;refine qo rfl (qe (.bool true) (aw rfl rfl rfl) (aZ ?_));intro FY Fi;replace S:=S.ext Fi;refine tn E0 (ct rfl (sg fun _ FD=>?_));replace S:=S.r0;refine ah (pa (.bool false) (en FD (aj (br EV (tr EU (tr ES (br EY (tr EX ?_))))))));replace F:=exL F ET;refine aH rfl rfl ?_;exact rB F S
   refine qi U (qe (pt ER (0 + 1)) (ae EP) (qi U (qe u1 (ac rfl ((S.boxAt 0 rfl) 1 _ rfl)) (qi U (qM (i_ EO) EQ (qi U (oB F fun FZ Fj F=>?_)))))));refine aU (wA:=w0) rfl ha1 rfl dt rfl Fj dt ?_;intro F0 FP F3 E9 Fk;obtain ⟨FE,rfl⟩:=av E9;refine qi U (qe FE (ac rfl ((ak S.below Fk) 0 _ rfl)) (qi U (oB F fun E1 Fl F=>?_)));refine cb (.bool E1) xO (fun w' hw'=>jt (bv (S.up E9) hw') Fl) (ca (ai rfl rfl)) dt ?_;refine qi U (qe (.bool (!E1)) (bc rfl) (qe (.bool (!E1)) (ax rfl U rfl) (qm (.bool (!E1)) (oF F (fun Y F=>?_) fun Y F=>?_))))
   ·refine qi (am Y) (qM (i_ EO) EQ (qi (am Y) (qe (.bool (decide (0 < EO))) (bA rfl rfl) (qi (am Y) (qm (.bool (decide (0 < EO))) (oF F (fun J F=>?_) fun J F=>?_))))))
    ·refine qi J (qe (pt ER (0 + 1)) (ae EP) (qi J (qe u1 (ac rfl ((S.boxAt 0 rfl) 1 _ rfl)) (qi J (qM (i_ EO) EQ (qi J (oB F fun FF Fm F=>qe (i_ FF) (cg rfl rfl Fm) (qi J (oB F fun F4 Fn F=>?_)))))))));refine aU (wA:=w0) rfl ha1 rfl dt rfl Fn dt ?_;intro F5 FQ F6 Fa Fo;obtain ⟨FG,rfl⟩:=av Fa;refine qi J (qe FG (ac rfl ((ak S.below Fo) 0 _ rfl)) (qi J (qe (pt ER (0 + 1)) (ae EP) (qi J (qe u1 (ac rfl ((S.boxAt 0 rfl) 1 _ rfl)) (qi J (qM (i_ EO) EQ (qi J (oB F fun F7 Fp F=>?_)))))))));refine aU (wA:=w0) rfl ha1 rfl dt rfl Fp dt ?_;intro F8 FR F9 Fb Fq;obtain ⟨FH,rfl⟩:=av Fb;refine qi J (qe FH (ac rfl ((ak S.below Fq) 0 _ rfl)) (qi J (oB F fun E2 Fr F=>?_)));refine cb (i_ E2) f9 (fun w' hw'=>bE (bv (S.up Fa) hw') (bv (S.up Fb) hw') Fr) (ca (ai rfl (ai rfl rfl))) dt ?_;refine qi J (qe (.bool (decide (0 ≤ E2))) (eI rfl rfl) (qi (am Y) (qe (.bool (decide (0 ≤ E2))) (aw rfl J rfl) (qe (.bool (decide (0 ≤ E2))) (ax rfl (am Y) rfl) (aZ ?_)))));intro Ga Fs;replace S:=S.ext Fs;refine tn E0 (oF F (fun E3 F=>?_) fun E3 F=>?_)
     ·refine ct E3 (sg fun _ FI=>?_);replace S:=S.r0;refine ah (pa (.bool false) (en FI (aj (br EV (tr EU (tr ES (br EY (tr EX ?_))))))));replace F:=exL F ET;refine aH rfl rfl ?_;exact rB F S
     refine cf E3 (aV (bn EV (tn EU (ah (pM (i_ EO) EQ (oB F fun E6 Ft F=>pe (i_ E6) (aD rfl rfl Ft) (pa (i_ E6) (en ES ?_))))))));replace S:=S.keep 1;exact ⟨E6,EP,rfl,S,F⟩
    refine qo J (qo J (qo J (qo J (qo J (qo J (qo J (qo J (qo J (qo J (qo J (qo J (qo J (qi (am Y) (qe (.bool false) (ax rfl J rfl) (qe (.bool false) (ax rfl (am Y) rfl) (aZ ?_))))))))))))))));intro Gb Fu;replace S:=S.ext Fu;refine tn E0 (cf rfl (aV (bn EV (tn EU (ah (pM (i_ EO) EQ (oB F fun E7 Fv F=>pe (i_ E7) (aD rfl rfl Fv) (pa (i_ E7) (en ES ?_)))))))));replace S:=S.keep 1;exact ⟨E7,EP,rfl,S,F⟩
   refine qo (an Y) (qo (an Y) (qo (an Y) ?_));refine bL rfl dt ?_;refine bL rfl dt ?_;refine bL rfl dt ?_;refine bL rfl dt ?_;refine bL rfl dt ?_;refine bL rfl dt ?_;refine bL rfl dt ?_;refine bL rfl dt ?_;refine bL rfl dt ?_;refine bL rfl dt ?_;refine bL rfl dt ?_;refine bL rfl dt ?_;refine bL rfl dt ?_;refine qo (an Y) (qe (.bool true) (aw rfl (an Y) rfl) (aZ ?_));intro Gc Fw;replace S:=S.ext Fw;refine tn E0 (ct rfl (sg fun _ FJ=>?_));replace S:=S.r0;refine ah (pa (.bool false) (en FJ (aj (br EV (tr EU (tr ES (br EY (tr EX ?_))))))));replace F:=exL F ET;refine aH rfl rfl ?_;exact rB F S
  refine cf EZ (aG (tx Fe (tx ES ?_)));replace F:=exA F ET;refine bS EY (tn EX (sg fun _ FK=>?_));replace S:=S.r0;refine ah (pa (.bool true) (en FK (aj (aH rfl rfl ?_))));exact rB F S
 refine eo (an Z) (eo (an Z) (eo (an Z) (eo (an Z) (pe (.bool true) (aw rfl (an Z) rfl) (en Fc (ct rfl (sg fun _ FL=>?_)))))));replace S:=S.r0;refine ah (pa (.bool false) (en FL (aj (tr E4 (aH rfl rfl ?_)))));exact rB F S
end
end Go.Proofs.YtnipkopfefkojaaGreat
