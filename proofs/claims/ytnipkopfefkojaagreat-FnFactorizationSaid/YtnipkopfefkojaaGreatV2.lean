/- Plain laws: LeapfrogIntersect: what the program and the reference come to. -/
import Derived.Test.YtnipkopfefkojaaGreatV1
namespace Go.Proofs.YtnipkopfefkojaaGreat
open Go.RowKit

def fX (l:List Int):Int:=l.getD 0 0
def mi (hs:List Int) (h:Int):Nat→Nat
 | 0=>0
 | k+1=>if h<hs.getD k 0 then mi hs h k else k+1
theorem yc (hs:List Int) (h:Int):∀ k,mi hs h k≤k
 | 0=>Nat.le_refl _
 | k+1=>by
  unfold mi;split
  ·have:=yc hs h k;omega
  ·exact Nat.le_refl _
theorem yK (hs:List Int) (h:Int):∀ k j,mi hs h k≤j→j<k→h<hs.getD j 0
 | 0,j,_,h2=>absurd h2 (by omega)
 | k+1,j,h1,h2=>by
  unfold mi at h1
  split at h1
  ·rename_i hh
   by_cases e:j=k
   ·rw [e];exact hh
   ·exact yK hs h k j h1 (by omega)
  ·omega
theorem yb (hs:List Int) (h:Int):∀ k,mi hs h k=0∨hs.getD (mi hs h k-1) 0≤h
 | 0=>.inl rfl
 | k+1=>by
  unfold mi;split
  ·exact yb hs h k
  ·rename_i hh;exact .inr (by rw [Nat.add_sub_cancel];omega)
def hdI (ls:aK) (j:Int):Int:=fX (ls.getD j.toNat [])
def jp (ls:aK) (O:List Int) (i:Nat):Nat:=mi (O.map (hdI ls)) (hdI ls (i:Int)) O.length
def qf (ls:aK) (O:List Int) (i:Nat):List Int:=O.take (jp ls O i)++[(i:Int)]++O.drop (jp ls O i)
def cL (ls:aK) (i:Nat):List Int:=(List.range' 0 i).foldl (qf ls) []
def lsO (ls:aK) (O:List Int):aK:=O.map fun j=>ls.getD j.toNat []
theorem q7 (ls:aK) (i:Nat):cL ls (i+1)=qf ls (cL ls i) i:=by unfold cL;rw [List.range'_concat,List.foldl_append];simp
theorem u9 (ls:aK) (O:List Int) (i:Nat):jp ls O i≤O.length:=yc _ _ _
theorem vk (ls:aK) (O:List Int) (i:Nat):(qf ls O i).Perm ((i:Int) :: O):=by
 unfold qf
 rw [List.append_assoc,List.singleton_append]
 have h:=List.perm_middle (a:=(i:Int)) (l₁:=O.take (jp ls O i)) (l₂:=O.drop (jp ls O i))
 rwa [List.take_append_drop] at h
theorem Bc (ls:aK) (O:List Int) (i:Nat):(qf ls O i).length=O.length+1:=by rw [(vk ls O i).length_eq,List.length_cons]
def leI (a b:Int):Prop:=a≤b
theorem x8 {ls:aK} {O:List Int} {i:Nat} (h:(O.map (hdI ls)).Pairwise leI):((qf ls O i).map (hdI ls)).Pairwise leI:=by
 have hk:=u9 ls O i
 have hat:∀ j (hj:j<O.length),hdI ls O[j]=(O.map (hdI ls)).getD j 0:=fun j hj=>by rw [bk (by rw [List.length_map];exact hj),List.getElem_map]
 unfold qf
 rw [List.map_append,List.map_append,List.append_assoc]
 have h1:(O.map (hdI ls))=(O.take (jp ls O i)).map (hdI ls)++(O.drop (jp ls O i)).map (hdI ls):=by rw [← List.map_append,List.take_append_drop]
 rw [h1] at h
 obtain ⟨p1,p2,p3⟩:=List.pairwise_append.1 h
 refine List.pairwise_append.2 ⟨p1,?_,?_⟩
 ·rw [List.map_cons,List.map_nil,List.singleton_append]
  refine List.pairwise_cons.2 ⟨fun y hy=>?_,p2⟩
  obtain ⟨x,hx,rfl⟩:=List.mem_map.1 hy
  obtain ⟨j,hj,rfl⟩:=List.getElem_of_mem hx
  rw [List.length_drop] at hj
  rw [List.getElem_drop]
  have:=yK (O.map (hdI ls)) (hdI ls (i:Int)) O.length (jp ls O i+j) (by unfold jp;omega) (by omega)
  rw [← hat _ (by omega)] at this
  exact Int.le_of_lt this
 ·intro x hx y hy
  have hx':leI x (hdI ls (i:Int)):=by
   obtain ⟨z,hz,rfl⟩:=List.mem_map.1 hx
   obtain ⟨j,hj,rfl⟩:=List.getElem_of_mem hz
   rw [List.length_take] at hj
   rw [List.getElem_take]
   have hj1:j<jp ls O i:=by omega
   rcases yb (O.map (hdI ls)) (hdI ls (i:Int)) O.length with h0 | h0
   ·have:jp ls O i=0:=h0
    omega
   ·have h0':(O.map (hdI ls)).getD (jp ls O i-1) 0≤hdI ls (i:Int):=h0
    by_cases e:j=jp ls O i-1
    ·unfold leI;rw [hat j (by omega),e];exact h0'
    ·have hp:=List.pairwise_iff_getElem.1 p1 j (jp ls O i-1) (by rw [List.length_map,List.length_take];omega) (by rw [List.length_map,List.length_take];omega) (by omega)
     rw [List.getElem_map,List.getElem_map,List.getElem_take,List.getElem_take] at hp
     unfold leI at hp ⊢
     rw [hat (jp ls O i-1) (by omega)] at hp
     omega
  rw [List.map_cons,List.map_nil,List.singleton_append] at hy
  rcases List.mem_cons.1 hy with rfl | hy
  ·exact hx'
  ·exact p3 x hx y hy
structure OrdOk (ls:aK) (O:List Int) (i:Nat):Prop where
 len:O.length=i
 nd:O.Nodup
 bd:∀ j∈O,0≤j∧j<i
 so:(O.map (hdI ls)).Pairwise leI
theorem mB (ls:aK):∀ i,OrdOk ls (cL ls i) i
 | 0=>⟨rfl,List.nodup_nil,fun j h=>absurd h (List.not_mem_nil),List.Pairwise.nil⟩
 | i+1=>by
  have h:=mB ls i
  rw [q7]
  have hp:=vk ls (cL ls i) i
  refine ⟨by rw [Bc,h.len],hp.nodup_iff.2 (List.nodup_cons.2 ⟨fun hm=>by have:=h.bd _ hm;omega,h.nd⟩),fun j hj=>?_,x8 h.so⟩
  rcases List.mem_cons.1 (hp.mem_iff.1 hj) with rfl | hj
  ·omega
  ·have:=h.bd j hj;omega
def shS (ls:aK) (i:Nat) (s:Int):Int:=bif Nat.beq i 0||decide (((ls.getD i []).length:Int)<s) then ((ls.getD i []).length:Int) else s
def shT (ls:aK) (i:Nat):Int:=(List.range' 0 i).foldl (fun s i=>shS ls i s) 0
theorem ql (ls:aK) (i:Nat):shT ls (i+1)=shS ls i (shT ls i):=by unfold shT;rw [List.range'_concat,List.foldl_append];simp
theorem zI (ls:aK):∀ i,0≤shT ls i∧∀ j,j<i→shT ls i≤((ls.getD j []).length:Int)
 | 0=>⟨Int.le_refl _,fun j h=>absurd h (by omega)⟩
 | i+1=>by
  obtain ⟨h1,h2⟩:=zI ls i
  rw [ql]
  unfold shS
  cases i with
  | zero=>exact ⟨by rw [show (Nat.beq 0 0)=true from rfl,Bool.true_or,cond_true];omega,fun j hj=>by rw [show (Nat.beq 0 0)=true from rfl,Bool.true_or,cond_true,show j=0 by omega];exact Int.le_refl _⟩
  | succ i =>
   rw [show Nat.beq (i+1) 0=false from rfl,Bool.false_or]
   by_cases h:((ls.getD (i+1) []).length:Int)<shT ls (i+1)
   ·rw [decide_eq_true h,cond_true]
    refine ⟨by omega,fun j hj=>?_⟩
    by_cases e:j=i+1
    ·rw [e];exact Int.le_refl _
    ·have:=h2 j (by omega);omega
   ·rw [decide_eq_false h,cond_false]
    refine ⟨h1,fun j hj=>?_⟩
    by_cases e:j=i+1
    ·rw [e];omega
    ·exact h2 j (by omega)
def eS (n:Nat):List Nat:=List.replicate n 0
def v9 (ls:aK):List Int × Nat:=fV (lsO ls (cL ls ls.length)) (kW (lsO ls (cL ls ls.length)) (eS ls.length)+1) (eS ls.length) (fX ((lsO ls (cL ls ls.length)).getD (ls.length-1) [])) [] 0
def ki (ls:aK):List Int × Int:=bif gt ls&&!(shT ls ls.length == 0) then ((v9 ls).1,((v9 ls).2:Int)) else ([],0)
theorem pX:∀ {xs:List Int},asc xs=true→fH xs
 | [],_=>List.Pairwise.nil
 | [_],_=>List.pairwise_singleton _ _
 | x :: y :: t,h=>by
  unfold asc at h
  rw [Bool.and_eq_true,decide_eq_true_eq] at h
  have ih:=pX h.2
  refine List.pairwise_cons.2 ⟨fun z hz=>?_,ih⟩
  rcases List.mem_cons.1 hz with rfl | hz
  ·exact h.1
  ·have:=(List.pairwise_cons.1 ih).1 z hz;omega
theorem s6:∀ {xs:List Int},fH xs→asc xs=true
 | [],_=>rfl
 | [_],_=>rfl
 | x :: y :: t,h=>by
  obtain ⟨h1,h2⟩:=List.pairwise_cons.1 h
  unfold asc
  rw [decide_eq_true (h1 y List.mem_cons_self),s6 h2];rfl
theorem rV (ls:aK):(lsO ls (cL ls ls.length)).length=ls.length:=by unfold lsO;rw [List.length_map,(mB ls ls.length).len]
theorem jL {ls:aK} {l:List Int}:l∈lsO ls (cL ls ls.length)↔l∈ls:=by
 have h:=mB ls ls.length
 unfold lsO
 rw [List.mem_map]
 constructor
 ·rintro ⟨j,hj,rfl⟩
  have:=h.bd j hj
  exact fo (by omega)
 ·intro hl
  obtain ⟨i,hi,rfl⟩:=List.getElem_of_mem hl
  refine ⟨(i:Int),uc h.nd h.len h.bd (i:Int) (by omega) (by omega),?_⟩
  rw [show ((i:Nat):Int).toNat=i from rfl,dK hi]
theorem tI {ls:aK} {O:List Int} {i:Nat} (h:i<O.length):(lsO ls O).getD i []=ls.getD O[i].toNat []:=by unfold lsO;simp [h]
theorem sW (n k:Nat):(eS n).getD k 0=0:=by
 unfold eS
 by_cases h:k<n <;> simp [h]
theorem pO {ls:aK} (h:(gt ls&&!(shT ls ls.length == 0))=true) :
  LInv (lsO ls (cL ls ls.length)) (eS ls.length) (fX ((lsO ls (cL ls ls.length)).getD (ls.length-1) [])) [] 0∧∀ l∈ls,0<l.length:=by
 rw [Bool.and_eq_true,Bool.not_eq_true',beq_eq_false_iff_ne] at h
 obtain ⟨h1,h2⟩:=h
 unfold gt at h1
 rw [Bool.and_eq_true,List.all_eq_true,decide_eq_true_eq] at h1
 obtain ⟨h3,h4⟩:=zI ls ls.length
 have hne:∀ l∈ls,0<l.length:=fun l hl=>by
  obtain ⟨i,hi,rfl⟩:=List.getElem_of_mem hl
  have:=h4 i hi
  rw [dK hi] at this;omega
 have ho:=mB ls ls.length
 have hlen:=rV ls
 have hkey:∀ k,kY (lsO ls (cL ls ls.length)) (eS ls.length) k=fX ((lsO ls (cL ls ls.length)).getD k []):=fun k=>by unfold kY fX;rw [sW]
 refine ⟨⟨by omega,by rw [hlen];simp [eS],fun l hl=>pX (h1.1 l (jL.1 hl)),fun k hk=>?_,fun i j hij hj=>?_,?_,List.Pairwise.nil,by simp,by simp,fun x hx=>.inr fun k hk=>?_⟩,hne⟩
 ·rw [sW];exact hne _ (jL.1 (fo hk))
 ·rw [Nat.zero_add,Nat.zero_add,Nat.mod_eq_of_lt hj,Nat.mod_eq_of_lt (by omega),hkey,hkey]
  by_cases e:i=j
  ·rw [e];exact Int.le_refl _
  ·have hs:=List.pairwise_iff_getElem.1 ho.so i j (by rw [List.length_map,ho.len];omega) (by rw [List.length_map,ho.len];omega) (by omega)
   rw [List.getElem_map,List.getElem_map] at hs
   rw [tI (by rw [ho.len];omega),tI (by rw [ho.len];omega)]
   exact hs
 ·rw [Nat.zero_add,Nat.mod_eq_of_lt (by omega),hkey,hlen]
 ·rw [hkey]
  have hl:=jL.1 (fo hk)
  obtain ⟨j,hj,e⟩:=Aa (hx _ (fo hk))
  have hp:=hne _ hl
  unfold fX
  rw [bk hp,← e]
  rcases Nat.eq_zero_or_pos j with h0 | h0
  ·subst h0;exact Int.le_refl _
  ·exact Int.le_of_lt (o3 (pX (h1.1 _ hl)) h0 hj)
theorem ot:∀ (Ls:aK) (B n:Nat),(∀ l∈Ls,l.length≤B)→kW Ls (eS n)≤Ls.length*B
 | [],B,n,_=>by simp [kW]
 | l :: Ls,B,0,_=>by simp [kW,eS]
 | l :: Ls,B,n+1,h=>by
  have ih:=ot Ls B n fun x hx=>h x (List.mem_cons_of_mem _ hx)
  have hl:=h l List.mem_cons_self
  unfold kW eS at ih ⊢
  rw [List.replicate_succ,List.zipWith_cons_cons,List.sum_cons,List.length_cons,Nat.succ_mul]
  omega
theorem pV {ls:aK} {B:Nat} (h:∀ l∈ls,l.length≤B):fH (ki ls).1∧(∀ x∈(ki ls).1,∀ l∈ls,x∈l)∧0≤(ki ls).2∧(ki ls).2≤(ls.length*B+1:Nat)∧(gt ls=true→∀ x,(∀ l∈ls,x∈l)→x∈(ki ls).1):=by
 unfold ki
 cases hc:gt ls&&!(shT ls ls.length == 0) with
 | false =>
  refine ⟨List.Pairwise.nil,by simp,Int.le_refl _,by rw [cond_false];omega,fun ha x hx=>?_⟩
  rw [ha,Bool.true_and,Bool.not_eq_false',beq_iff_eq] at hc
  exfalso
  -- some list is empty
  have hex:∀ i,i≤ls.length→0<i→shT ls i=0→∃ j,j<i∧(ls.getD j []).length=0:=by
   intro i
   induction i with
   | zero=>intro _ h;omega
   | succ i ih =>
    intro hi _ hz
    rw [ql] at hz
    unfold shS at hz
    cases i with
    | zero =>
     rw [show (Nat.beq 0 0)=true from rfl,Bool.true_or,cond_true] at hz
     exact ⟨0,by omega,by omega⟩
    | succ i =>
     rw [show Nat.beq (i+1) 0=false from rfl,Bool.false_or] at hz
     by_cases hlt:((ls.getD (i+1) []).length:Int)<shT ls (i+1)
     ·rw [decide_eq_true hlt,cond_true] at hz
      exact ⟨i+1,by omega,by omega⟩
     ·rw [decide_eq_false hlt,cond_false] at hz
      obtain ⟨j,hj,e⟩:=ih (by omega) (by omega) hz
      exact ⟨j,by omega,e⟩
  unfold gt at ha
  rw [Bool.and_eq_true,decide_eq_true_eq] at ha
  obtain ⟨j,hj,e⟩:=hex ls.length (Nat.le_refl _) ha.2 hc
  have hm:=hx _ (fo hj)
  rw [List.length_eq_zero_iff.1 e] at hm
  simp at hm
 | true =>
  rw [cond_true]
  obtain ⟨I,_⟩:=pO hc
  obtain ⟨g1,g2,g3⟩:=sQ (kW (lsO ls (cL ls ls.length)) (eS ls.length)+1) _ _ _ _ I (by omega)
  have hr:=ot (lsO ls (cL ls ls.length)) B ls.length fun l hl=>h l (jL.1 hl)
  rw [rV] at hr
  refine ⟨g1,fun x hx l hl=>(g2 x).1 hx l (jL.2 hl),Int.natCast_nonneg _,?_,fun _ x hx=>(g2 x).2 fun l hl=>hx l (jL.1 hl)⟩
  have g4:(v9 ls).2≤ls.length*B+1:=by
   have:(v9 ls).2≤0+(kW (lsO ls (cL ls ls.length)) (eS ls.length)+1):=g3
   omega
  exact Int.ofNat_le.2 g4
end Go.Proofs.YtnipkopfefkojaaGreat
namespace Go.Proofs.YtnipkopfefkojaaGreat
open Go.RowKit

theorem ixR {ls:aK} {k:Nat} (h:k<ls.length):ix ls (k:Int)=some (ls.getD k []):=by rw [aR h,dK h]
theorem ixD {xs:List Int} {k:Nat} (h:k<xs.length):ix xs (k:Int)=some (xs.getD k 0):=by rw [aR h,bk h]
theorem ixH {xs:List Int} (h:0<xs.length):ix xs 0=some (fX xs):=ixD h
def cz (A:List Nat):List Int:=A.map fun (a:Nat)=>((a:Nat):Int)
theorem pE {A:List Nat} {k:Nat} (h:k<A.length):ix (cz A) (k:Int)=some ((A.getD k 0:Nat):Int):=by
 unfold cz
 rw [aR (by rw [List.length_map];exact h),List.getElem_map]
 simp [h]
theorem um {A:List Nat} {k a:Nat} (h:k<A.length):sto (cz A) (k:Int) (a:Int)=some (cz (A.set k a)):=by
 unfold cz
 rw [iZ (by rw [List.length_map];exact h),List.map_set]
theorem Dd {a b:Nat} (h:0<b):rm (a:Int) (b:Int)=some ((a % b:Nat):Int):=by
 rw [rT (by omega),← Int.ofNat_tmod]
theorem Dt (ls:aK) (O:List Int):(lsO ls O).map fX=O.map (hdI ls):=by unfold lsO;rw [List.map_map];rfl
theorem BZ (ls:aK) (O:List Int) (i:Nat):lsO ls (qf ls O i)=(lsO ls O).take (jp ls O i)++[ls.getD i []]++(lsO ls O).drop (jp ls O i):=by
 unfold lsO qf
 rw [List.map_append,List.map_append,List.map_take,List.map_drop];rfl
section
variable {N:Nat}
theorem CI {order ls:aK} {l:List Int} {b c:Int} (hne:∀ x∈order,0<x.length) (hl:0<l.length) (hlen:order.length≤1000):∀ k f,k≤order.length→k<f →
  dI N f order l (k:Int) ls b c=some ((mi (order.map fX) (fX l) k:Nat):Int):=by
 intro k
 induction k with
 | zero =>
  intro f _ hf
  obtain ⟨f,rfl⟩:∃ g,f=g+1:=⟨f-1,by omega⟩
  rw [dI,decide_eq_false (by omega),cond_false];rfl
 | succ k ih =>
  intro f hk hf
  obtain ⟨f,rfl⟩:∃ g,f=g+1:=⟨f-1,by omega⟩
  have hk':k<order.length:=by omega
  rw [dI,decide_eq_true (by omega),cond_true,dU (by omega) (by omega),bs,show (((k+1:Nat):Int)-1)=(k:Int) by omega,aR hk',bs,ixH (hne _ (List.getElem_mem hk')),bs,ixH hl,bs,bs,mi]
  have e:(order.map fX).getD k 0=fX order[k]:=by simp [hk']
  rw [e]
  by_cases h:fX l<fX order[k]
  ·rw [decide_eq_true h,cond_true,if_pos h,ih f (by omega) (by omega)]
  ·rw [decide_eq_false h,cond_false,if_neg h]
theorem CB (hN:1073741824≤N) {ls:aK} (hne:∀ x∈ls,0<x.length) (hlen:ls.length≤1000):ci N N [] ls (ls.length:Int) 0=some (lsO ls (cL ls ls.length),(ls.length:Int)) :=
 dJ (fun k (o:aK) i=>ci N k o ls (ls.length:Int) i) ls.length (fun i=>lsO ls (cL ls i)) (lsO ls (cL ls ls.length),(ls.length:Int))
  (fun k i h=>by
   have ho:=mB ls i
   have hol:(lsO ls (cL ls i)).length=i:=by unfold lsO;rw [List.length_map,ho.len]
   have hp:=u9 ls (cL ls i) i
   rw [ho.len] at hp
   have hne':∀ x∈lsO ls (cL ls i),0<x.length:=fun x hx=>by
    obtain ⟨j,hj,rfl⟩:=List.mem_map.1 hx
    have:=ho.bd j hj
    exact hne _ (fo (by omega))
   have e:mi ((lsO ls (cL ls i)).map fX) (fX ls[i]) (lsO ls (cL ls i)).length=jp ls (cL ls i) i:=by
    unfold jp hdI
    rw [Dt,hol,ho.len,show ((i:Nat):Int).toNat=i from rfl,dK h];rfl
   show ci N (k+1) (lsO ls (cL ls i)) ls (ls.length:Int) (i:Int)=ci N k (lsO ls (cL ls (i+1))) ls (ls.length:Int) ((i+1:Nat):Int)
   rw [ci,dlt h,cond_true,aR h,bs,CI hne' (hne _ (List.getElem_mem h)) (by omega) _ N (Nat.le_refl _) (by omega),bs,lpB,e,vc (by omega),bs,iO (by omega) (Nat.le_refl _),bs,List.take_length,bu (by decide) (by simp;omega),bs,bu (by decide) (by simp;omega),bs,bu (by decide) (by simp;omega),bs,ad1 (by omega),bs,q7,BZ,dK h]
   rfl)
  (fun k=>by
   show ci N (k+1) (lsO ls (cL ls ls.length)) ls (ls.length:Int) (ls.length:Int)=_
   rw [ci,dge (by omega),cond_false]) N 0 (by omega) (by omega)
theorem Cc {ls:aK} {O:List Int} {i:Nat} (hi:i<ls.length) (hO:∀ j∈O,0≤j∧j<ls.length) (hne:∀ x∈ls,0<x.length) (hlen:O.length≤1000):∀ k f,k≤O.length→k<f →
  gK N f ls O (i:Int) (k:Int)=some ((mi (O.map (hdI ls)) (hdI ls (i:Int)) k:Nat):Int):=by
 intro k
 induction k with
 | zero =>
  intro f _ hf
  obtain ⟨f,rfl⟩:∃ g,f=g+1:=⟨f-1,by omega⟩
  rw [gK,decide_eq_false (by omega),cond_false];rfl
 | succ k ih =>
  intro f hk hf
  obtain ⟨f,rfl⟩:∃ g,f=g+1:=⟨f-1,by omega⟩
  have hk':k<O.length:=by omega
  have hj:=hO _ (List.getElem_mem hk')
  have hji:O[k].toNat<ls.length:=by omega
  rw [gK,decide_eq_true (by omega),cond_true,dU (by omega) (by omega),bs,show (((k+1:Nat):Int)-1)=(k:Int) by omega,aR hk',bs,ixL hj,bs,ixH (hne _ (fo hji)),bs,ixR hi,bs,ixH (hne _ (fo hi)),bs,bs,mi]
  have e:(O.map (hdI ls)).getD k 0=fX (ls.getD O[k].toNat []):=by simp [hk',hdI]
  rw [e]
  show (bif decide (fX (ls.getD i [])<fX (ls.getD O[k].toNat [])) then _ else _)=some (((if fX (ls.getD i [])<fX (ls.getD O[k].toNat []) then _ else _:Nat)):Int)
  by_cases h:fX (ls.getD i [])<fX (ls.getD O[k].toNat [])
  ·rw [decide_eq_true h,cond_true,if_pos h,ih f (by omega) (by omega)]
  ·rw [decide_eq_false h,cond_false,if_neg h]
theorem xM (hN:1073741824≤N) {ls:aK} (hne:∀ x∈ls,0<x.length) (hlen:ls.length≤1000):j5 N ls=some (cL ls ls.length):=by
 have h:=dJ (fun k (o:List Int) i=>dH N k ls o i) ls.length (fun i=>cL ls i) (cL ls ls.length,(ls.length:Int))
  (fun k i h=>by
   have ho:=mB ls i
   have hp:=u9 ls (cL ls i) i
   rw [ho.len] at hp
   have hlo:=ho.len
   show dH N (k+1) ls (cL ls i) (i:Int)=dH N k ls (cL ls (i+1)) ((i+1:Nat):Int)
   rw [dH,dlt h,cond_true,Cc h (fun j hj=>by have:=ho.bd j hj;omega) hne (by omega) _ N (Nat.le_refl _) (by omega),bs,lpB]
   show (slc (cL ls i) 0 ((jp ls (cL ls i) i:Nat):Int)).bind _=_
   rw [vc (by omega),bs]
   show (slc (cL ls i) ((jp ls (cL ls i) i:Nat):Int) _).bind _=_
   rw [iO (by omega) (Nat.le_refl _),bs,List.take_length,bu (by decide) (by simp;omega),bs,bu (by decide) (by simp;omega),bs,bu (by decide) (by simp;omega),bs,ad1 (by omega),bs,q7]
   rfl)
  (fun k=>by
   show dH N (k+1) ls (cL ls ls.length) (ls.length:Int)=_
   rw [dH,dge (by omega),cond_false]) N 0 (by omega) (by omega)
 have h':dH N N ls [] 0=_:=h
 unfold j5
 rw [h',bs,lpB]
theorem sp (hN:1073741824≤N) {l:List Int} {a:Nat} {v:Int} (ha:a≤l.length) (hl:l.length≤1048576):iD N l (a:Int) v=some ((d7 l a v:Nat):Int):=by
 have key:∀ k i,i≤l.length→l.length-i<k→hX N k l v (i:Int)=some (if d7 l i v<l.length then .inl ((d7 l i v:Nat):Int) else .inr (l.length:Int)):=by
  intro k
  induction k with
  | zero=>intro i _ h;omega
  | succ k ih =>
   intro i h1 h2
   rw [hX]
   by_cases h:i<l.length
   ·rw [dlt h,cond_true,aR h,bs]
    have e:d7 l i v=if l[i]<v then d7 l (i+1) v else i:=by
     unfold d7
     rw [eT h,List.takeWhile_cons]
     by_cases hv:l[i]<v
     ·rw [if_pos (by simpa using hv),if_pos hv,List.length_cons];omega
     ·rw [if_neg (by simpa using hv),if_neg hv];rfl
    by_cases hv:v≤l[i]
    ·have e2:d7 l i v=i:=by rw [e,if_neg (by omega)]
     rw [decide_eq_true hv,cond_true,e2,if_pos h]
    ·have e2:d7 l i v=d7 l (i+1) v:=by rw [e,if_pos (by omega)]
     rw [decide_eq_false hv,cond_false,ad1 (by omega),bs,ih (i+1) (by omega) (by omega),e2]
   ·rw [dge h,cond_false]
    have hi:i=l.length:=by omega
    have e:d7 l i v=l.length:=by unfold d7;rw [List.drop_of_length_le (by omega),hi];rfl
    rw [e,if_neg (by omega),hi]
 unfold iD
 have hm:imx 0 (a:Int)=(a:Int):=by unfold imx;split <;> omega
 rw [hm,key N a ha (by omega),bs]
 have hle:=tm (v:=v) ha
 by_cases h:d7 l a v<l.length
 ·rw [if_pos h,yS]
 ·rw [if_neg h,tq,show d7 l a v=l.length by omega]
theorem sq (hN:1073741824≤N) {l:List Int} {a:Nat} {v:Int} (ha:a≤l.length) (hl:l.length≤1048576):jG N l (a:Int) v=some ((d7 l a v:Nat):Int):=by
 have h:=rN (fun k i=>dT N k l v i) l (fun x=>decide (x<v))
  (fun k i h=>by
   show dT N (k+1) l v (i:Int)=_
   rw [dT,dlt h,cond_true,aR h,bs,ad1 (by omega),bs])
  (fun k=>by
   show dT N (k+1) l v (l.length:Int)=_
   rw [dT,dge (by omega),cond_false]) N a ha (by omega)
 have hm:imx 0 (a:Int)=(a:Int):=by unfold imx;split <;> omega
 have hle:=tm (v:=v) ha
 have h':dT N N l v (a:Int)=some ((d7 l a v:Nat):Int):=h
 unfold jG
 rw [hm,h',bs,lpB]
 congr 1
 unfold imn imx
 (repeat' split) <;> omega
theorem oP (hN:1073741824≤N) {ls:aK} (hl:ls.length≤1048576):gw N ls=some (shT ls ls.length):=by
 have h:=dJ (fun k (s:Int) i=>bY N k s ls (ls.length:Int) i) ls.length (fun i=>shT ls i) (shT ls ls.length,(ls.length:Int))
  (fun k i h=>by
   show bY N (k+1) (shT ls i) ls (ls.length:Int) (i:Int)=bY N k (shT ls (i+1)) ls (ls.length:Int) ((i+1:Nat):Int)
   rw [bY,dlt h,cond_true,aR h,bs,ad1 (by omega),bs,bs,ql]
   unfold shS
   rw [dK h]
   cases i with
   | zero=>rfl
   | succ i =>
    rw [show (((i+1:Nat):Int) == 0)=false by simp;omega,cond_false,show Nat.beq (i+1) 0=false from rfl,Bool.false_or]
    cases decide ((ls[i+1].length:Int)<shT ls (i+1)) <;> rfl)
  (fun k=>by
   show bY N (k+1) (shT ls ls.length) ls (ls.length:Int) (ls.length:Int)=_
   rw [bY,dge (by omega),cond_false]) N 0 (by omega) (by omega)
 have h':bY N N 0 ls (ls.length:Int) 0=_:=h
 unfold gw
 rw [h',bs,lpB]
theorem oM (hN:1073741824≤N) {ls:aK} (hl:ls.length≤1048576):gv N ls=some (shT ls ls.length):=by
 have h:=dJ (fun k (s:Int) i=>bX N k ls s i) ls.length (fun i=>shT ls i) (shT ls ls.length,(ls.length:Int))
  (fun k i h=>by
   show bX N (k+1) ls (shT ls i) (i:Int)=bX N k ls (shT ls (i+1)) ((i+1:Nat):Int)
   rw [bX,dlt h,cond_true,aR h,bs,ad1 (by omega),bs,bs,bs,ql]
   unfold shS
   rw [dK h]
   cases i with
   | zero=>rfl
   | succ i =>
    rw [show (((i+1:Nat):Int) == 0)=false by simp;omega,cond_false,show Nat.beq (i+1) 0=false from rfl,Bool.false_or]
    cases decide ((ls[i+1].length:Int)<shT ls (i+1)) <;> rfl)
  (fun k=>by
   show bX N (k+1) ls (shT ls ls.length) (ls.length:Int)=_
   rw [bX,dge (by omega),cond_false]) N 0 (by omega) (by omega)
 have h':bX N N ls 0 0=_:=h
 unfold gv
 rw [h',bs,lpB]
end
end Go.Proofs.YtnipkopfefkojaaGreat
namespace Go.Proofs.YtnipkopfefkojaaGreat
open Go.RowKit

theorem yD (Ls:aK) (A:List Nat) (most:Int) (out:List Int) (s:Nat):(lkO Ls A most out s).length≤out.length+1:=by
 unfold lkO;split
 ·simp
 ·omega
theorem Aj (A:List Nat):(cz A).length=A.length:=by simp [cz]
theorem nN (a b:Nat):((a:Int) == (b:Int))=decide (a=b):=by
 by_cases h:a=b
 ·rw [decide_eq_true h,h];simp
 ·rw [decide_eq_false h];simp;omega
section
variable {N:Nat}
theorem Ey (hN:1073741824≤N) {Ls:aK} (hb:∀ l∈Ls,l.length≤1000000):∀ (m:Nat) (A:List Nat) (most:Int) (out:List Int) (s k:Nat),LInv Ls A most out s→kW Ls A<m→m≤k→out.length+m≤1073741824→s+m≤1073741824 →
  de N k Ls (cz A) most out ((s+1:Nat):Int)=some ((fV Ls m A most out s).1,((fV Ls m A most out s).2:Int)):=by
 intro m
 induction m with
 | zero=>intro A most out s k _ h;omega
 | succ m ih =>
  intro A most out s k I h hmk h1 h2
  obtain ⟨k,rfl⟩:∃ g,k=g+1:=⟨k-1,by omega⟩
  obtain ⟨hk,ha,hgt,hle,_,hstep⟩:=qO I
  have hkA:s % Ls.length<A.length:=by rw [I.len];exact hk
  have ha':lkP Ls A s<(lkL Ls s).length:=ha
  have hle':lkA Ls A most s≤(lkL Ls s).length:=hle
  have hlb:=hb _ (fo hk)
  have hlb':(lkL Ls s).length≤1000000:=hlb
  have hset:s % Ls.length<(A.set (s % Ls.length) (lkA Ls A most s)).length:=by rw [List.length_set];exact hkA
  have hrec:¬ lkA Ls A most s=(lkL Ls s).length→de N k Ls (cz (A.set (s % Ls.length) (lkA Ls A most s))) ((lkL Ls s).getD (lkA Ls A most s) 0) (lkO Ls A most out s) ((s+1+1:Nat):Int)=some ((fV Ls (m+1) A most out s).1,((fV Ls (m+1) A most out s).2:Int)):=fun hne=>by
   have hr:=px Ls A (s % Ls.length) (lkA Ls A most s) hk I.len (by
    have h4:lkP Ls A s<lkA Ls A most s:=hgt
    show (lkL Ls s).length-lkA Ls A most s<(lkL Ls s).length-lkP Ls A s
    omega)
   have hol:=yD Ls A most out s
   rw [ih _ _ _ (s+1) k (hstep hne) (by omega) (by omega) (by omega) (by omega),fV,if_neg hne]
  have hend:lkA Ls A most s=(lkL Ls s).length→(fV Ls (m+1) A most out s)=(lkO Ls A most out s,s+1):=fun he=>by rw [fV,if_pos he]
  rw [de,dU (by omega) (by omega),bs,show (((s+1:Nat):Int)-1)=(s:Int) by omega,Dd I.pos,bs,ixR hk,bs]
  show ((ix (cz A) ((s % Ls.length:Nat):Int)).bind fun x854=>(ix (lkL Ls s) x854).bind _)=_
  rw [pE hkA,bs]
  show ((ix (lkL Ls s) ((lkP Ls A s:Nat):Int)).bind _)=_
  rw [ixD ha',bs]
  by_cases e:(lkL Ls s).getD (lkP Ls A s) 0=most
  ·have eA:lkA Ls A most s=lkP Ls A s+1:=if_pos e
   have eO:lkO Ls A most out s=out++[most]:=if_pos e
   rw [show ((lkL Ls s).getD (lkP Ls A s) 0 == most)=true by rw [e];simp,cond_true,bu (by decide) (by simp;omega),bs,bs,ad1 (show A.getD (s % Ls.length) 0<1099511627776 by have:lkP Ls A s=A.getD (s % Ls.length) 0:=rfl;omega),bs,bs]
   show ((sto (cz A) ((s % Ls.length:Nat):Int) ((lkP Ls A s+1:Nat):Int)).bind _)=_
   rw [um hkA,bs,← eA,← eO,pE hset,bs,td hkA]
   show (bif (((lkA Ls A most s:Nat):Int) == ((lkL Ls s).length:Int)) then _ else _)=_
   rw [nN]
   by_cases he:lkA Ls A most s=(lkL Ls s).length
   ·rw [decide_eq_true he,cond_true,hend he]
   ·rw [decide_eq_false he,cond_false,bs]
    show ((ix (lkL Ls s) ((lkA Ls A most s:Nat):Int)).bind _)=_
    rw [ixD (show lkA Ls A most s<(lkL Ls s).length by omega),bs,ad1 (by omega),bs]
    exact hrec he
  ·have eA:lkA Ls A most s=d7 (lkL Ls s) (lkP Ls A s) most:=if_neg e
   have eO:lkO Ls A most out s=out:=if_neg e
   rw [show ((lkL Ls s).getD (lkP Ls A s) 0 == most)=false by simpa using e,cond_false,bs]
   show ((iD N (lkL Ls s) ((lkP Ls A s:Nat):Int) most).bind _)=_
   rw [sp hN (by omega) (by omega),bs,bs,← eA]
   show ((sto (cz A) ((s % Ls.length:Nat):Int) ((lkA Ls A most s:Nat):Int)).bind _)=_
   rw [um hkA,bs,pE hset,bs,td hkA]
   show (bif (((lkA Ls A most s:Nat):Int) == ((lkL Ls s).length:Int)) then _ else _)=_
   rw [nN]
   by_cases he:lkA Ls A most s=(lkL Ls s).length
   ·rw [decide_eq_true he,cond_true,hend he,eO]
   ·rw [decide_eq_false he,cond_false,bs]
    show ((ix (lkL Ls s) ((lkA Ls A most s:Nat):Int)).bind _)=_
    rw [ixD (show lkA Ls A most s<(lkL Ls s).length by omega),bs,ad1 (by omega),bs]
    have:=hrec he
    rw [eO] at this
    exact this
def atO (O:List Int) (B:List Nat):List Nat:=O.map fun j=>B.getD j.toNat 0
theorem Dy {O:List Int} {B:List Nat} {k:Nat} (h:k<O.length):(atO O B).getD k 0=B.getD O[k].toNat 0:=by unfold atO;simp [h]
theorem CQ {O:List Int} {B:List Nat} {k a n:Nat} (hn:O.Nodup) (hO:∀ j∈O,0≤j∧j<n) (hB:B.length=n) (h:k<O.length):atO O (B.set O[k].toNat a)=(atO O B).set k a:=by
 unfold atO
 refine List.ext_getElem (by simp) fun i h1 h2=>?_
 rw [List.length_map] at h1
 rw [List.getElem_map,List.getElem_set,List.getElem_map]
 have hj:=hO _ (List.getElem_mem h)
 have hi:=hO _ (List.getElem_mem h1)
 by_cases e:k=i
 ·subst e
  rw [if_pos rfl,td (by omega)]
 ·rw [if_neg e,uS]
  intro e2
  exact e (rH hn h h1 (by omega))
theorem En (hN:1073741824≤N) {ls:aK} {O:List Int} (hO:OrdOk ls O ls.length) (hb:∀ l∈ls,l.length≤1000000):∀ (m:Nat) (B:List Nat) (most:Int) (out:List Int) (s k:Nat),B.length=ls.length→LInv (lsO ls O) (atO O B) most out s→kW (lsO ls O) (atO O B)<m→m≤k→out.length+m≤1073741824→s+m≤1073741824 →
  dc N k ls out O (cz B) ((s % (lsO ls O).length:Nat):Int) most (s:Int)=some ((fV (lsO ls O) m (atO O B) most out s).1,((fV (lsO ls O) m (atO O B) most out s).2:Int)):=by
 have hLO:(lsO ls O).length=O.length:=by unfold lsO;rw [List.length_map]
 intro m
 induction m with
 | zero=>intro B most out s k _ _ h;omega
 | succ m ih =>
  intro B most out s k hB I h hmk h1 h2
  obtain ⟨k,rfl⟩:∃ g,k=g+1:=⟨k-1,by omega⟩
  obtain ⟨hk,ha,hgt,hle,_,hstep⟩:=qO I
  have hkO:s % (lsO ls O).length<O.length:=by rw [← hLO];exact hk
  have hj:=hO.bd _ (List.getElem_mem hkO)
  have hjB:O[s % (lsO ls O).length].toNat<B.length:=by omega
  have hjl:O[s % (lsO ls O).length].toNat<ls.length:=by omega
  have ej:(O[s % (lsO ls O).length]:Int)=((O[s % (lsO ls O).length].toNat:Nat):Int):=by omega
  have eL:ls.getD O[s % (lsO ls O).length].toNat []=lkL (lsO ls O) s:=(tI hkO).symm
  have eP:B.getD O[s % (lsO ls O).length].toNat 0=lkP (lsO ls O) (atO O B) s:=(Dy hkO).symm
  have hkA:s % (lsO ls O).length<(atO O B).length:=by rw [I.len];exact hk
  have ha':lkP (lsO ls O) (atO O B) s<(lkL (lsO ls O) s).length:=ha
  have hle':lkA (lsO ls O) (atO O B) most s≤(lkL (lsO ls O) s).length:=hle
  have hlb':(lkL (lsO ls O) s).length≤1000000:=by rw [← eL];exact hb _ (fo hjl)
  have hset:O[s % (lsO ls O).length].toNat<(B.set O[s % (lsO ls O).length].toNat (lkA (lsO ls O) (atO O B) most s)).length:=by rw [List.length_set];exact hjB
  have eset:=CQ (a:=lkA (lsO ls O) (atO O B) most s) hO.nd hO.bd hB hkO
  have hmod:((s % (lsO ls O).length+1:Nat):Int).tmod (O.length:Int)=((s+1) % (lsO ls O).length:Nat):=by
   rw [← hLO,← Int.ofNat_tmod]
   congr 1
   rw [Nat.add_mod s 1]
   simp
  have hrec:¬ lkA (lsO ls O) (atO O B) most s=(lkL (lsO ls O) s).length→dc N k ls (lkO (lsO ls O) (atO O B) most out s) O (cz (B.set O[s % (lsO ls O).length].toNat (lkA (lsO ls O) (atO O B) most s))) (((s+1) % (lsO ls O).length:Nat):Int) ((lkL (lsO ls O) s).getD (lkA (lsO ls O) (atO O B) most s) 0) ((s+1:Nat):Int)=some ((fV (lsO ls O) (m+1) (atO O B) most out s).1,((fV (lsO ls O) (m+1) (atO O B) most out s).2:Int)):=fun hne=>by
   have hr:=px (lsO ls O) (atO O B) (s % (lsO ls O).length) (lkA (lsO ls O) (atO O B) most s) hk I.len (by
    have h4:lkP (lsO ls O) (atO O B) s<lkA (lsO ls O) (atO O B) most s:=hgt
    show (lkL (lsO ls O) s).length-lkA (lsO ls O) (atO O B) most s<(lkL (lsO ls O) s).length-lkP (lsO ls O) (atO O B) s
    omega)
   have hol:=yD (lsO ls O) (atO O B) most out s
   have hI:=hstep hne
   rw [ih (B.set O[s % (lsO ls O).length].toNat (lkA (lsO ls O) (atO O B) most s)) _ _ (s+1) k (by rw [List.length_set];exact hB) (by rw [eset];exact hI) (by rw [eset];omega) (by omega) (by omega) (by omega),eset,fV,if_neg hne]
  have hend:lkA (lsO ls O) (atO O B) most s=(lkL (lsO ls O) s).length→(fV (lsO ls O) (m+1) (atO O B) most out s)=(lkO (lsO ls O) (atO O B) most out s,s+1):=fun he=>by rw [fV,if_pos he]
  have hOp:0<O.length:=by omega
  have hms:s % (lsO ls O).length≤s:=Nat.mod_le _ _
  rw [dc,aR hkO,bs,ej,ixR hjl,bs,pE hjB,bs,eL,eP,ixD ha',bs,ad1 (by omega),bs]
  by_cases e:(lkL (lsO ls O) s).getD (lkP (lsO ls O) (atO O B) s) 0=most
  ·have eA:lkA (lsO ls O) (atO O B) most s=lkP (lsO ls O) (atO O B) s+1:=if_pos e
   have eO:lkO (lsO ls O) (atO O B) most out s=out++[most]:=if_pos e
   rw [e,show (most == most)=true by simp,cond_true,bu (by decide) (by simp;omega),bs,bs,ad1 (by omega),bs,bs,um hjB,bs,← eA,← eO,pE hset,bs,td hjB,bs,nN]
   by_cases he:lkA (lsO ls O) (atO O B) most s=(lkL (lsO ls O) s).length
   ·rw [decide_eq_true he,cond_true,hend he]
   ·rw [decide_eq_false he,cond_false,bs,bs,ixD (show lkA (lsO ls O) (atO O B) most s<(lkL (lsO ls O) s).length by omega),bs,ad1 (by omega),bs,rT (by omega),bs,hmod]
    exact hrec he
  ·have eA:lkA (lsO ls O) (atO O B) most s=d7 (lkL (lsO ls O) s) (lkP (lsO ls O) (atO O B) s) most:=if_neg e
   have eO:lkO (lsO ls O) (atO O B) most out s=out:=if_neg e
   rw [show ((lkL (lsO ls O) s).getD (lkP (lsO ls O) (atO O B) s) 0 == most)=false by simpa using e,cond_false,bs,bs,sq hN (by omega) (by omega),bs,bs,← eA,um hjB,bs,pE hset,bs,td hjB,bs,nN]
   by_cases he:lkA (lsO ls O) (atO O B) most s=(lkL (lsO ls O) s).length
   ·rw [decide_eq_true he,cond_true,hend he,eO]
   ·rw [decide_eq_false he,cond_false,bs,bs,ixD (show lkA (lsO ls O) (atO O B) most s<(lkL (lsO ls O) s).length by omega),bs,ad1 (by omega),bs,rT (by omega),bs,hmod]
    have:=hrec he
    rw [eO] at this
    exact this
theorem wv (n:Nat):List.replicate n (0:Int)=cz (eS n):=by unfold cz eS;rw [List.map_replicate];rfl
theorem qP {O:List Int} {n:Nat} (h:O.length=n):atO O (eS n)=eS n:=by
 unfold atO eS
 refine List.ext_getElem (by simp [h]) fun i h1 h2=>?_
 rw [List.getElem_map,List.getElem_replicate]
 exact sW n _
theorem nI (hN:1073741824≤N) {ls:aK} (hl:ls.length≤1000) (hb:∀ l∈ls,l.length≤1000000):fI N ls=some (ki ls):=by
 have hok:dM ls:=⟨by omega,fun l h=>⟨by have:=hb l h;omega,fun _ _=>trivial⟩⟩
 unfold fI ki
 rw [sB hN hok,bs]
 cases h1:gt ls with
 | false=>rfl
 | true =>
  rw [cond_true,oP hN (by omega),bs,Bool.true_and]
  cases h2:(shT ls ls.length == 0) with
  | true=>rfl
  | false =>
   obtain ⟨I,hne⟩:=pO (ls:=ls) (by rw [h1,h2];rfl)
   have hpos:=I.pos
   have hlen:=rV ls
   have hrem:=ot (lsO ls (cL ls ls.length)) 1000000 ls.length fun l hl=>hb l (jL.1 hl)
   rw [hlen] at hrem
   have hmul:=Nat.mul_le_mul_right 1000000 hl
   have h1p:0<((lsO ls (cL ls ls.length)).getD (ls.length-1) []).length:=hne _ (jL.1 (fo (by omega)))
   rw [cond_false,Bool.not_false,cond_true,CB hN hne hl,bs,lpB]
   show ((mk 8 (0:Int) ((lsO ls (cL ls ls.length)).length:Int)).bind _)=_
   rw [hlen,pP (by decide) (by omega),bs,wv,dU (by omega) (by omega),bs,show ((ls.length:Int)-1)=((ls.length-1:Nat):Int) by omega,ixR (by omega),bs,ixH h1p,bs]
   have:=Ey hN (Ls:=lsO ls (cL ls ls.length)) (fun l h=>hb l (jL.1 h)) (kW (lsO ls (cL ls ls.length)) (eS ls.length)+1) (eS ls.length) _ [] 0 N I (by omega) (by omega) (by simp;omega) (by omega)
   exact this
theorem nJ (hN:1073741824≤N) {ls:aK} (hl:ls.length≤1000) (hb:∀ l∈ls,l.length≤1000000):ek N ls=some (ki ls):=by
 have hok:dM ls:=⟨by omega,fun l h=>⟨by have:=hb l h;omega,fun _ _=>trivial⟩⟩
 unfold ek ki
 rw [A1 hN hok,bs]
 cases h1:gt ls with
 | false=>rfl
 | true =>
  rw [cond_true,oM hN (by omega),bs,Bool.true_and]
  cases h2:(shT ls ls.length == 0) with
  | true=>rfl
  | false =>
   obtain ⟨I,hne⟩:=pO (ls:=ls) (by rw [h1,h2];rfl)
   have hpos:=I.pos
   have hlen:=rV ls
   have ho:=mB ls ls.length
   have hol:=ho.len
   have hrem:=ot (lsO ls (cL ls ls.length)) 1000000 ls.length fun l hl=>hb l (jL.1 hl)
   rw [hlen] at hrem
   have hmul:=Nat.mul_le_mul_right 1000000 hl
   have hlast:ls.length-1<(cL ls ls.length).length:=by omega
   have hj:=ho.bd _ (List.getElem_mem hlast)
   have eL:ls.getD (cL ls ls.length)[ls.length-1].toNat []=(lsO ls (cL ls ls.length)).getD (ls.length-1) []:=(tI hlast).symm
   have h1p:0<((lsO ls (cL ls ls.length)).getD (ls.length-1) []).length:=hne _ (jL.1 (fo (by omega)))
   rw [cond_false,Bool.not_false,cond_true,xM hN hne hl,bs,pP (by decide) (by omega),bs,wv,hol,dU (by omega) (by omega),bs,show ((ls.length:Int)-1)=((ls.length-1:Nat):Int) by omega,aR hlast,bs,ixL hj,bs,eL,ixH h1p,bs]
   have hI:LInv (lsO ls (cL ls ls.length)) (atO (cL ls ls.length) (eS ls.length)) (fX ((lsO ls (cL ls ls.length)).getD (ls.length-1) [])) [] 0:=by rw [qP hol];exact I
   have:=En hN ho hb (kW (lsO ls (cL ls ls.length)) (eS ls.length)+1) (eS ls.length) _ [] 0 N (by simp [eS]) hI (by rw [qP hol];omega) (by omega) (by simp;omega) (by omega)
   rw [qP hol,Nat.zero_mod] at this
   exact this
end
end Go.Proofs.YtnipkopfefkojaaGreat
namespace Go.Proofs.YtnipkopfefkojaaGreat
open Go.RowKit

theorem Cm {A:List Nat} {k:Nat} (h:k<A.length):A.getD k 0=A[k]:=by simp [h]
def fi (atoms:List aY) (i:Nat):aY:=atoms.getD i (ByteArray.empty,[])
theorem fQ {atoms:List aY} {i:Nat} (h:i<atoms.length):fi atoms i=atoms[i]:=by unfold fi;simp [h]
def kt (atoms:List aY) (v:Int) (n:Nat):List Nat:=(List.range' 0 n).filter fun i=>decide (v∈(fi atoms i).2)
def jz (atoms:List aY) (v:Int):List Nat:=kt atoms v atoms.length
def fL (vs order p:List Int) (n:Nat):List Int:=((List.range' 0 n).filter fun k=>decide (order.getD k 0∈vs)).map fun k=>p.getD k 0
def kX (vs order p:List Int):List Int:=fL vs order p p.length
def atV (ts:List be) (order:List Int) (atoms:List aY) (p:List Int) (i:Nat):List Int :=
 kQ (iq ts order (fi atoms i)).1 (iq ts order (fi atoms i)).2 (kX (fi atoms i).2 order p)
def eJ (ts:List be) (order:List Int) (atoms:List aY) (p:List Int):aK:=(jz atoms (order.getD p.length 0)).map (atV ts order atoms p)
theorem vF (atoms:List aY) (v:Int) (n:Nat):kt atoms v (n+1)=bif decide (v∈(fi atoms n).2) then kt atoms v n++[n] else kt atoms v n:=by
 unfold kt
 rw [List.range'_concat,List.filter_append]
 simp only [Nat.zero_add,Nat.one_mul,List.filter_cons,List.filter_nil]
 cases decide (v∈(fi atoms n).2) <;> simp
theorem pv (atoms:List aY) (v:Int) (n:Nat):(kt atoms v n).length≤n:=by
 unfold kt
 refine Nat.le_trans (List.length_filter_le _ _) ?_
 simp
theorem lB {atoms:List aY} {v:Int} {i:Nat}:i∈jz atoms v↔i<atoms.length∧v∈(fi atoms i).2:=by
 unfold jz kt
 rw [List.mem_filter,decide_eq_true_eq]
 simp
theorem jN (vs order p:List Int) (n:Nat):fL vs order p (n+1)=bif decide (order.getD n 0∈vs) then fL vs order p n++[p.getD n 0] else fL vs order p n:=by
 unfold fL
 rw [List.range'_concat,List.filter_append,List.map_append]
 simp only [Nat.zero_add,Nat.one_mul,List.filter_cons,List.filter_nil]
 cases decide (order.getD n 0∈vs) <;> simp
theorem w5 (vs order p:List Int) (n:Nat):(fL vs order p n).length≤n:=by
 unfold fL
 rw [List.length_map]
 refine Nat.le_trans (List.length_filter_le _ _) ?_
 simp
theorem vy {ts:List be} {order:List Int} {atoms:List aY} {i:Nat} (h:i<atoms.length):ix (bB ts order atoms) (i:Int)=some (iq ts order (fi atoms i)):=by
 rw [aR (by rw [lX];exact h)]
 unfold bB
 rw [List.getElem_map,fQ h]
theorem sU {atoms:List aY} {i:Nat} (h:i<atoms.length):fi atoms i∈atoms:=by rw [fQ h];exact List.getElem_mem h
theorem vD {atoms:List aY} (ha:cW atoms) {i:Nat} (h:i<atoms.length):okI (fi atoms i).2:=by rw [fQ h];exact lx ha h
theorem xx {atoms:List aY} {i:Nat} (h:i<atoms.length):ix atoms (i:Int)=some (fi atoms i):=by rw [aR h,fQ h]
theorem nC (ts:List be) (order:List Int) (atoms:List aY) (p:List Int):(eJ ts order atoms p).length≤atoms.length:=by
 unfold eJ;rw [List.length_map];exact pv _ _ _
theorem gR {ts:List be} {n:Nat} {atoms:List aY} {order p:List Int} (q:QFor ts n atoms order):∀ l∈eJ ts order atoms p,l.length≤16∧fH l∧∀ v∈l,0≤v∧v≤99:=by
 intro l hl
 obtain ⟨i,hi,rfl⟩:=List.mem_map.1 hl
 have hm:=sU (lB.1 hi).1
 obtain ⟨_,_,g3,g4,_⟩:=mF q hm
 unfold atV
 exact ⟨Nat.le_trans (vA _ _ _) g4,Ai g3,yZ g3⟩
theorem tz {ts:List be} {n:Nat} {atoms:List aY} {order p:List Int} (q:QFor ts n atoms order) (hp:p.length<n):gt (eJ ts order atoms p)=true:=by
 unfold gt
 rw [Bool.and_eq_true,List.all_eq_true,decide_eq_true_eq]
 refine ⟨fun l hl=>s6 (gR q l hl).2.1,?_⟩
 have ho:=(ir q.os).2 (order.getD p.length 0) (by rw [bk (by rw [q.ol];exact hp)];exact List.getElem_mem _)
 obtain ⟨a,ha,hv⟩:=q.cov (order.getD p.length 0) (by omega) (by omega)
 obtain ⟨i,hi,rfl⟩:=List.getElem_of_mem ha
 unfold eJ
 rw [List.length_map]
 exact List.length_pos_of_mem (lB.2 ⟨hi,by rw [fQ hi];exact hv⟩)
section
variable {N:Nat}
theorem C1 (hN:1073741824≤N) {t1:List oD} {order p vs:List Int} {s:ByteArray} {b1:aK} {b2 b5 b6:Int} {b4:List aY} (hv:okI vs) (hp:p.length≤1000) (ho:p.length≤order.length) :
  c3 N N t1 order p b1 b2 s vs [] b4 b5 b6 p (p.length:Int) 0=some (kX vs order p,(p.length:Int)) :=
 dJ (fun k (o:List Int) i=>c3 N k t1 order p b1 b2 s vs o b4 b5 b6 p (p.length:Int) i) p.length (fL vs order p) (kX vs order p,(p.length:Int))
  (fun k i h=>by
   have hl:=w5 vs order p i
   show c3 N (k+1) t1 order p b1 b2 s vs (fL vs order p i) b4 b5 b6 p (p.length:Int) (i:Int)=c3 N k t1 order p b1 b2 s vs (fL vs order p (i+1)) b4 b5 b6 p (p.length:Int) ((i+1:Nat):Int)
   rw [c3,dlt h,cond_true,ixD h,bs,ixD (show i<order.length by omega),bs,iH hN hv,bs,ad1 (by omega),jN]
   cases decide (order.getD i 0∈vs) with
   | true=>rw [cond_true,cond_true,bu (by decide) (by simp;omega),bs,bs]
   | false=>rw [cond_false,cond_false,bs])
  (fun k=>by
   show c3 N (k+1) t1 order p b1 b2 s vs (fL vs order p p.length) b4 b5 b6 p (p.length:Int) (p.length:Int)=_
   rw [c3,dge (by omega),cond_false];rfl) N 0 (by omega) (by omega)
theorem wH (hN:1073741824≤N) {ts:List be} {n:Nat} {m:Int} {atoms:List aY} {out order p:List Int} (q:QFor ts n atoms order) (ha:cW atoms) (hp:p.length<n) :
  jw N m atoms out (bB ts order atoms) order p=some (eJ ts order atoms p):=by
 have hn5:=q.n5
 have hol:=q.ol
 have h4:=q.a4
 have h:=dJ (fun k (o:aK) i=>cZ N k (bB ts order atoms) order p o atoms (atoms.length:Int) i) atoms.length (fun i=>(kt atoms (order.getD p.length 0) i).map (atV ts order atoms p)) (eJ ts order atoms p,(atoms.length:Int))
  (fun k i h=>by
   have hl:=pv atoms (order.getD p.length 0) i
   have hm:=List.getElem_mem h
   obtain ⟨_,_,g3,_,_⟩:=mF q (sU h)
   show cZ N (k+1) (bB ts order atoms) order p ((kt atoms (order.getD p.length 0) i).map (atV ts order atoms p)) atoms (atoms.length:Int) (i:Int)=cZ N k (bB ts order atoms) order p ((kt atoms (order.getD p.length 0) (i+1)).map (atV ts order atoms p)) atoms (atoms.length:Int) ((i+1:Nat):Int)
   rw [cZ,dlt h,cond_true,xx h,bs,ixD (show p.length<order.length by omega),bs,iH hN (vD ha h),bs,ad1 (by omega),vF]
   cases decide (order.getD p.length 0∈(fi atoms i).2) with
   | true =>
    rw [cond_true,cond_true,C1 hN (vD ha h) (by omega) (by omega),bs,lpB]
    show ((ix (bB ts order atoms) (i:Int)).bind _)=_
    rw [vy h,bs,pw hN g3,bs,bu (by decide) (by rw [List.length_map,List.length_singleton];omega),bs,bs,List.map_append];rfl
   | false=>rw [cond_false,cond_false,bs])
  (fun k=>by
   show cZ N (k+1) (bB ts order atoms) order p ((kt atoms (order.getD p.length 0) atoms.length).map (atV ts order atoms p)) atoms (atoms.length:Int) (atoms.length:Int)=_
   rw [cZ,dge (by omega),cond_false];rfl) N 0 (by omega) (by omega)
 have h':cZ N N (bB ts order atoms) order p [] atoms (atoms.length:Int) 0=_:=h
 unfold jw
 rw [h',bs,lpB]
theorem pF (hN:1073741824≤N) {n:Int} {atoms:List aY} {out:List Int} {v:Int} (ha:cW atoms) (ho:okI out) (hq:eM n atoms out=true) :
  fD N n atoms out v=some (cz (jz atoms v)):=by
 have h4:=(oE hq).2.2.2
 have h:=dJ (fun k (o:List Int) i=>bT N k v n atoms out o i) atoms.length (fun i=>cz (kt atoms v i)) (cz (jz atoms v),(atoms.length:Int))
  (fun k i h=>by
   have hl:=pv atoms v i
   have hcl:=Aj (kt atoms v i)
   show bT N (k+1) v n atoms out (cz (kt atoms v i)) (i:Int)=bT N k v n atoms out (cz (kt atoms v (i+1))) ((i+1:Nat):Int)
   rw [bT,dlt h,cond_true,ip hN ha ho,bs,hq,cond_true,aR h,bs,gc hN (lx ha h),bs,ad1 (by omega),vF,fQ h]
   cases decide (v∈atoms[i].2) with
   | true =>
    rw [cond_true,cond_true,bu (by decide) (by simp;omega),bs,bs]
    unfold cz
    rw [List.map_append];rfl
   | false=>rw [cond_false,cond_false,bs])
  (fun k=>by
   show bT N (k+1) v n atoms out (cz (kt atoms v atoms.length)) (atoms.length:Int)=_
   rw [bT,dge (by omega),cond_false];rfl) N 0 (by omega) (by omega)
 have h':bT N N v n atoms out [] 0=_:=h
 unfold fD
 rw [h',bs,lpB]
theorem wk (hN:1073741824≤N) {order p vs:List Int} {s:ByteArray} (hv:okI vs) (hp:p.length≤1000) (ho:p.length≤order.length):iC N s vs order p=some (kX vs order p):=by
 have h:=dJ (fun k (o:List Int) i=>c4 N k order p s vs o i) p.length (fL vs order p) (kX vs order p,(p.length:Int))
  (fun k i h=>by
   have hl:=w5 vs order p i
   show c4 N (k+1) order p s vs (fL vs order p i) (i:Int)=c4 N k order p s vs (fL vs order p (i+1)) ((i+1:Nat):Int)
   rw [c4,dlt h,cond_true,ixD (show i<order.length by omega),bs,gc hN hv,bs,ad1 (by omega),ixD h,jN]
   cases decide (order.getD i 0∈vs) with
   | true=>rw [cond_true,cond_true,bs,bu (by decide) (by simp;omega),bs,bs]
   | false=>rw [cond_false,cond_false,bs])
  (fun k=>by
   show c4 N (k+1) order p s vs (fL vs order p p.length) (p.length:Int)=_
   rw [c4,dge (by omega),cond_false];rfl) N 0 (by omega) (by omega)
 have h':c4 N N order p s vs [] 0=_:=h
 unfold iC
 rw [h',bs,lpB]
theorem Ef (hN:1073741824≤N) {ts:List be} {n:Nat} {atoms:List aY} {order p:List Int} (q:QFor ts n atoms order) (ha:cW atoms) (hp:p.length<n) {i:Nat} (h:i<atoms.length) :
  iC N (fi atoms i).1 (fi atoms i).2 order p=some (kX (fi atoms i).2 order p)∧gi N (iq ts order (fi atoms i)).1 (iq ts order (fi atoms i)).2 (kX (fi atoms i).2 order p)=some (atV ts order atoms p i):=by
 have hn5:=q.n5
 have hol:=q.ol
 obtain ⟨_,_,g3,_,_⟩:=mF q (sU h)
 refine ⟨wk hN ?_ (by omega) (by omega),pA hN g3⟩
 rw [fQ h];exact lx ha h
theorem pQ {α β:Type} {xs:List α} {f:α→β} {i:Nat} (h:i<xs.length):(xs.take (i+1)).map f=(xs.take i).map f++[f xs[i]]:=by
 rw [List.take_succ_eq_append_getElem h,List.map_append];rfl
theorem zu (hN:1073741824≤N) {ts:List be} {n:Nat} {atoms:List aY} {out order p:List Int} (q:QFor ts n atoms order) (ha:cW atoms) (ho:okI out) (hq:eM (n:Int) atoms out=true) (hp:p.length<n) :
  kx N (bB ts order atoms) (n:Int) atoms out order p=some (ki (eJ ts order atoms p)):=by
 have hol:=q.ol
 have h4:=q.a4
 have hil:=pv atoms (order.getD p.length 0) atoms.length
 have hcl:=Aj (jz atoms (order.getD p.length 0))
 have hil':(jz atoms (order.getD p.length 0)).length≤atoms.length:=hil
 have h:=dJ (fun k (o:aK) i=>d6 N k (bB ts order atoms) order p (n:Int) atoms out (cz (jz atoms (order.getD p.length 0))) o i) (jz atoms (order.getD p.length 0)).length (fun i=>((jz atoms (order.getD p.length 0)).take i).map (atV ts order atoms p)) (eJ ts order atoms p,((jz atoms (order.getD p.length 0)).length:Int))
  (fun k i h=>by
   have hc:=pE h
   rw [Cm h] at hc
   have hi:=(lB.1 (List.getElem_mem h)).1
   obtain ⟨o1,o2⟩:=Ef hN q ha hp hi
   show d6 N (k+1) (bB ts order atoms) order p (n:Int) atoms out (cz (jz atoms (order.getD p.length 0))) (((jz atoms (order.getD p.length 0)).take i).map (atV ts order atoms p)) (i:Int)=d6 N k (bB ts order atoms) order p (n:Int) atoms out (cz (jz atoms (order.getD p.length 0))) (((jz atoms (order.getD p.length 0)).take (i+1)).map (atV ts order atoms p)) ((i+1:Nat):Int)
   rw [d6,hcl,dlt h,cond_true,hc,bs,vy hi,bs,bs,xx hi,bs,o1,bs,o2,bs,bu (by decide) (by rw [List.length_map,List.length_take,List.length_singleton];omega),bs,ad1 (by omega),bs,pQ h])
  (fun k=>by
   show d6 N (k+1) (bB ts order atoms) order p (n:Int) atoms out (cz (jz atoms (order.getD p.length 0))) (((jz atoms (order.getD p.length 0)).take (jz atoms (order.getD p.length 0)).length).map (atV ts order atoms p)) ((jz atoms (order.getD p.length 0)).length:Int)=_
   rw [d6,hcl,dge (by omega),cond_false,List.take_length];rfl) N 0 (by omega) (by omega)
 have h':d6 N N (bB ts order atoms) order p (n:Int) atoms out (cz (jz atoms (order.getD p.length 0))) [] 0=_:=h
 have hll:=nC ts order atoms p
 unfold kx
 rw [ixD (show p.length<order.length by omega),bs,pF hN ha ho hq,bs,h',bs,lpB]
 show ((ek N (eJ ts order atoms p)).bind _)=_
 rw [nJ hN (by omega) (fun l hl=>by have:=(gR q l hl).1;omega),bs]
end
end Go.Proofs.YtnipkopfefkojaaGreat
namespace Go.Proofs.YtnipkopfefkojaaGreat
open Go.RowKit

def ua (ls:aK) (sh v:Int) (i:Nat):Bool:=((i:Int) == sh)||decide (v∈ls.getD i [])
theorem Ch (ls:aK) (sh v:Int):∀ m j c,(inF ls sh v j m (c,true)).2=(List.range' j m).all (ua ls sh v):=by
 intro m
 induction m with
 | zero=>intro j c;rfl
 | succ m ih =>
  intro j c
  rw [sZ,List.range'_succ,List.all_cons]
  unfold s5 ua
  by_cases e:(j:Int)=sh
  ·rw [show ((j:Int) != sh)=false by simpa using e,show ((j:Int) == sh)=true by simpa using e,Bool.and_false,cond_false,Bool.true_or,Bool.true_and]
   exact ih (j+1) c
  ·rw [show ((j:Int) != sh)=true by simpa using e,show ((j:Int) == sh)=false by simpa using e,Bool.and_true,cond_true,Bool.false_or]
   cases decide (v∈ls.getD j []) with
   | true=>rw [Bool.true_and];exact ih (j+1) (c+1)
   | false=>rw [Ax];rfl
def rk (ls:aK) (sh v:Int):Bool:=(List.range' 0 ls.length).all (ua ls sh v)
theorem Co {ls:aK} {sh:Int} {vs:List Int}:∀ i,i≤vs.length →
  ((List.range' 0 i).foldl (fun s i=>se ls sh vs i s) ([],0)).1=(vs.take i).filter (rk ls sh)∧0≤((List.range' 0 i).foldl (fun s i=>se ls sh vs i s) ([],0)).2∧((List.range' 0 i).foldl (fun s i=>se ls sh vs i s) ([],0)).2≤((i*ls.length:Nat):Int):=by
 intro i
 induction i with
 | zero=>intro _;exact ⟨rfl,Int.le_refl _,by simp⟩
 | succ i ih =>
  intro hi
  obtain ⟨h1,h2,h3⟩:=ih (by omega)
  rw [List.range'_concat,List.foldl_append]
  simp only [Nat.zero_add,Nat.one_mul,List.foldl_cons,List.foldl_nil]
  generalize (List.range' 0 i).foldl (fun s i=>se ls sh vs i s) ([],0)=s at h1 h2 h3 ⊢
  have hb:=C5 ls sh (vs.getD i 0) ls.length 0 (s.2,true)
  have ha:=Ch ls sh (vs.getD i 0) ls.length 0 s.2
  unfold se
  simp only []
  rw [List.take_succ_eq_append_getElem (by omega),List.filter_append,ha,h1,bk (by omega)]
  rw [bk (by omega)] at hb
  have hm:(((i+1)*ls.length:Nat):Int)=((i*ls.length:Nat):Int)+(ls.length:Int):=by rw [Nat.succ_mul];omega
  simp only [] at hb
  refine ⟨?_,by omega,by rw [hm];omega⟩
  show (bif rk ls sh vs[i] then _ else _)=_
  cases hc:rk ls sh vs[i] <;> simp [hc]
theorem oS {ls:aK} {B:Nat} (hB:∀ l∈ls,l.length≤B):fH (me ls).1∧(∀ x∈(me ls).1,∀ l∈ls,x∈l)∧0≤(me ls).2∧(me ls).2≤((B*ls.length:Nat):Int)∧(gt ls=true→∀ x,(∀ l∈ls,x∈l)→x∈(me ls).1):=by
 unfold me
 cases ha:gt ls with
 | false=>exact ⟨List.Pairwise.nil,by simp,Int.le_refl _,by simp only [cond_false];omega,fun h=>by cases h⟩
 | true =>
  unfold gt at ha
  rw [Bool.and_eq_true,List.all_eq_true,decide_eq_true_eq] at ha
  have hin:=A3 ha.2
  have hs:(kz ls).toNat<ls.length:=by omega
  have hvm:=fo hs
  obtain ⟨h1,h2,h3⟩:=Co (ls:=ls) (sh:=kz ls) (vs:=ls.getD (kz ls).toNat []) (ls.getD (kz ls).toNat []).length (Nat.le_refl _)
  rw [List.take_length] at h1
  rw [cond_true,h1]
  have hl:=hB _ hvm
  have hmul:=Nat.mul_le_mul_right ls.length hl
  refine ⟨List.Pairwise.filter _ (pX (ha.1 _ hvm)),fun x hx l hl=>?_,h2,by omega,fun _ x hx=>?_⟩
  ·rw [List.mem_filter] at hx
   obtain ⟨i,hi,rfl⟩:=List.getElem_of_mem hl
   have h4:=hx.2
   unfold rk at h4
   rw [List.all_eq_true] at h4
   have h5:=h4 i (by simp;omega)
   unfold ua at h5
   rw [Bool.or_eq_true,beq_iff_eq,decide_eq_true_eq] at h5
   rcases h5 with h5 | h5
   ·have:(kz ls).toNat=i:=by omega
    rw [this,dK hi] at hx;exact hx.1
   ·rwa [dK hi] at h5
  ·rw [List.mem_filter]
   refine ⟨hx _ hvm,?_⟩
   unfold rk
   rw [List.all_eq_true]
   intro i hi
   have hi':i<ls.length:=by simp at hi;omega
   unfold ua
   rw [decide_eq_true (hx _ (fo hi')),Bool.or_true]
def bb (ts:List be) (order:List Int) (atoms:List aY):Nxt:=fun p=>ki (eJ ts order atoms p)
def uA (ts:List be) (order:List Int) (atoms:List aY):Nxt:=fun p=>me (eJ ts order atoms p)
theorem zd {xs:List Int} (h:fH xs):xs.Nodup:=List.Pairwise.imp (fun {a b} (hab:a<b) (e:a=b)=>by omega) h
theorem vG {ls:aK} {xs:List Int} (h:∀ l∈ls,l.length≤16∧fH l∧∀ v∈l,0≤v∧v≤99) (ha:fH xs) (hx:∀ x∈xs,∀ l∈ls,x∈l) (he:ls=[]→xs=[]):xs.length≤16∧∀ v∈xs,0≤v∧v≤99:=by
 cases ls with
 | nil=>rw [he rfl];simp
 | cons l ls =>
  obtain ⟨h1,_,h3⟩:=h l List.mem_cons_self
  refine ⟨Nat.le_trans (tY xs l (zd ha) fun x hx'=>hx x hx' l List.mem_cons_self) h1,fun v hv=>h3 v (hx v hv l List.mem_cons_self)⟩
theorem Aq:(ki []).1=[]:=rfl
theorem y8:(me []).1=[]:=rfl
theorem jn {ts:List be} {n:Nat} {atoms:List aY} {order:List Int} (q:QFor ts n atoms order):NxtOk (bb ts order atoms):=by
 have h4:=q.a4
 have key:=fun p=>pV (ls:=eJ ts order atoms p) (B:=16) fun l hl=>(gR q l hl).1
 have com:=fun p=>vG (fun l hl=>gR q (p:=p) l hl) (key p).1 (key p).2.1 fun e=>by rw [e];exact Aq
 have hll:=fun p=>nC ts order atoms p
 refine ⟨fun p=>(com p).1,fun p=>(key p).1,fun p=>(com p).2,fun p=>(key p).2.2.1,fun p=>?_⟩
 have h1:=(key p).2.2.2.1
 have h2:=hll p
 show (ki (eJ ts order atoms p)).2≤1000
 omega
theorem A8 {ts:List be} {n:Nat} {atoms:List aY} {order:List Int} (q:QFor ts n atoms order):NxtOk (uA ts order atoms):=by
 have h4:=q.a4
 have key:=fun p=>oS (ls:=eJ ts order atoms p) (B:=16) fun l hl=>(gR q l hl).1
 have com:=fun p=>vG (fun l hl=>gR q (p:=p) l hl) (key p).1 (key p).2.1 fun e=>by rw [e];exact y8
 have hll:=fun p=>nC ts order atoms p
 refine ⟨fun p=>(com p).1,fun p=>(key p).1,fun p=>(com p).2,fun p=>(key p).2.2.1,fun p=>?_⟩
 have h1:=(key p).2.2.2.1
 have h2:=hll p
 show (me (eJ ts order atoms p)).2≤1000
 omega
theorem Ep {ts:List be} {n:Nat} {atoms:List aY} {order p:List Int} (q:QFor ts n atoms order) (hp:p.length<n):∀ x,x∈(bb ts order atoms p).1↔x∈(uA ts order atoms p).1:=by
 have ha:=tz q hp
 have k1:=pV (ls:=eJ ts order atoms p) (B:=16) fun l hl=>(gR q l hl).1
 have k2:=oS (ls:=eJ ts order atoms p) (B:=16) fun l hl=>(gR q l hl).1
 exact fun x=>⟨fun h=>k2.2.2.2.2 ha x (k1.2.1 x h),fun h=>k1.2.2.2.2 ha x (k2.2.1 x h)⟩
end Go.Proofs.YtnipkopfefkojaaGreat
namespace Go.Proofs.YtnipkopfefkojaaGreat
open Go.RowKit

theorem sL {α β:Type} {xs:List α} {g:α→List β} {i:Nat} (h:i<xs.length):(xs.take (i+1)).flatMap g=(xs.take i).flatMap g++g xs[i]:=by
 rw [List.take_succ_eq_append_getElem h,List.flatMap_append];simp
theorem tO {α:Type} {xs:List α} {g:α→Int} {i:Nat} (h:i<xs.length):((xs.take (i+1)).map g).sum=((xs.take i).map g).sum+g xs[i]:=by
 rw [pQ h,List.sum_append];simp
theorem xB {f:Nxt} {rows:aK} {i:Nat} (h:i<rows.length):jJ f (rows.take (i+1))=jJ f (rows.take i)+(f rows[i]).2:=tO h
theorem vg (f:Nxt):∀ (m:Nat) (L:aK) (c:Int),kg f (m+1) L c=((kg f m L c).1.flatMap (oU f),(kg f m L c).2+jJ f (kg f m L c).1)
 | 0,_,_=>rfl
 | m+1,L,c=>by
  rw [kg,vg f m];rfl
theorem xH:∀ {i:Nat},i≤5→l9 i≤1000000000
 | 0,_=>by decide
 | 1,_=>by decide
 | 2,_=>by decide
 | 3,_=>by decide
 | 4,_=>by decide
 | 5,_=>by decide
section
variable {N:Nat}
theorem xK {xs:List Int} (h:xs.length≤1048576):dm N xs=some xs:=by
 unfold dm
 rw [kJ (by decide) (by omega),bs]
theorem xj (hN:1073741824≤N) {t1:List oD} {order out p vs:List Int} {b1 b2 b3 b4 b5 b6:Int} {atoms:List aY} {next rows:aK} (hp:p.length≤1000) (hv:vs.length≤1000) (hn:next.length≤1073741824) :
  bm N N t1 order b1 b2 atoms out b3 b4 next p rows b5 b6 vs (vs.length:Int) 0=some (next++vs.map (fun v=>p++[v]),(vs.length:Int)):=by
 have h:=dJ (fun k (o:aK) i=>bm N k t1 order b1 b2 atoms out b3 b4 o p rows b5 b6 vs (vs.length:Int) i) vs.length (fun i=>next++(vs.take i).map (fun v=>p++[v])) (next++vs.map (fun v=>p++[v]),(vs.length:Int))
  (fun k i h=>by
   show bm N (k+1) t1 order b1 b2 atoms out b3 b4 (next++(vs.take i).map (fun v=>p++[v])) p rows b5 b6 vs (vs.length:Int) (i:Int)=bm N k t1 order b1 b2 atoms out b3 b4 (next++(vs.take (i+1)).map (fun v=>p++[v])) p rows b5 b6 vs (vs.length:Int) ((i+1:Nat):Int)
   rw [bm,dlt h,cond_true,aR h,bs,xK (by omega),bs,bu (by decide) (by simp;omega),bs,bu (by decide) (by rw [List.length_append,List.length_map,List.length_take,List.length_singleton];omega),bs,ad1 (by omega),bs,pQ h,List.append_assoc])
  (fun k=>by
   show bm N (k+1) t1 order b1 b2 atoms out b3 b4 (next++(vs.take vs.length).map (fun v=>p++[v])) p rows b5 b6 vs (vs.length:Int) (vs.length:Int)=_
   rw [bm,dge (by omega),cond_false,List.take_length]) N 0 (by omega) (by omega)
 rw [List.take_zero,List.map_nil,List.append_nil] at h
 exact h
theorem wB (hN:1073741824≤N) {ts:List be} {n:Nat} {m b1 b4 c:Int} {atoms:List aY} {out order:List Int} (q:QFor ts n atoms order) (ha:cW atoms) {rows:aK} {lv:Nat} (hlv:lv<n) (hrow:∀ r∈rows,r.length=lv) (hl:rows.length≤1048576) (hc:0≤c∧c≤1073741824) :
  bl N N (bB ts order atoms) order b1 m atoms out c b4 [] rows (rows.length:Int) 0=some (c+jJ (bb ts order atoms) rows,rows.flatMap (oU (bb ts order atoms)),(rows.length:Int)):=by
 have hf:=jn q
 have hn5:=q.n5
 have h4:=q.a4
 have h:=dJ (fun k (s:Int × aK) i=>bl N k (bB ts order atoms) order b1 m atoms out s.1 b4 s.2 rows (rows.length:Int) i) rows.length (fun i=>(c+jJ (bb ts order atoms) (rows.take i),(rows.take i).flatMap (oU (bb ts order atoms)))) (c+jJ (bb ts order atoms) rows,rows.flatMap (oU (bb ts order atoms)),(rows.length:Int))
  (fun k i h=>by
   have hr:=hrow _ (List.getElem_mem h)
   have hll:=nC ts order atoms rows[i]
   have hk:=hf.len rows[i];have h0:=hf.st0 rows[i];have h1:=hf.st1 rows[i]
   have hsb:=tX (g:=fun p=>((bb ts order atoms) p).2) hf.st0 hf.st1 (rows.take i)
   have hsb2:0≤jJ (bb ts order atoms) (rows.take i)∧jJ (bb ts order atoms) (rows.take i)≤(((rows.take i).length:Nat):Int)*1000:=hsb
   have hfl:=m6 (BD hf) (rows.take i)
   rw [List.length_take] at hsb2 hfl
   show bl N (k+1) (bB ts order atoms) order b1 m atoms out (c+jJ (bb ts order atoms) (rows.take i)) b4 ((rows.take i).flatMap (oU (bb ts order atoms))) rows (rows.length:Int) (i:Int)=bl N k (bB ts order atoms) order b1 m atoms out (c+jJ (bb ts order atoms) (rows.take (i+1))) b4 ((rows.take (i+1)).flatMap (oU (bb ts order atoms))) rows (rows.length:Int) ((i+1:Nat):Int)
   rw [bl,dlt h,cond_true,aR h,bs,wH hN q ha (by omega),bs,nI hN (by omega) (fun l hl=>by have:=(gR q l hl).1;omega),bs]
   show ((ad _ ((bb ts order atoms) rows[i]).2).bind fun x501=>(bm N N (bB ts order atoms) order b1 m atoms out x501 b4 _ rows[i] rows (rows.length:Int) (i:Int) ((bb ts order atoms) rows[i]).1 (((bb ts order atoms) rows[i]).1.length:Int) 0).bind _)=_
   rw [gZ (by omega) (by omega),bs,xj hN (by omega) (by omega) (by omega),bs,lpB,sL h,xB h,← Int.add_assoc,ad1 (by omega)];rfl)
  (fun k=>by
   show bl N (k+1) (bB ts order atoms) order b1 m atoms out (c+jJ (bb ts order atoms) (rows.take rows.length)) b4 ((rows.take rows.length).flatMap (oU (bb ts order atoms))) rows (rows.length:Int) (rows.length:Int)=_
   rw [bl,dge (by omega),cond_false,List.take_length]) N 0 (by omega) (by omega)
 have h':bl N N (bB ts order atoms) order b1 m atoms out (c+0) b4 [] rows (rows.length:Int) 0=_:=h
 rw [Int.add_zero] at h'
 exact h'
theorem wX (hN:1073741824≤N) {ts:List be} {n:Nat} {m:Int} {atoms:List aY} {out order:List Int} (q:QFor ts n atoms order) (ha:cW atoms) {len:Nat} (hlen:len≤n) :
  cB N m atoms out (bB ts order atoms) order (len:Int)=some ((bz (bb ts order atoms) len []).1,(bz (bb ts order atoms) len []).2,decide (((bz (bb ts order atoms) len []).1.length:Int)≤4000)):=by
 have hf:=jn q
 have hn5:=q.n5
 have h:=dJ (fun k (s:aK × Int) i=>bw N k (bB ts order atoms) order (len:Int) m atoms out s.1 s.2 i) len (fun i=>kg (bb ts order atoms) i [[]] 0) ((kg (bb ts order atoms) len [[]] 0).1,(kg (bb ts order atoms) len [[]] 0).2,(len:Int))
  (fun k i h=>by
   have hw:=wV (bb ts order atoms) i
   have hl:=nh hf i []
   have hs:=mN hf i []
   have hp:16 ^ i≤16 ^ 5:=Nat.pow_le_pow_right (by decide) (by omega)
   have hb:=xH (show i≤5 by omega)
   show bw N (k+1) (bB ts order atoms) order (len:Int) m atoms out (kg (bb ts order atoms) i [[]] 0).1 (kg (bb ts order atoms) i [[]] 0).2 (i:Int)=bw N k (bB ts order atoms) order (len:Int) m atoms out (kg (bb ts order atoms) (i+1) [[]] 0).1 (kg (bb ts order atoms) (i+1) [[]] 0).2 ((i+1:Nat):Int)
   rw [vg,hw,bw,dlt h,cond_true,wB hN q ha (show i<n by omega) (fun r hr=>by obtain ⟨s,e1,e⟩:=kp hr;rw [e1];exact e) (by omega) (by omega),bs,lpB,ad1 (by omega)];rfl)
  (fun k=>by
   show bw N (k+1) (bB ts order atoms) order (len:Int) m atoms out (kg (bb ts order atoms) len [[]] 0).1 (kg (bb ts order atoms) len [[]] 0).2 (len:Int)=_
   rw [bw,dge (by omega),cond_false]) N 0 (by omega) (by omega)
 have h':bw N N (bB ts order atoms) order (len:Int) m atoms out [[]] 0 0=_:=h
 unfold cB
 rw [h',wV,bs,lpB]
theorem zj {ts:List be} {n:Nat} {atoms:List aY} {out order:List Int} (q:QFor ts n atoms order) (ha:cW atoms) (ho:okI out) (hq:eM (n:Int) atoms out=true) :
  ∀ (m:Nat) (M:Nat) (p:List Int),p.length+m=n→1073741824+m+1≤M→dn M (bB ts order atoms) (n:Int) atoms out order p=some (bz (bb ts order atoms) m p):=by
 have hf:=jn q
 have hn5:=q.n5
 have hol:=q.ol
 intro m
 induction m with
 | zero =>
  intro M p hp hM
  obtain ⟨M,rfl⟩:∃ K,M=K+1:=⟨M-1,by omega⟩
  rw [dn,show ((p.length:Int) == (order.length:Int))=true by simp;omega,cond_true,kJ (by decide) (by omega),bs];rfl
 | succ m ih =>
  intro M p hp hM
  obtain ⟨M,rfl⟩:∃ K,M=K+1:=⟨M-1,by omega⟩
  have h0:=hf.st0 p;have h1:=hf.st1 p;have hk:=hf.len p
  rw [dn,show ((p.length:Int) == (order.length:Int))=false by simp;omega,cond_false,zu (by omega) q ha ho hq (by omega),bs]
  show ((dA (dn M) M M (bB ts order atoms) order p (n:Int) atoms out [] ((bb ts order atoms) p).1 ((bb ts order atoms) p).2 0).bind _)=_
  have h:=dJ (fun k (s:aK × Int) i=>dA (dn M) M k (bB ts order atoms) order p (n:Int) atoms out s.1 ((bb ts order atoms) p).1 s.2 i) ((bb ts order atoms) p).1.length (fun i=>((((bb ts order atoms) p).1.take i).flatMap (fun v=>(bz (bb ts order atoms) m (p++[v])).1),((bb ts order atoms) p).2+((((bb ts order atoms) p).1.take i).map fun v=>(bz (bb ts order atoms) m (p++[v])).2).sum)) ((bz (bb ts order atoms) (m+1) p).1,(bz (bb ts order atoms) (m+1) p).2,(((bb ts order atoms) p).1.length:Int))
   (fun k i h=>by
    have hp16:16 ^ m≤16 ^ 5:=Nat.pow_le_pow_right (by decide) (by omega)
    have hw:=nh hf m (p++[((bb ts order atoms) p).1[i]])
    have hfl:=m6 (g:=fun v=>(bz (bb ts order atoms) m (p++[v])).1) (fun v=>nh hf m _) (((bb ts order atoms) p).1.take i)
    have hst:=mN hf m (p++[((bb ts order atoms) p).1[i]])
    have hsb:=tX (g:=fun v=>(bz (bb ts order atoms) m (p++[v])).2) (fun v=>(mN hf m _).1) (fun v=>(mN hf m _).2) (((bb ts order atoms) p).1.take i)
    have hb:=xH (show m≤5 by omega)
    have hb0:=uH m
    rw [List.length_take] at hfl hsb
    have hmul:=Nat.mul_le_mul (show min i ((bb ts order atoms) p).1.length≤16 by omega) hp16
    have hmul2:((min i ((bb ts order atoms) p).1.length:Nat):Int)*l9 m≤16*l9 m:=Int.mul_le_mul_of_nonneg_right (by omega) hb0
    show dA (dn M) M (k+1) (bB ts order atoms) order p (n:Int) atoms out ((((bb ts order atoms) p).1.take i).flatMap (fun v=>(bz (bb ts order atoms) m (p++[v])).1)) ((bb ts order atoms) p).1 (((bb ts order atoms) p).2+((((bb ts order atoms) p).1.take i).map fun v=>(bz (bb ts order atoms) m (p++[v])).2).sum) (i:Int)=dA (dn M) M k (bB ts order atoms) order p (n:Int) atoms out ((((bb ts order atoms) p).1.take (i+1)).flatMap (fun v=>(bz (bb ts order atoms) m (p++[v])).1)) ((bb ts order atoms) p).1 (((bb ts order atoms) p).2+((((bb ts order atoms) p).1.take (i+1)).map fun v=>(bz (bb ts order atoms) m (p++[v])).2).sum) ((i+1:Nat):Int)
    rw [dA,dlt h,cond_true,aR h,bs,kJ (by decide) (by omega),bs,bu (by decide) (by simp;omega),bs,ih M (p++[((bb ts order atoms) p).1[i]]) (by rw [List.length_append,List.length_singleton];omega) (by omega),bs,bu (by decide) (by omega),bs,gZ (by omega) (by omega),bs,ad1 (by omega),bs,sL h,tO h,Int.add_assoc])
   (fun k=>by
    show dA (dn M) M (k+1) (bB ts order atoms) order p (n:Int) atoms out ((((bb ts order atoms) p).1.take ((bb ts order atoms) p).1.length).flatMap (fun v=>(bz (bb ts order atoms) m (p++[v])).1)) ((bb ts order atoms) p).1 (((bb ts order atoms) p).2+((((bb ts order atoms) p).1.take ((bb ts order atoms) p).1.length).map fun v=>(bz (bb ts order atoms) m (p++[v])).2).sum) (((bb ts order atoms) p).1.length:Int)=_
    rw [dA,dge (by omega),cond_false,List.take_length];rfl) M 0 (by omega) (by omega)
  have h':dA (dn M) M M (bB ts order atoms) order p (n:Int) atoms out [] ((bb ts order atoms) p).1 (((bb ts order atoms) p).2+0) 0=_:=h
  rw [Int.add_zero] at h'
  rw [h',bs,lpB]
end
end Go.Proofs.YtnipkopfefkojaaGreat
namespace Go.Proofs.YtnipkopfefkojaaGreat
open Go.RowKit

def iM (ts:List oD):Bool:=ts.any fun t=>decide (t.2.length=0)
def okQ (ts:List be) (n:Int) (atoms:List aY) (out order:List Int):Bool:=hH ts n atoms out&&ka n atoms out order
abbrev vX:=(Int × aK) × Int × Bool
def kC:vX:=((0,[]),0,false)
def i9 (k:Int) (w:aK × Int):vX:=bif decide ((w.1.length:Int)≤4000) then ((k,w.1),w.2,true) else kC
def eu (ts:List be) (n:Int) (atoms:List aY) (out order:List Int):vX :=
 bif okQ ts n atoms out order then (bif iM (bB ts order atoms) then ((n,[]),0,true) else i9 n (bz (bb ts order atoms) n.toNat [])) else kC
theorem lH {f:Nxt} (hf:NxtOk f) {k:Nat} (hk:k≤5):dM (bz f k []).1∧(∀ r∈(bz f k []).1,r.length=k∧bi r=true)∧fm (bz f k []).1:=by
 have h1:=nh hf k []
 have hp:16 ^ k≤16 ^ 5:=Nat.pow_le_pow_right (by decide) (by omega)
 have h2:∀ r∈(bz f k []).1,r.length=k∧bi r=true:=fun r hr=>by
  obtain ⟨s,e1,e⟩:=kp hr
  exact ⟨by rw [e1];exact e,ui hf rfl hr⟩
 exact ⟨⟨by omega,fun r hr=>⟨by have:=(h2 r hr).1;omega,fun _ _=>trivial⟩⟩,h2,vx hf k []⟩
theorem BA {f:Nxt} (hf:NxtOk f) {k:Nat} (hk:k≤5):jI (k:Int) (bz f k []).1=((i9 k (bz f k [])).1,(i9 k (bz f k [])).2.2):=by
 obtain ⟨h1,h2,h3⟩:=lH hf hk
 rw [xN (by omega) h1.1 (fun r hr=>by have:=h2 r hr;exact ⟨by omega,this.2⟩) h3]
 unfold i9
 cases decide (((bz f k []).1.length:Int)≤4000) <;> rfl
theorem AU {f:Nxt} (hf:NxtOk f) {k:Nat} (hk:k≤5):dM (i9 k (bz f k [])).1.2:=by
 unfold i9
 cases decide (((bz f k []).1.length:Int)≤4000)
 ·exact ⟨by simp [kC],by simp [kC]⟩
 ·exact (lH hf hk).1
theorem tR {ts:List be} {n:Int} {atoms:List aY} {out order:List Int} (h:okQ ts n atoms out order=true):∃ m:Nat,n=(m:Int)∧QFor ts m atoms order∧eM n atoms out=true:=by
 unfold okQ at h
 rw [Bool.and_eq_true] at h
 obtain ⟨m,e,q⟩:=wT h.1 h.2
 refine ⟨m,e,q,?_⟩
 have:=h.1
 unfold hH at this
 rw [Bool.and_eq_true] at this
 exact this.1
theorem y2 {ts:List be} {n:Int} {atoms:List aY} {out order:List Int}:dM (eu ts n atoms out order).1.2:=by
 unfold eu
 cases h:okQ ts n atoms out order with
 | false=>exact ⟨by simp [kC],by simp [kC]⟩
 | true =>
  obtain ⟨m,rfl,q,_⟩:=tR h
  cases iM (bB ts order atoms)
  ·exact AU (jn q) q.n5
  ·exact ⟨by simp,by simp⟩
theorem oZ {α:Type} (p:α→Bool):∀ xs:List α,(xs.all fun x=>!p x)=!xs.any p
 | []=>rfl
 | x :: xs=>by rw [List.all_cons,List.any_cons,oZ p xs,Bool.not_or]
section
variable {N:Nat}
theorem xE (hN:1073741824≤N) {ts:List oD} (hl:ts.length≤1048576):iE N ts=some (iM ts):=by
 have h:=gr (L:=fun k i=>dP N k ts (ts.length:Int) i) ts.length (by omega) true (fun i=>if h:i<ts.length then !decide (ts[i].2.length=0) else true) (ts.length:Int)
  (fun k i h=>by
   show dP N (k+1) ts (ts.length:Int) (i:Int)=_
   rw [dP,dlt h,cond_true,aR h,bs,show ((ts[i].2.length:Int) == 0)=decide (ts[i].2.length=0) from nN _ 0,ad1 (by omega),bs]
   simp only [dif_pos h]
   cases decide (ts[i].2.length=0) <;> rfl)
  (fun k=>by
   show dP N (k+1) ts (ts.length:Int) (ts.length:Int)=_
   rw [dP,dge (by omega),cond_false]) N 0 (by omega) (by omega)
 rw [Nat.sub_zero,gm ts (fun t=>!decide (t.2.length=0)) _ (fun i hi=>by rw [dif_pos hi]),oZ] at h
 have h':dP N N ts (ts.length:Int) 0=some (bif !iM ts then .inr (ts.length:Int) else .inl true):=h
 unfold iE
 rw [h',bs]
 cases iM ts <;> rfl
theorem xO (hN:1073741824≤N) {ts:List oD} (hl:ts.length≤1048576):i4 N ts=some (iM ts):=by
 have h:=gr (L:=fun k i=>eb N k ts i) ts.length (by omega) true (fun i=>if h:i<ts.length then !decide (ts[i].2.length=0) else true) (ts.length:Int)
  (fun k i h=>by
   show eb N (k+1) ts (i:Int)=_
   rw [eb,dlt h,cond_true,aR h,bs,show ((ts[i].2.length:Int) == 0)=decide (ts[i].2.length=0) from nN _ 0,ad1 (by omega),bs]
   simp only [dif_pos h]
   cases decide (ts[i].2.length=0) <;> rfl)
  (fun k=>by
   show eb N (k+1) ts (ts.length:Int)=_
   rw [eb,dge (by omega),cond_false]) N 0 (by omega) (by omega)
 rw [Nat.sub_zero,gm ts (fun t=>!decide (t.2.length=0)) _ (fun i hi=>by rw [dif_pos hi]),oZ] at h
 have h':eb N N ts 0=some (bif !iM ts then .inr (ts.length:Int) else .inl true):=h
 unfold i4
 rw [h',bs]
 cases iM ts <;> rfl
theorem xw (ts:List be) (n:Int) (atoms:List aY) (out order:List Int):xz ts n atoms out order=bif okQ ts n atoms out order then (bB ts order atoms,true) else ([],false):=rfl
theorem pq (hM:1073742848≤N) {ts:List be} {n:Int} {atoms:List aY} {out order:List Int} (ht:kd ts) (ha:cW atoms) (ho:okI out) (hr:okI order):ib N ts n atoms out order=some (eu ts n atoms out order):=by
 unfold ib eu
 rw [rl hM ht ha ho hr,bs,xw]
 cases h:okQ ts n atoms out order with
 | false=>rfl
 | true =>
  obtain ⟨m,rfl,q,_⟩:=tR h
  have h4:=q.a4
  rw [cond_true,cond_true]
  show ((iE N (bB ts order atoms)).bind _)=_
  rw [xE (by omega) (by rw [lX];omega),bs]
  cases iM (bB ts order atoms) with
  | true=>rfl
  | false =>
   rw [cond_false,cond_false]
   show ((cB N (m:Int) atoms out (bB ts order atoms) order (m:Int)).bind _)=_
   rw [wX (by omega) q ha (Nat.le_refl _),bs]
   unfold i9
   rw [show ((m:Nat):Int).toNat=m from rfl]
   show (bif decide (((bz (bb ts order atoms) m []).1.length:Int)≤4000) then _ else _)=_
   cases decide (((bz (bb ts order atoms) m []).1.length:Int)≤4000) <;> rfl
theorem pp (hM:1073742848≤N) {ts:List be} {n:Int} {atoms:List aY} {out order:List Int} (ht:kd ts) (ha:cW atoms) (ho:okI out) (hr:okI order):ie N ts n atoms out order=some (eu ts n atoms out order):=by
 unfold ie eu
 rw [rL hM ht ha ho hr,bs,xw]
 cases h:okQ ts n atoms out order with
 | false=>rfl
 | true =>
  obtain ⟨m,rfl,q,hq⟩:=tR h
  have h4:=q.a4
  have h5:=q.n5
  have hol:=q.ol
  rw [cond_true,cond_true]
  show ((i4 N (bB ts order atoms)).bind _)=_
  rw [xO (by omega) (by rw [lX];omega),bs,hol]
  cases iM (bB ts order atoms) with
  | true=>rfl
  | false =>
   obtain ⟨w1,_,_⟩:=lH (jn q) h5
   rw [cond_false,cond_false]
   show ((dn N (bB ts order atoms) (m:Int) atoms out order []).bind _)=_
   rw [zj q ha ho hq m N [] (by simp) (by omega),bs,iS hM w1,bs,BA (jn q) h5]
   unfold i9
   rw [show ((m:Nat):Int).toNat=m from rfl]
   cases decide (((bz (bb ts order atoms) m []).1.length:Int)≤4000) <;> rfl
end
end Go.Proofs.YtnipkopfefkojaaGreat
namespace Go.Proofs.YtnipkopfefkojaaGreat
open Go.RowKit

theorem x5 {f:Nxt} (hf:NxtOk f) {k:Nat} (hk:k≤5):(∀ r∈(i9 k (bz f k [])).1.2,r.length=k)∧fm (i9 k (bz f k [])).1.2∧(i9 k (bz f k [])).1.2.length≤4000:=by
 obtain ⟨_,h2,h3⟩:=lH hf hk
 unfold i9
 cases h:decide (((bz f k []).1.length:Int)≤4000) with
 | false=>exact ⟨by simp [kC],List.Pairwise.nil,by simp [kC]⟩
 | true =>
  rw [decide_eq_true_eq] at h
  exact ⟨fun r hr=>(h2 r hr).1,h3,by rw [cond_true];show (bz f k []).1.length≤4000;omega⟩
theorem xu {ts:List be} {n:Int} {atoms:List aY} {out order:List Int}:∃ k:Nat,1≤k∧k≤5∧((eu ts n atoms out order).2.2=true→n=(k:Int))∧(∀ r∈(eu ts n atoms out order).1.2,r.length=k)∧fm (eu ts n atoms out order).1.2∧(eu ts n atoms out order).1.2.length≤4000:=by
 unfold eu
 cases h:okQ ts n atoms out order with
 | false=>exact ⟨1,by omega,by omega,by simp [kC],by simp [kC],List.Pairwise.nil,by simp [kC]⟩
 | true =>
  obtain ⟨m,rfl,q,_⟩:=tR h
  cases iM (bB ts order atoms)
  ·obtain ⟨h1,h2,h3⟩:=x5 (jn q) q.n5
   exact ⟨m,q.n1,q.n5,fun _=>rfl,h1,h2,h3⟩
  ·exact ⟨m,q.n1,q.n5,fun _=>rfl,by simp,List.Pairwise.nil,by simp⟩
def zc (j:vX) (order:List Int):(List Int × List aS) × Bool:=bif j.2.2 then ((order,dR j.1.1.toNat j.1.2),true) else (([],[]),false)
end Go.Proofs.YtnipkopfefkojaaGreat
namespace Go.Proofs.YtnipkopfefkojaaGreat
open Go.RowKit

section
variable {N:Nat}
theorem xL {ts:List be} {n:Int} {atoms:List aY} {out order:List Int} (h:(eu ts n atoms out order).2.2=true):∃ k:Nat,k≤5∧(eu ts n atoms out order).1.1=(k:Int)∧mC k (eu ts n atoms out order).1.2:=by
 obtain ⟨k,k1,k5,hk,hr,_,hl⟩:=xu (ts:=ts) (n:=n) (atoms:=atoms) (out:=out) (order:=order)
 refine ⟨k,k5,?_,hl,fun i hi=>by rw [dK hi];exact hr _ (List.getElem_mem hi)⟩
 have e:=hk h
 unfold eu at h ⊢
 cases h2:okQ ts n atoms out order with
 | false=>rw [h2] at h;cases h
 | true =>
  rw [h2,cond_true] at h
  rw [cond_true]
  cases h3:iM (bB ts order atoms) with
  | true=>exact e
  | false =>
   rw [h3,cond_false] at h
   rw [cond_false]
   unfold i9 at h ⊢
   cases h4:decide (((bz (bb ts order atoms) n.toNat []).1.length:Int)≤4000) with
   | true=>exact e
   | false=>rw [h4] at h;cases h
theorem ss (hM:1073742848≤N) {ts:List be} {n:Int} {atoms:List aY} {out order:List Int} (ht:kd ts) (ha:cW atoms) (ho:okI out) (hr:okI order):jA N ts n atoms out order=some (zc (eu ts n atoms out order) order):=by
 unfold jA zc
 rw [pq hM ht ha ho hr,bs]
 cases h:(eu ts n atoms out order).2.2 with
 | false=>rfl
 | true =>
  obtain ⟨k,k5,e,hall⟩:=xL h
  rw [cond_true,cond_true,vU hM k5 hall hr.1,bs,e];rfl
end
end Go.Proofs.YtnipkopfefkojaaGreat
namespace Go.Proofs.YtnipkopfefkojaaGreat
open Go.RowKit

theorem uG (a:Int) {m:Nat} (hm:m≤4611686018427387904):0≤gH a (m:Int)∧gH a (m:Int)≤(m:Int):=by
 have h1:(BitVec.ofInt IntKind.i64.bits a &&& BitVec.ofInt IntKind.i64.bits (m:Int)).toNat≤m:=by
  rw [BitVec.toNat_and]
  refine Nat.le_trans Nat.and_le_right ?_
  rw [BitVec.toNat_ofInt]
  have:IntKind.i64.bits=64:=rfl
  rw [this]
  omega
 unfold gH
 rw [lD (nV (by omega) (by omega))]
 omega
theorem yx (a:Int) {b:Nat}:∃ v,sr a (b:Int)=some v:=by unfold sr;rw [if_pos (by omega)];exact ⟨_,rfl⟩
abbrev eQ (a:List Int):Prop:=a.length≤1048576∧∀ v∈a,0≤v∧v≤255
def cy (a:List Int) (p:Int):Prop:=0≤p∧p≤(a.length:Int)
section
variable {N:Nat}
theorem Cn (a:List Int) (ha:eQ a):∀ (m i k:Nat) (h:Int),i+m=4000→m<k→0≤h→h≤1073741823→∃ v,hJ N k a h (i:Int)=some v:=by
 intro m
 induction m with
 | zero =>
  intro i k h hi hk _ _
  obtain ⟨k,rfl⟩:∃ g,k=g+1:=⟨k-1,by omega⟩
  rw [hJ,decide_eq_false (show ¬ (i:Int)<4000 by omega)]
  cases decide ((i:Int)<(a.length:Int)) <;> exact ⟨_,rfl⟩
 | succ m ih =>
  intro i k h hi hk h0 h1
  obtain ⟨k,rfl⟩:∃ g,k=g+1:=⟨k-1,by omega⟩
  rw [hJ]
  by_cases hl:i<a.length
  ·have hb:=ha.2 _ (List.getElem_mem hl)
   rw [dlt hl,cond_true,decide_eq_true (show (i:Int)<4000 by omega),cond_true,tD (by omega) (by omega),bs,aR hl,bs,lD (nV (by omega) (by omega)),gZ (by omega) (by omega),bs,gZ (by omega) (by omega),bs,ad1 (by omega),bs]
   have hi':=uG (h*131+a[i]+7) (m:=1073741823) (by decide)
   exact ih (i+1) k _ (by omega) (by omega) hi'.1 hi'.2
  ·rw [dge hl,cond_false];exact ⟨_,rfl⟩
theorem zC (hN:1073741824≤N) {a:List Int} (ha:eQ a):∃ h,lY N a=some (0,h):=by
 have hl:=ha.1
 obtain ⟨v,hv⟩:=Cn (N:=N) a ha 4000 0 N (10101+(a.length:Int)) (by omega) (by omega) (by omega) (by omega)
 unfold lY
 rw [gZ (by omega) (by omega),bs]
 have hv':hJ N N a (10101+(a.length:Int)) 0=some v:=hv
 rw [hv',bs]
 exact ⟨_,rfl⟩
theorem k8 {a:List Int} (ha:eQ a) {p h:Int} (hc:cy a p):∃ x q g,gQ N a p h=some (x,q,g)∧0≤x∧x≤255∧cy a q:=by
 have hl:=ha.1
 have h0:=hc.1;have h1:=hc.2
 unfold gQ
 obtain ⟨x1,e1⟩:=yx (IntKind.i64.wrap ((IntKind.i64.wrap (h*6364136223846793005))+1442695040888963407)) (b:=33)
 obtain ⟨x2,e2⟩:=yx (IntKind.i64.wrap ((IntKind.i64.wrap (h*6364136223846793005))+1442695040888963407)) (b:=45)
 have e1':sr (IntKind.i64.wrap ((IntKind.i64.wrap (h*6364136223846793005))+1442695040888963407)) 33=some x1:=e1
 have e2':sr (IntKind.i64.wrap ((IntKind.i64.wrap (h*6364136223846793005))+1442695040888963407)) 45=some x2:=e2
 rw [e1',bs,e2',bs]
 by_cases hp:p<(a.length:Int)
 ·rw [decide_eq_true hp,cond_true,ia h0 hp,bs]
  have hb:=uG (IntKind.i64.wrap ((gH (ky x1 x2) 255)+(IntKind.i64.wrap a[p.toNat]))) (m:=255) (by decide)
  refine ⟨_,_,_,rfl,hb.1,hb.2,?_⟩
  rw [lD (nV (by omega) (by omega))]
  exact ⟨by omega,by omega⟩
 ·rw [decide_eq_false hp,cond_false]
  have hb:=uG (ky x1 x2) (m:=255) (by decide)
  exact ⟨_,_,_,rfl,hb.1,hb.2,hc⟩
theorem cx {a:List Int} (ha:eQ a) {p h n:Int} (hc:cy a p):∃ x q g,bW N a p h n=some (x,q,g)∧0≤x∧(0<n→x<n)∧(n≤0→x=0)∧cy a q:=by
 unfold bW
 by_cases h0:n≤0
 ·rw [decide_eq_true h0,cond_true]
  exact ⟨_,_,_,rfl,Int.le_refl _,fun h=>by omega,fun _=>rfl,hc⟩
 ·rw [decide_eq_false h0,cond_false]
  by_cases h1:n≤256
  ·obtain ⟨x,q,g,e,b0,b1,hc'⟩:=k8 (N:=N) ha (h:=h) hc
   rw [decide_eq_true h1,cond_true,e,bs,rT (by omega),bs]
   have:=ym b0 (show 0<n by omega)
   exact ⟨_,_,_,rfl,this.1,fun _=>this.2,fun h=>by omega,hc'⟩
  ·rw [decide_eq_false h1,cond_false]
   obtain ⟨x,q,g,e,b0,b1,hc1⟩:=k8 (N:=N) ha (h:=h) hc
   rw [e,bs]
   obtain ⟨y,q2,g2,e2,c0,c1,hc2⟩:=k8 (N:=N) ha (h:=g) hc1
   dsimp only
   rw [e2,bs]
   obtain ⟨z,q3,g3,e3,d0,d1,hc3⟩:=k8 (N:=N) ha (h:=g2) hc2
   dsimp only
   rw [e3,bs]
   obtain ⟨w,q4,g4,e4,f0,f1,hc4⟩:=k8 (N:=N) ha (h:=g3) hc3
   dsimp only
   rw [e4,bs]
   dsimp only
   rw [tD (by omega) (by omega),bs,tD (by omega) (by omega),bs,gZ (by omega) (by omega),bs,tD (by omega) (by omega),bs,gZ (by omega) (by omega),bs,gZ (by omega) (by omega),bs,rT (by omega),bs]
   have:=ym (show 0≤x*16777216+y*65536+z*256+w by omega) (show 0<n by omega)
   exact ⟨_,_,_,rfl,this.1,fun _=>this.2,fun h=>by omega,hc4⟩
theorem iA {a l:List Int} (ha:eQ a) {p h:Int} (hc:cy a p) (hl:0<l.length):∃ x q g,dZ N a p h l=some (x,q,g)∧x∈l∧cy a q:=by
 obtain ⟨x,q,g,e,b0,b1,_,hc'⟩:=cx (N:=N) ha (h:=h) (n:=(l.length:Int)) hc
 have b2:=b1 (by omega)
 unfold dZ
 rw [e,bs]
 dsimp only
 rw [ia b0 b2,bs]
 exact ⟨_,_,_,rfl,List.getElem_mem _,hc'⟩
end
end Go.Proofs.YtnipkopfefkojaaGreat
namespace Go.Proofs.YtnipkopfefkojaaGreat
open Go.RowKit

section
variable {N:Nat}
theorem BR {a:List Int} (ha:eQ a) {n m:Int} (hm:0<m):∀ (d k:Nat) (acc:List Int) (p h:Int),cy a p→acc.length+d=n.toNat→d<k→n≤1048576→(∀ v∈acc,0≤v∧v<m) →
  ∃ q g row,i7 N k a p h n m acc=some (q,g,row)∧cy a q∧row.length=n.toNat∧∀ v∈row,0≤v∧v<m:=by
 intro d
 induction d with
 | zero =>
  intro k acc p h hc hd hk _ hv
  obtain ⟨k,rfl⟩:∃ g,k=g+1:=⟨k-1,by omega⟩
  rw [i7,decide_eq_false (show ¬ (acc.length:Int)<n by omega),cond_false]
  exact ⟨_,_,_,rfl,hc,by omega,hv⟩
 | succ d ih =>
  intro k acc p h hc hd hk hn hv
  obtain ⟨k,rfl⟩:∃ g,k=g+1:=⟨k-1,by omega⟩
  obtain ⟨x,q,g,e,b0,b1,_,hc'⟩:=cx (N:=N) ha (h:=h) (n:=m) hc
  rw [i7,decide_eq_true (show (acc.length:Int)<n by omega),cond_true,e,bs]
  dsimp only
  rw [bu (by decide) (by simp;omega),bs]
  refine ih k _ q g hc' (by simp;omega) (by omega) hn fun v hv'=>?_
  rcases List.mem_append.1 hv' with h | h
  ·exact hv v h
  ·rw [List.mem_singleton] at h;rw [h];exact ⟨b0,b1 hm⟩
theorem t9 (hN:1073741824≤N) {a:List Int} (ha:eQ a) {p h n m:Int} (hc:cy a p) (hm:0<m) (hn:n≤1048576) :
  ∃ row q g,kH N a p h n m=some (row,q,g)∧cy a q∧row.length=n.toNat∧∀ v∈row,0≤v∧v<m:=by
 obtain ⟨q,g,row,e,h1,h2,h3⟩:=BR (N:=N) ha (n:=n) hm n.toNat N [] p h hc (by simp) (by omega) hn (by simp)
 unfold kH
 rw [e]
 exact ⟨row,q,g,rfl,h1,h2,h3⟩
theorem B5 (hN:1073741824≤N) {a:List Int} (ha:eQ a) {n m y:Int} {z:aK} (hm:0<m) (hn:n≤1048576):∀ (d k:Nat) (acc:aK) (p h c:Int),cy a p→c.toNat=d→c≤1048576→d<k→acc.length+d≤1048576→(∀ r∈acc,r.length=n.toNat∧∀ v∈r,0≤v∧v<m) →
  ∃ q g rows c',i8 N k a p h n m y z acc c=some (q,g,rows,c')∧cy a q∧rows.length≤acc.length+d∧∀ r∈rows,r.length=n.toNat∧∀ v∈r,0≤v∧v<m:=by
 intro d
 induction d with
 | zero =>
  intro k acc p h c hc hd _ hk hl hv
  obtain ⟨k,rfl⟩:∃ g,k=g+1:=⟨k-1,by omega⟩
  rw [i8,decide_eq_false (show ¬ 0<c by omega),cond_false]
  exact ⟨_,_,_,_,rfl,hc,by omega,hv⟩
 | succ d ih =>
  intro k acc p h c hc hd hcc hk hl hv
  obtain ⟨k,rfl⟩:∃ g,k=g+1:=⟨k-1,by omega⟩
  obtain ⟨row,q,g,e,hc',h2,h3⟩:=t9 hN ha (h:=h) (n:=n) hc hm hn
  rw [i8,decide_eq_true (show 0<c by omega),cond_true,e,bs]
  dsimp only
  rw [bu (by decide) (by simp;omega),bs,dU (by omega) (by omega),bs]
  obtain ⟨q',g',rows,c',e',k1,k2,k3⟩:=ih k (acc++[row]) q g (c-1) hc' (by omega) (by omega) (by omega) (by simp;omega) fun r hr=>by
   rcases List.mem_append.1 hr with h | h
   ·exact hv r h
   ·rw [List.mem_singleton] at h;rw [h];exact ⟨h2,h3⟩
  exact ⟨q',g',rows,c',e',k1,by simp at k2;omega,k3⟩
theorem pW (hM:1073742848≤N) {a:List Int} (ha:eQ a) {p h n m y:Int} (hc:cy a p) (hm:0<m∧m≤100) (hn:0≤n∧n≤5) (hy:0≤y∧y≤100) :
  ∃ rows q g,jU N a p h n y m=some ((n,rows),q,g)∧cy a q∧(rows.length:Int)≤y∧∀ r∈rows,(r.length:Int)=n∧∀ v∈r,0≤v∧v<m:=by
 have hN:1073741824≤N:=by omega
 obtain ⟨x,q,g,e,b0,b1,_,hc'⟩:=cx (N:=N) ha (h:=h) (n:=y+1) hc
 have b1:=b1 (by omega)
 obtain ⟨q',g',rows,c',e',k1,k2,k3⟩:=B5 hN ha (n:=n) (m:=m) (y:=0) (z:=[]) hm.1 (by omega) x.toNat N [] q g x hc' rfl (by omega) (by omega) (by simp;omega) (by simp)
 unfold jU
 rw [gZ (by omega) (by omega),bs,e,bs]
 dsimp only
 rw [e']
 simp only [List.length_nil,Nat.zero_add] at k2
 have hf:∀ r∈rows,(r.length:Int)=n∧bi r=true:=fun r hr=>by
  have:=k3 r hr
  refine ⟨by omega,?_⟩
  unfold bi
  refine List.all_eq_true.2 fun v hv=>?_
  have:=this.2 v hv
  unfold inR
  simp only [Bool.and_eq_true,decide_eq_true_eq]
  omega
 have hok:dM rows:=⟨by omega,fun r hr=>⟨by have:=(k3 r hr).1;omega,fun _ _=>trivial⟩⟩
 rw [bs]
 unfold lpB
 dsimp only
 rw [iS hM hok,bs,kr hn (by omega) hf]
 have hsl:=gV 20 rows
 refine ⟨cS 20 rows,q',g',rfl,k1,by omega,fun r hr=>?_⟩
 have hr':=jT 20 rows r hr
 exact ⟨(hf r hr').1,(k3 r hr').2⟩
def v5 (r:Int × aK):Prop:=(-1≤r.1∧r.1≤6)∧r.2.length≤7∧∀ w∈r.2,w.length≤6∧∀ v∈w,-1≤v∧v≤100
theorem yM (hM:1073742848≤N) {a:List Int} (ha:eQ a) {p h:Int} (hc:cy a p):∃ r q g,mq N a p h=some (r,q,g)∧cy a q∧v5 r:=by
 have hN:1073741824≤N:=by omega
 obtain ⟨n,q,g,e,b0,b1,_,hc1⟩:=cx (N:=N) ha (h:=h) (n:=4) hc
 have b1:=b1 (by decide)
 obtain ⟨rows,q2,g2,e2,hc2,hl,hr⟩:=pW hM ha (h:=g) (n:=n) (m:=4) (y:=6) hc1 (by decide) (by omega) (by decide)
 obtain ⟨s,q3,g3,e3,_,_,_,hc3⟩:=cx (N:=N) ha (h:=g2) (n:=14) hc2
 have hsm:∀ w∈rows,w.length≤6∧∀ v∈w,-1≤v∧v≤100:=fun w hw=>by
  have:=hr w hw
  exact ⟨by omega,fun v hv=>by have:=this.2 v hv;omega⟩
 have base:v5 (n,rows):=⟨⟨by show -1≤n;omega,by show n≤6;omega⟩,by show rows.length≤7;omega,hsm⟩
 unfold mq
 rw [e,bs]
 dsimp only
 rw [e2,bs]
 dsimp only
 rw [e3,bs]
 dsimp only
 cases h0:(s == 0)
 ·rw [cond_false]
  cases h1:(s == 1)
  ·rw [cond_false]
   cases h2:(s == 2)
   ·exact ⟨_,_,_,rfl,hc3,base⟩
   ·rw [cond_true]
    by_cases hp:0<rows.length
    ·rw [decide_eq_true (show (0:Int)<(rows.length:Int) by omega),cond_true]
     by_cases hn:0<n
     ·have hm0:=hr _ (List.getElem_mem hp)
      have hm1:=hsm _ (List.getElem_mem hp)
      have hp0:0<rows[0].length:=by omega
      obtain ⟨x,q4,g4,e4,hx,hc4⟩:=iA (N:=N) ha (h:=g3) hc3 (l:=[(-1),100,99]) (by decide)
      have i0:ix rows 0=some rows[0]:=aR hp
      have i1:ix rows[0] 0=some rows[0][0]:=aR hp0
      have s1:sto rows[0] 0 x=some (rows[0].set 0 x):=iZ hp0
      have s2:sto rows 0 (rows[0].set 0 x)=some (rows.set 0 (rows[0].set 0 x)):=iZ hp
      have hxb:-1≤x∧x≤100:=by
       simp only [List.mem_cons,List.not_mem_nil,or_false] at hx
       omega
      rw [decide_eq_true hn,cond_true,i0,bs,e4,bs,i1,bs,s1,bs,s2,bs]
      refine ⟨_,_,_,rfl,hc4,⟨base.1,by show (rows.set 0 _).length≤7;rw [List.length_set];omega,fun w hw=>?_⟩⟩
      rcases List.mem_or_eq_of_mem_set hw with h | h
      ·exact hsm w h
      ·subst h
       refine ⟨by rw [List.length_set];exact hm1.1,fun v hv=>?_⟩
       rcases List.mem_or_eq_of_mem_set hv with h | h
       ·exact hm1.2 v h
       ·rw [h];exact hxb
     ·rw [decide_eq_false hn,cond_false]
      exact ⟨_,_,_,rfl,hc3,base⟩
    ·rw [decide_eq_false (show ¬ (0:Int)<(rows.length:Int) by omega),cond_false]
     exact ⟨_,_,_,rfl,hc3,base⟩
  ·rw [cond_true]
   have hi:imx 0 n=n:=by unfold imx;split <;> omega
   obtain ⟨w,q4,g4,e4,hc4,hw1,hw2⟩:=t9 hN ha (h:=g3) (n:=n) (m:=4) hc3 (by decide) (by omega)
   rw [hi,e4,bs]
   dsimp only
   rw [bu (by decide) (by simp;omega),bs]
   refine ⟨_,_,_,rfl,hc4,base.1,by show (rows++[w]).length≤7;simp;omega,fun v hv=>?_⟩
   rcases List.mem_append.1 hv with h | h
   ·exact hsm v h
   ·rw [List.mem_singleton] at h;subst h
    exact ⟨by omega,fun v hv=>by have:=hw2 v hv;omega⟩
 ·obtain ⟨x,q4,g4,e4,hx,hc4⟩:=iA (N:=N) ha (h:=g3) hc3 (l:=[(-1),6,n+1]) (Nat.zero_lt_succ _)
  rw [cond_true,gZ (by omega) (by omega),bs,e4,bs]
  refine ⟨_,_,_,rfl,hc4,⟨?_,base.2⟩⟩
  simp only [List.mem_cons,List.not_mem_nil,or_false] at hx
  show -1≤x∧x≤6
  omega
end
end Go.Proofs.YtnipkopfefkojaaGreat
namespace Go.Proofs.YtnipkopfefkojaaGreat
open Go.RowKit

def gE (F:Nat→List (List Int)):Nat→List (List Int)
 | 0=>[]
 | j+1=>gE F j++F j
def cY (nodes:List aS):Nat→Int→List Int→List (List Int)
 | 0,_,_=>[]
 | f+1,nd,pre=>if nd=0 then [pre] else
   gE (fun j=>cY nodes f ((nodes.getD nd.toNat ([],[])).2.getD j 0) (pre++[(nodes.getD nd.toNat ([],[])).1.getD j 0])) (nodes.getD nd.toNat ([],[])).1.length
theorem ov {c:List Int}:∀ (l:List Int) (j:Nat),j<l.length→gS c (l.take (j+1))=gS c (l.take j)+c.getD (l.getD j 0).toNat 0
 | [],j,h=>by simp at h
 | x :: l,0,h=>by simp [gS]
 | x :: l,j+1,h=>by
  have:=ov (c:=c) l j (by simpa using h)
  rw [List.take_succ_cons,List.take_succ_cons,gS,gS,this,List.getD_cons_succ];omega
theorem lc {c:List Int} (hc:oo c):∀ (l:List Int),0≤gS c l
 | []=>by simp [gS]
 | x :: l=>by
  have:=lc hc l
  have:=q8 hc x.toNat
  unfold gS;omega
theorem yG {c:List Int} (hc:oo c):∀ (l:List Int) (j:Nat),gS c (l.take j)≤gS c l
 | [],j=>by simp
 | x :: l,0=>by have:=lc hc (x :: l);simpa [gS] using this
 | x :: l,j+1=>by
  have:=yG hc l j
  rw [List.take_succ_cons,gS,gS];omega
theorem AQ {c:List Int} (hc:oo c) (l:List Int):∀ s:Int,0≤s∧s≤1000000000→l.foldl (jg c) s<1000000000→l.foldl (jg c) s=s+gS c l:=by
 induction l with
 | nil=>intro s _ _;simp [gS]
 | cons x l ih =>
  intro s hs h
  rw [List.foldl_cons] at h ⊢
  have hb:=s7 hc (ch:=x) hs
  have hx:=q8 hc x.toNat
  have h1:=ih _ hb h
  have h0:=lc hc l
  have h2:jg c s x=s+c.getD x.toNat 0:=by
   have h3:jg c s x<1000000000:=by omega
   unfold jg at h3 ⊢;rw [zH] at h3 ⊢
   by_cases h4:s+c.getD x.toNat 0<1000000000
   ·rw [if_pos h4]
   ·rw [if_neg h4] at h3;omega
  rw [h1,h2,gS];omega
def wN (nodes:List aS) (nd:Int):Int:=(iL nodes nodes.length).getD nd.toNat 0
theorem AS {olen:Nat} {nodes:List aS} {far:List Int} (V:VF olen nodes far) {nd:Int} (h:inN nodes nd) (h0:nd≠0) (hw:wN nodes nd<1000000000) :
  gS (iL nodes nodes.length) (nodes.getD nd.toNat ([],[])).2=wN nodes nd:=by
 have h1:=h.1;have h2:=h.2
 have hi:nd.toNat<nodes.length:=by omega
 unfold wN at hw ⊢
 rw [pJ nodes nodes.length nd.toNat (by omega) hi] at hw ⊢
 rw [AQ (kO nodes nd.toNat (by omega)).2 _ 0 (by omega) hw,Int.zero_add]
 exact (uh _ fun j hj=>by
  have:=V.ch hi hj
  exact (wz nodes nodes.length nd.toNat _ (by omega) (by omega) (by omega)).symm).symm
theorem Em (nodes:List aS) (hp:1≤nodes.length) (nd:Int):0≤wN nodes nd∧wN nodes nd≤1000000000:=q8 (kO nodes nodes.length hp).2 nd.toNat
theorem vd {olen:Nat} {nodes:List aS} {far:List Int} (V:VF olen nodes far) {nd:Int} (h:inN nodes nd) (h0:nd≠0) (hw:wN nodes nd<1000000000) {j:Nat} (hj:j<(nodes.getD nd.toNat ([],[])).2.length) :
  gS (iL nodes nodes.length) ((nodes.getD nd.toNat ([],[])).2.take j)+wN nodes ((nodes.getD nd.toNat ([],[])).2.getD j 0)≤wN nodes nd:=by
 have h1:=ov (c:=iL nodes nodes.length) _ j hj
 have h2:=yG (kO nodes nodes.length V.pos).2 (nodes.getD nd.toNat ([],[])).2 (j+1)
 rw [AS V h h0 hw] at h2
 unfold wN;unfold wN at h2;omega
theorem vY {olen:Nat} {nodes:List aS} {far:List Int} (V:VF olen nodes far) {nd:Int} (h:inN nodes nd) {j:Nat} (hj:j<(nodes.getD nd.toNat ([],[])).2.length) :
  inN nodes ((nodes.getD nd.toNat ([],[])).2.getD j 0)∧(nodes.getD nd.toNat ([],[])).2.getD j 0<nd:=by
 have h1:=h.1;have h2:=h.2
 have:=V.ch (i:=nd.toNat) (by omega) hj
 exact ⟨⟨this.1,by omega⟩,by omega⟩
theorem zx {olen:Nat} {nodes:List aS} {far:List Int} (V:VF olen nodes far):∀ (f:Nat) (nd:Int) (pre:List Int),inN nodes nd→nd<f→wN nodes nd<1000000000→((cY nodes f nd pre).length:Int)≤wN nodes nd:=by
 intro f
 induction f with
 | zero=>intro nd pre h hf;have:=h.1;omega
 | succ f ih =>
  intro nd pre h hf hw
  unfold cY
  by_cases h0:nd=0
  ·subst h0
   rw [if_pos rfl];unfold wN;rw [show (0:Int).toNat=0 from rfl,tL nodes _ V.pos];simp
  ·rw [if_neg h0]
   have hl:=V.lens (i:=nd.toNat) (by have:=h.1;have:=h.2;omega)
   have key:∀ m,m≤(nodes.getD nd.toNat ([],[])).1.length→((gE (fun j=>cY nodes f ((nodes.getD nd.toNat ([],[])).2.getD j 0) (pre++[(nodes.getD nd.toNat ([],[])).1.getD j 0])) m).length:Int)≤gS (iL nodes nodes.length) ((nodes.getD nd.toNat ([],[])).2.take m):=by
    intro m
    induction m with
    | zero=>intro _;simp [gE,gS]
    | succ m ihm =>
     intro hm
     have h1:=ihm (by omega)
     have hj:m<(nodes.getD nd.toNat ([],[])).2.length:=by omega
     obtain ⟨c1,c2⟩:=vY V h hj
     have h2:=vd V h h0 hw hj
     have h3:=lc (kO nodes nodes.length V.pos).2 ((nodes.getD nd.toNat ([],[])).2.take m)
     have h4:=ih _ (pre++[(nodes.getD nd.toNat ([],[])).1.getD m 0]) c1 (by omega) (by omega)
     rw [gE,List.length_append,ov _ m hj]
     unfold wN at h4
     omega
   have:=key _ (Nat.le_refl _)
   rw [hl,List.take_length,AS V h h0 hw] at this
   rw [hl];exact this
theorem Bu {olen:Nat} {nodes:List aS} {far:List Int} (V:VF olen nodes far) {nd:Int} (h:inN nodes nd) (h0:nd≠0) (hw:wN nodes nd<1000000000) {f:Nat} (hf:nd≤f) (pre:List Int) :
  ∀ m,m≤(nodes.getD nd.toNat ([],[])).1.length→((gE (fun j=>cY nodes f ((nodes.getD nd.toNat ([],[])).2.getD j 0) (pre++[(nodes.getD nd.toNat ([],[])).1.getD j 0])) m).length:Int)≤gS (iL nodes nodes.length) ((nodes.getD nd.toNat ([],[])).2.take m):=by
 have hl:=V.lens (i:=nd.toNat) (by have:=h.1;have:=h.2;omega)
 intro m
 induction m with
 | zero=>intro _;simp [gE,gS]
 | succ m ihm =>
  intro hm
  have h1:=ihm (by omega)
  have hj:m<(nodes.getD nd.toNat ([],[])).2.length:=by omega
  obtain ⟨c1,c2⟩:=vY V h hj
  have h2:=vd V h h0 hw hj
  have h3:=lc (kO nodes nodes.length V.pos).2 ((nodes.getD nd.toNat ([],[])).2.take m)
  have h4:=zx V f _ (pre++[(nodes.getD nd.toNat ([],[])).1.getD m 0]) c1 (by omega) (by omega)
  rw [gE,List.length_append,ov _ m hj]
  unfold wN at h4
  omega
section
variable {N:Nat}
theorem At {order:List Int} {nodes:List aS} {far:List Int} (V:VF order.length nodes far) (hn:okN nodes):∀ (f:Nat) (nd:Int) (M:Nat) (pre:List Int) (out:List (List Int)),inN nodes nd→nd<f→nd+1048580≤(M:Int)→pre.length+nd≤1048576→out.length+wN nodes nd≤4000 →
  fG M order nodes nd pre out=some (out++cY nodes f nd pre):=by
 intro f
 induction f with
 | zero=>intro nd M pre out h hf;have:=h.1;omega
 | succ f ih =>
  intro nd M pre out h hf hM hp hw
  have g1:=h.1;have g2:=h.2
  obtain ⟨M,rfl⟩:∃ M',M=M'+1:=⟨M-1,by omega⟩
  have wb:=Em nodes V.pos nd
  rw [fG,cY]
  by_cases h0:nd=0
  ·subst h0
   rw [show ((0:Int) == 0)=true from rfl,cond_true,dm,kJ (by decide) (by omega),bs,bs,bu (by decide) (by simp;omega),bs,if_pos rfl]
  ·rw [show (nd == 0)=false by simpa using h0,cond_false,if_neg h0,ixN h,bs]
   have hi:nd.toNat<nodes.length:=by omega
   have hl:=V.lens hi
   have hk:=n9 hn hi
   rw [← lQ hi] at hk
   have hx1:=hk.1.1
   have hwl:wN nodes nd<1000000000:=by omega
   have hup:=Bu V h h0 hwl (f:=f) (by omega) pre
   have hpart:=fun j (hj:j<(nodes.getD nd.toNat ([],[])).2.length)=>vd V h h0 hwl hj
   have hch:=fun j (hj:j<(nodes.getD nd.toNat ([],[])).2.length)=>vY V h hj
   generalize hx:nodes.getD nd.toNat ([],[])=x at *
   have hL:=dJ (fun k (s:List (List Int)) j=>fb (fG M) M k pre s order nodes x.1 x.2 x.1 (x.1.length:Int) j) x.1.length (fun j=>out++gE (fun j=>cY nodes f (x.2.getD j 0) (pre++[x.1.getD j 0])) j) (out++gE (fun j=>cY nodes f (x.2.getD j 0) (pre++[x.1.getD j 0])) x.1.length,(x.1.length:Int))
    (fun k j hj=>by
     have hj2:j<x.2.length:=by omega
     have q1:=hup j (by omega)
     have q2:=hpart j hj2
     obtain ⟨q3,q4⟩:=hch j hj2
     show fb (fG M) M (k+1) pre _ order nodes x.1 x.2 x.1 (x.1.length:Int) (j:Int)=_
     rw [fb,dlt hj,cond_true,aR hj,bs,aR hj2,bs,dm,kJ (by decide) (by omega),bs,bs,bu (by decide) (by simp;omega),bs,← bk hj2,← bk hj,ih _ M (pre++[x.1.getD j 0]) _ q3 (by omega) (by omega) (by rw [List.length_append,List.length_singleton];omega) (by rw [List.length_append];omega),bs,ad1 (by omega),bs,List.append_assoc]
     rfl)
    (fun k=>by
     show fb (fG M) M (k+1) pre _ order nodes x.1 x.2 x.1 (x.1.length:Int) (x.1.length:Int)=_
     rw [fb,dge (by omega),cond_false]) M 0 (by omega) (by omega)
   rw [show gE (fun j=>cY nodes f (x.2.getD j 0) (pre++[x.1.getD j 0])) 0=[] from rfl,List.append_nil] at hL
   have hL':fb (fG M) M M pre out order nodes x.1 x.2 x.1 (x.1.length:Int) 0=_:=hL
   rw [hL',bs,lpB]
def sd (order:List Int) (nodes:List aS):(Int × List (List Int)) × Bool :=
 bif iJ order nodes&&!decide (4000<kq order nodes) then (((order.length:Int),cY nodes nodes.length ((nodes.length:Int)-1) []),true) else ((0,[]),false)
theorem sI {order:List Int} {nodes:List aS} (h:iJ order nodes=true):kq order nodes=wN nodes ((nodes.length:Int)-1):=by
 unfold kq wN
 rw [h,cond_true,show ((nodes.length:Int)-1).toNat=nodes.length-1 by omega]
theorem nb (hN:1073741824≤N) {order:List Int} {nodes:List aS} (ho:okI order) (hn:okN nodes):eU N order nodes=some (sd order nodes):=by
 unfold eU sd
 rw [gP hN ho hn,bs]
 cases hv:iJ order nodes with
 | false=>rfl
 | true =>
  obtain ⟨far,V⟩:=zg hv
  have hp:=V.pos;have hle:=V.le
  rw [cond_true,j6 hN ho hn,bs,Bool.true_and]
  by_cases hc:4000<kq order nodes
  ·rw [decide_eq_true hc];rfl
  ·rw [decide_eq_false hc,cond_false,dU (by omega) (by omega),bs]
   rw [sI hv] at hc
   rw [At V hn nodes.length _ N [] [] ⟨by omega,by omega⟩ (by omega) (by omega) (by rw [List.length_nil];omega) (by rw [List.length_nil];omega),bs]
   rfl
end
end Go.Proofs.YtnipkopfefkojaaGreat
namespace Go.Proofs.YtnipkopfefkojaaGreat
open Go.RowKit

def WFn (ns:List aS):Prop:=1≤ns.length∧∀ i,i<ns.length→∀ c∈(ns.getD i ([],[])).2,0≤c∧c<(i:Int)
def fJ (a b:List aS):Prop:=∃ t,b=a++t
theorem fJ.refl (a:List aS):fJ a a:=⟨[],by simp⟩
theorem fJ.trans {a b c:List aS} (h:fJ a b) (k:fJ b c):fJ a c:=by
 obtain ⟨t,rfl⟩:=h;obtain ⟨u,rfl⟩:=k;exact ⟨t++u,by simp⟩
theorem fJ.get {a b:List aS} (h:fJ a b) {i:Nat} (hi:i<a.length):b.getD i ([],[])=a.getD i ([],[]):=by
 obtain ⟨t,rfl⟩:=h
 rw [List.getD_eq_getElem?_getD,List.getD_eq_getElem?_getD,List.getElem?_append_left hi]
theorem fJ.len {a b:List aS} (h:fJ a b):a.length≤b.length:=by
 obtain ⟨t,rfl⟩:=h;simp
theorem wF {ns:List aS} {x:aS} {j:Nat}:∀ f i,lr ns x f i=some j→i≤j∧j<i+f∧ns.getD j ([],[])=x
 | 0,_,h=>by simp [lr] at h
 | f+1,i,h=>by
  unfold lr at h
  split at h
  ·rename_i e
   obtain rfl:=Option.some.inj h
   exact ⟨Nat.le_refl _,by omega,e⟩
  ·have:=wF f (i+1) h
   exact ⟨by omega,by omega,this.2.2⟩
theorem uJ {ns:List aS} {x:aS} (hw:WFn ns) (hx:∀ c∈x.2,0≤c∧c<(ns.length:Int)) :
  WFn (fY ns x).2∧fJ ns (fY ns x).2∧∃ k:Nat,(fY ns x).1=(k:Int)∧1≤k∧k<(fY ns x).2.length∧(fY ns x).2.getD k ([],[])=x∧∀ i,ns.length≤i→i<(fY ns x).2.length→i=k:=by
 unfold fY
 split
 ·rename_i i e
  have:=wF _ _ e
  exact ⟨hw,fJ.refl _,i,rfl,by omega,by show i<ns.length;omega,this.2.2,fun j h1 h2=>absurd h2 (by show ¬ j<ns.length;omega)⟩
 ·have hg:(ns++[x]).getD ns.length ([],[])=x:=by simp
  refine ⟨⟨by simp,fun i hi c hc=>?_⟩,⟨[x],rfl⟩,ns.length,rfl,hw.1,by simp,hg,fun j h1 h2=>by simp at h2;omega⟩
  simp only [List.length_append,List.length_singleton] at hi
  by_cases h:i<ns.length
  ·rw [fJ.get ⟨[x],rfl⟩ h] at hc
   exact hw.2 i h c hc
  ·have e:i=ns.length:=by omega
   subst e
   rw [hg] at hc
   exact hx c hc
def Be (ns:List aS) (nd:Int) (pre:List Int) (rs:List (List Int)):Prop :=
 (0≤nd∧nd<(ns.length:Int))∧∀ ns',fJ ns ns'→∀ f:Nat,nd<(f:Int)→cY ns' f nd pre=rs
theorem nx {F G:Nat→List (List Int)}:∀ n,(∀ j,j<n→F j=G j)→gE F n=gE G n
 | 0,_=>rfl
 | n+1,h=>by unfold gE;rw [nx n (fun j hj=>h j (by omega)),h n (by omega)]
theorem po {ns ns':List aS} (hw:WFn ns) (hp:fJ ns ns'):∀ (f:Nat) (nd:Int) (pre:List Int),0≤nd→nd<(ns.length:Int)→cY ns' f nd pre=cY ns f nd pre
 | 0,_,_,_,_=>rfl
 | f+1,nd,pre,h0,h1=>by
  obtain ⟨k,rfl⟩:=Int.eq_ofNat_of_zero_le h0
  rw [cY,cY]
  by_cases hz:(k:Int)=0
  ·rw [if_pos hz,if_pos hz]
  ·have hk:k<ns.length:=by omega
   rw [if_neg hz,if_neg hz,Int.toNat_natCast,hp.get hk]
   refine nx _ fun j _=>po hw hp f _ _ ?_ ?_ <;>
   ·by_cases hj:j<(ns.getD k ([],[])).2.length
    ·rw [List.getD_eq_getElem?_getD,List.getElem?_eq_getElem hj,Option.getD_some]
     have:=hw.2 k hk _ (List.getElem_mem hj)
     omega
    ·rw [List.getD_eq_getElem?_getD,List.getElem?_eq_none (by omega),Option.getD_none]
     omega
theorem wc {F:Nat→List (List Int)} {g:List Int→List Int}:∀ n,gE (fun j=>(F j).map g) n=(gE F n).map g
 | 0=>rfl
 | n+1=>by unfold gE;rw [wc n,List.map_append]
theorem tU (ns:List aS):∀ (f:Nat) (nd:Int) (p q:List Int),cY ns f nd (p++q)=(cY ns f nd q).map (p++·)
 | 0,_,_,_=>rfl
 | f+1,nd,p,q=>by
  rw [cY,cY]
  by_cases hz:nd=0
  ·rw [if_pos hz,if_pos hz];rfl
  ·rw [if_neg hz,if_neg hz,← wc]
   refine nx _ fun j _=>?_
   rw [List.append_assoc,tU ns f _ p]
def EF (E:Nat) (ns:List aS):Prop:=∀ i:Nat,i<ns.length→∀ f:Nat,i<f→∀ r∈cY ns f (i:Int) [],r.length≤E
def WFd (E:Nat) (ns:List aS):Prop:=WFn ns∧EF E ns
theorem sS {rows:List (List Int)} {d:Nat} {v:Int}:∀ f k j,k≤j→j<kv rows d v f k→(rows.getD j []).getD d 0=v
 | 0,k,j,h1,h2=>by unfold kv at h2;omega
 | f+1,k,j,h1,h2=>by
  unfold kv at h2
  split at h2
  ·rename_i e
   by_cases h:j=k
   ·rw [h];exact e
   ·exact sS f (k+1) j (by omega) h2
  ·omega
def wr (E:Nat) (rec:List aS→List (List Int)→Int × List aS) (n d:Nat):Prop :=
 ∀ ns rs pre,WFd E ns→rs≠[]→rs.Nodup→(∀ r∈rs,r.length=n∧r.take d=pre)→WFd E (rec ns rs).2∧fJ ns (rec ns rs).2∧Be (rec ns rs).2 (rec ns rs).1 pre rs
theorem wd {α:Type} {l t:List α} {j:Nat} {z:α} (h:j<l.length):(l++t).getD j z=l.getD j z:=by
 rw [List.getD_eq_getElem?_getD,List.getD_eq_getElem?_getD,List.getElem?_append_left h]
theorem ox {E:Nat} {rec:List aS→List (List Int)→Int × List aS} {n d:Nat} (hr:wr E rec n (d+1)) (hdn:d<n) {rows:List (List Int)} {pre:List Int} (hnd:rows.Nodup) (hrow:∀ r∈rows,r.length=n∧r.take d=pre) :
  ∀ f ns vals chs i,rows.length-i≤f→i≤rows.length→WFd E ns→vals.length=chs.length→(∀ c∈chs,0≤c∧c<(ns.length:Int)) →
   (∀ ns',fJ ns ns'→∀ g:Nat,(∀ c∈chs,c<(g:Int))→gE (fun j=>cY ns' g (chs.getD j 0) (pre++[vals.getD j 0])) vals.length=rows.take i) →
   WFd E (bO rec rows d f ns vals chs i).1∧fJ ns (bO rec rows d f ns vals chs i).1∧(bO rec rows d f ns vals chs i).2.1.length=(bO rec rows d f ns vals chs i).2.2.length ∧
   (∀ c∈(bO rec rows d f ns vals chs i).2.2,0≤c∧c<((bO rec rows d f ns vals chs i).1.length:Int)) ∧
   ∀ ns',fJ (bO rec rows d f ns vals chs i).1 ns'→∀ g:Nat,(∀ c∈(bO rec rows d f ns vals chs i).2.2,c<(g:Int)) →
    gE (fun j=>cY ns' g ((bO rec rows d f ns vals chs i).2.2.getD j 0) (pre++[(bO rec rows d f ns vals chs i).2.1.getD j 0])) (bO rec rows d f ns vals chs i).2.1.length=rows
 | 0,ns,vals,chs,i,hf,hi,hw,hl,hc,hu=>by
  have e:rows.take i=rows:=List.take_of_length_le (by omega)
  unfold bO
  exact ⟨hw,fJ.refl _,hl,hc,fun ns' h g hg=>(hu ns' h g hg).trans e⟩
 | f+1,ns,vals,chs,i,hf,hi,hw,hl,hc,hu=>by
  unfold bO
  split
  ·rename_i hlt
   have hb:=kL (d:=d) hlt
   have hgm:∀ r∈(rows.take (dN rows d i)).drop i,r.length=n∧r.take (d+1)=pre++[(rows.getD i []).getD d 0]:=fun r hm=>by
    obtain ⟨j,hj,rfl⟩:=List.getElem_of_mem hm
    rw [List.getElem_drop,List.getElem_take]
    rw [List.length_drop,List.length_take] at hj
    have h0:=hrow _ (List.getElem_mem (show i+j<rows.length by omega))
    have hv:=sS (rows:=rows) (d:=d) (v:=(rows.getD i []).getD d 0) (rows.length-i) i (i+j) (by omega) (by show i+j<dN rows d i;omega)
    rw [List.getD_eq_getElem?_getD (l:=rows),List.getElem?_eq_getElem (show i+j<rows.length by omega),Option.getD_some] at hv
    refine ⟨h0.1,?_⟩
    have hdl:d<(rows[i+j]'(by omega)).length:=by omega
    rw [List.take_succ_eq_append_getElem hdl,h0.2]
    rw [List.getD_eq_getElem?_getD (l:=rows[i+j]'(by omega)),List.getElem?_eq_getElem hdl,Option.getD_some] at hv
    rw [hv]
   have hne:(rows.take (dN rows d i)).drop i≠[]:=by
    intro h
    have:=congrArg List.length h
    simp only [List.length_drop,List.length_take,List.length_nil] at this
    omega
   have hnd':((rows.take (dN rows d i)).drop i).Nodup:=(hnd.sublist (List.take_sublist _ _)).sublist (List.drop_sublist _ _)
   obtain ⟨k1,k2,k3,k4⟩:=hr ns _ _ hw hne hnd' hgm
   obtain ⟨m1,m2,m3,m4,m5⟩:=ox hr hdn hnd hrow f (rec ns ((rows.take (dN rows d i)).drop i)).2 (vals++[(rows.getD i []).getD d 0]) (chs++[(rec ns ((rows.take (dN rows d i)).drop i)).1]) (dN rows d i) (by omega) hb.2 k1 (by simp [hl]) (fun c hc'=>by
     rcases List.mem_append.1 hc' with h | h
     ·have:=hc c h;have:=k2.len;omega
     ·rw [List.mem_singleton] at h;rw [h];exact k3) (fun ns' hp g hg=>by
     have h1:=hu ns' (k2.trans hp) g (fun c h=>hg c (List.mem_append_left _ h))
     rw [List.length_append,List.length_singleton]
     unfold gE
     rw [nx vals.length (G:=fun j=>cY ns' g (chs.getD j 0) (pre++[vals.getD j 0])) (fun j hj=>by
      rw [wd (by omega),wd hj]),h1]
     have e1:(chs++[(rec ns ((rows.take (dN rows d i)).drop i)).1]).getD vals.length 0=(rec ns ((rows.take (dN rows d i)).drop i)).1:=by rw [hl];simp
     have e2:(vals++[(rows.getD i []).getD d 0]).getD vals.length 0=(rows.getD i []).getD d 0:=by simp
     rw [e1,e2,k4 ns' hp g (hg _ (by simp))]
     have e3:rows.take i=(rows.take (dN rows d i)).take i:=by rw [List.take_take,Nat.min_eq_left (by omega)]
     rw [e3,List.take_append_drop])
   exact ⟨m1,k2.trans m2,m3,m4,m5⟩
  ·have e:rows.take i=rows:=List.take_of_length_le (by omega)
   exact ⟨hw,fJ.refl _,hl,hc,fun ns' h g hg=>(hu ns' h g hg).trans e⟩
theorem jW {E n:Nat}:∀ (e d:Nat),d+e=n→e≤E→wr E (fun ns rs=>bJ e ns rs d) n d
 | 0,d,hd,_=>fun ns rs pre hw hne hnd hrow=>by
  have hall:∀ r∈rs,r=pre:=fun r hr=>by
   have:=hrow r hr
   rw [← this.2,List.take_of_length_le (by omega)]
  have he:rs=[pre]:=by
   cases rs with
   | nil=>exact absurd rfl hne
   | cons a t =>
    obtain rfl:=hall a (by simp)
    cases t with
    | nil=>rfl
    | cons b t =>
     have:=hall b (by simp)
     subst this
     simp at hnd
  refine ⟨hw,fJ.refl _,⟨by show (0:Int)≤0;omega,by show (0:Int)<ns.length;have:=hw.1.1;omega⟩,fun ns' _ f hf=>?_⟩
  have hf:(0:Int)<(f:Int):=hf
  obtain ⟨g,rfl⟩:∃ g,f=g+1:=⟨f-1,by omega⟩
  show cY ns' (g+1) 0 pre=rs
  rw [he,cY,if_pos rfl]
 | e+1,d,hd,hE=>fun ns rs pre hw hne hnd hrow=>by
  obtain ⟨m1,m2,m3,m4,m5⟩:=ox (jW e (d+1) (by omega) (by omega)) (by omega) hnd hrow rs.length ns [] [] 0 (by omega) (by omega) hw rfl (by simp) (fun ns' _ g _=>by simp [gE])
  show WFd E (bJ (e+1) ns rs d).2∧fJ ns (bJ (e+1) ns rs d).2∧Be (bJ (e+1) ns rs d).2 (bJ (e+1) ns rs d).1 pre rs
  unfold bJ
  generalize hL:bO (fun ns rs=>bJ e ns rs (d+1)) rs d rs.length ns [] [] 0=L at m1 m2 m3 m4 m5 ⊢
  obtain ⟨p1,p2,k,p3,p4,p5,p6,p7⟩:=uJ (x:=L.2) m1.1 m4
  have hun:Be (fY L.1 L.2).2 (fY L.1 L.2).1 pre rs:=by
   refine ⟨by omega,fun ns' hp f hf=>?_⟩
   rw [p3] at hf ⊢
   obtain ⟨g,rfl⟩:∃ g,f=g+1:=⟨f-1,by omega⟩
   have hk:ns'.getD (k:Int).toNat ([],[])=L.2:=by rw [Int.toNat_natCast,hp.get p5,p6]
   have hch:∀ c∈L.2.2,c<(g:Int):=fun c hc=>by
    have:=p1.2 k p5 c (by rw [p6];exact hc)
    omega
   rw [cY,if_neg (by omega),hk]
   exact m5 ns' (p2.trans hp) g hch
  refine ⟨⟨p1,fun i hi f hf r hr=>?_⟩,m2.trans p2,hun⟩
  by_cases h:i<L.1.length
  ·rw [po m1.1 p2 f _ _ (by omega) (by omega)] at hr
   exact m1.2 i h f hf r hr
  ·obtain rfl:=p7 i (by omega) hi
   have h1:=hun.2 _ (fJ.refl _) f (by omega)
   rw [p3] at h1
   have h2:=tU (fY L.1 L.2).2 f (i:Int) pre []
   rw [List.append_nil,h1] at h2
   have h3:pre++r∈rs:=by rw [h2];exact List.mem_map.2 ⟨r,hr,rfl⟩
   have h4:=hrow _ h3
   have h5:=congrArg List.length h4.2
   rw [List.length_take,h4.1] at h5
   have h6:=h4.1
   rw [List.length_append] at h6
   omega
end Go.Proofs.YtnipkopfefkojaaGreat
namespace Go.Proofs.YtnipkopfefkojaaGreat
open Go.RowKit

theorem re (E:Nat):WFd E zN:=by
 refine ⟨⟨by decide,fun i hi c hc=>?_⟩,fun i hi f hf r hr=>?_⟩
 ·obtain rfl:i=0:=by simp [zN] at hi;exact hi
  simp [zN] at hc
 ·obtain rfl:i=0:=by simp [zN] at hi;exact hi
  obtain ⟨g,rfl⟩:∃ g,f=g+1:=⟨f-1,by omega⟩
  have e:cY zN (g+1) ((0:Nat):Int) []=[[]]:=by rw [cY];exact if_pos rfl
  rw [e,List.mem_singleton] at hr
  subst hr;simp
theorem t0 {n:Nat} {rows:List (List Int)} (hnd:rows.Nodup) (hrow:∀ r∈rows,r.length=n) (hne:rows≠[]):(bJ n zN rows 0).1=(((bJ n zN rows 0).2.length:Int)-1):=by
  have hr0:∀ r∈rows,r.length=n∧r.take 0=[]:=fun r hr=>⟨hrow r hr,rfl⟩
  obtain ⟨w1,_,u1,u2⟩:=jW (E:=n) n 0 (by omega) (Nat.le_refl _) zN rows [] (re _) hne hnd hr0
  cases n with
  | zero=>rfl
  | succ e =>
   obtain ⟨m1,_,m3,m4,_⟩:=ox (jW (E:=e) e 1 (by omega) (Nat.le_refl _)) (by omega) hnd hr0 rows.length zN [] [] 0 (by omega) (by omega) (re _) rfl (by simp) (fun ns' _ g _=>by simp [gE])
   dsimp only at u1 u2
   unfold bJ at u1 u2 ⊢
   generalize hL:bO (fun ns rs=>bJ e ns rs (0+1)) rows 0 rows.length zN [] [] 0=L at m1 m3 m4 u1 u2 ⊢
   obtain ⟨_,p2,k,p3,p4,p5,p6,_⟩:=uJ (x:=L.2) m1.1 m4
   have hl:=sT L.1 L.2
   have hk:L.1.length≤k:=by
    apply Classical.byContradiction
    intro hlt
    have hlt:k<L.1.length:=by omega
    have h1:=u2 _ (fJ.refl _) (k+1) (by rw [p3];omega)
    rw [p3,po m1.1 p2 _ _ _ (by omega) (by omega)] at h1
    obtain ⟨r,hr⟩:=List.exists_mem_of_ne_nil rows hne
    have h2:=m1.2 k hlt (k+1) (by omega) r (by rw [h1];exact hr)
    have:=hrow r hr
    omega
   rw [p3];omega
theorem tG {n:Nat} {rows:List (List Int)} (hnd:rows.Nodup) (hrow:∀ r∈rows,r.length=n) :
  WFn (dR n rows)∧∀ f:Nat,(dR n rows).length≤f→cY (dR n rows) f (((dR n rows).length:Int)-1) []=rows:=by
 by_cases hne:rows=[]
 ·subst hne
  unfold dR
  rw [if_pos rfl]
  refine ⟨⟨by decide,fun i hi c hc=>?_⟩,fun f hf=>?_⟩
  ·have:i=0∨i=1:=by simp at hi;omega
   rcases this with rfl | rfl <;> simp at hc
  ·simp only [List.length_cons,List.length_nil] at hf
   obtain ⟨g,rfl⟩:∃ g,f=g+1:=⟨f-1,by omega⟩
   rw [cY,if_neg (by simp)]
   simp [gE]
 ·have hF:dR n rows=(bJ n zN rows 0).2:=by unfold dR;rw [if_neg hne];rfl
  rw [hF]
  have hr0:∀ r∈rows,r.length=n∧r.take 0=[]:=fun r hr=>⟨hrow r hr,rfl⟩
  obtain ⟨w1,_,u1,u2⟩:=jW (E:=n) n 0 (by omega) (Nat.le_refl _) zN rows [] (re _) hne hnd hr0
  refine ⟨w1.1,fun f hf=>?_⟩
  have h:=t0 hnd hrow hne
  rw [← h]
  exact u2 _ (fJ.refl _) f (by have:=u1.2;show (bJ n zN rows 0).1<(f:Int);omega)
end Go.Proofs.YtnipkopfefkojaaGreat
namespace Go.Proofs.YtnipkopfefkojaaGreat
open Go.RowKit

theorem B0 {olen:Nat} {nodes:List aS} {far:List Int} (V:VF olen nodes far):∀ (f:Nat) (nd:Int) (pre:List Int),inN nodes nd→nd<f→wN nodes nd=imn 1000000000 ((cY nodes f nd pre).length:Int):=by
 intro f
 induction f with
 | zero=>intro nd pre h hf;have:=h.1;omega
 | succ f ih =>
  intro nd pre h hf
  have h1:=h.1;have h2:=h.2
  rw [cY]
  by_cases h0:nd=0
  ·subst h0
   rw [if_pos rfl];unfold wN;rw [show (0:Int).toNat=0 from rfl,tL nodes _ V.pos];simp [imn]
  ·rw [if_neg h0]
   have hi:nd.toNat<nodes.length:=by omega
   have hl:=V.lens (i:=nd.toNat) (by omega)
   have key:∀ m,m≤(nodes.getD nd.toNat ([],[])).2.length→((nodes.getD nd.toNat ([],[])).2.take m).foldl (jg (iL nodes nd.toNat)) 0 =
     imn 1000000000 ((gE (fun j=>cY nodes f ((nodes.getD nd.toNat ([],[])).2.getD j 0) (pre++[(nodes.getD nd.toNat ([],[])).1.getD j 0])) m).length:Int):=by
    intro m
    induction m with
    | zero=>intro _;simp [gE,imn]
    | succ m ihm =>
     intro hm
     have hj:m<(nodes.getD nd.toNat ([],[])).2.length:=by omega
     obtain ⟨c1,c2⟩:=vY V h hj
     have h4:=ih _ (pre++[(nodes.getD nd.toNat ([],[])).1.getD m 0]) c1 (by omega)
     have hg:(nodes.getD nd.toNat ([],[])).2.getD m 0=(nodes.getD nd.toNat ([],[])).2[m]:=by
      rw [List.getD_eq_getElem?_getD,List.getElem?_eq_getElem hj,Option.getD_some]
     have h5:(iL nodes nd.toNat).getD ((nodes.getD nd.toNat ([],[])).2.getD m 0).toNat 0=wN nodes ((nodes.getD nd.toNat ([],[])).2.getD m 0):=by
      have:=c1.1
      exact (wz nodes nodes.length nd.toNat _ (by omega) (by omega) (by omega)).symm
     rw [List.take_succ_eq_append_getElem hj,List.foldl_append,ihm (by omega),List.foldl_cons,List.foldl_nil,gE,List.length_append]
     rw [← hg]
     unfold jg
     rw [h5,h4]
     unfold imn
     split <;> split <;> split <;> split <;> omega
   have:=key _ (Nat.le_refl _)
   rw [List.take_length] at this
   unfold wN
   rw [pJ nodes nodes.length nd.toNat (by omega) hi,this,hl]
end Go.Proofs.YtnipkopfefkojaaGreat
namespace Go.Proofs.YtnipkopfefkojaaGreat
open Go.RowKit

def nq (ns:List aS):Nat→Int→Int
 | 0,_=>0
 | f+1,nd=>if nd=0 then 0 else nq ns f ((ns.getD nd.toNat ([],[])).2.getD 0 0)+1
def dep (ns:List aS) (nd:Int):Int:=nq ns ns.length nd
theorem rf {ns:List aS} (hw:WFn ns) {k:Nat} (h1:1≤k) (hk:k<ns.length):0≤(ns.getD k ([],[])).2.getD 0 0∧(ns.getD k ([],[])).2.getD 0 0<(k:Int):=by
 by_cases hj:0<(ns.getD k ([],[])).2.length
 ·rw [List.getD_eq_getElem?_getD,List.getElem?_eq_getElem hj,Option.getD_some]
  exact hw.2 k hk _ (List.getElem_mem hj)
 ·rw [List.getD_eq_getElem?_getD,List.getElem?_eq_none (by omega),Option.getD_none]
  omega
theorem w6 {ns ns':List aS} (hw:WFn ns) (hp:fJ ns ns'):∀ (f:Nat) (nd:Int),0≤nd→nd<(ns.length:Int)→nq ns' f nd=nq ns f nd
 | 0,_,_,_=>rfl
 | f+1,nd,h0,h1=>by
  obtain ⟨k,rfl⟩:=Int.eq_ofNat_of_zero_le h0
  rw [nq,nq]
  by_cases hz:(k:Int)=0
  ·rw [if_pos hz,if_pos hz]
  ·have hk:k<ns.length:=by omega
   have:=rf hw (by omega) hk
   rw [if_neg hz,if_neg hz,Int.toNat_natCast,hp.get hk,w6 hw hp f _ this.1 (by omega)]
theorem ra {ns:List aS} (hw:WFn ns):∀ (f f':Nat) (nd:Int),nd<(f:Int)→nd<(f':Int)→0≤nd→nd<(ns.length:Int)→nq ns f nd=nq ns f' nd
 | 0,_,_,h,_,h0,_=>by omega
 | f+1,0,_,_,h,h0,_=>by omega
 | f+1,f'+1,nd,h,h',h0,h1=>by
  obtain ⟨k,rfl⟩:=Int.eq_ofNat_of_zero_le h0
  rw [nq,nq]
  by_cases hz:(k:Int)=0
  ·rw [if_pos hz,if_pos hz]
  ·have hk:k<ns.length:=by omega
   have:=rf hw (by omega) hk
   rw [if_neg hz,if_neg hz,Int.toNat_natCast,ra hw f f' _ (by omega) (by omega) this.1 (by omega)]
theorem rZ {ns ns':List aS} (hw:WFn ns) (hp:fJ ns ns') {nd:Int} (h0:0≤nd) (h1:nd<(ns.length:Int)):dep ns' nd=dep ns nd:=by
 unfold dep
 have:=hp.len
 rw [w6 hw hp _ _ h0 h1,ra hw ns'.length ns.length nd (by omega) h1 h0 h1]
theorem wj {ns:List aS} (hw:WFn ns):dep ns 0=0:=by
 unfold dep
 obtain ⟨g,hg⟩:∃ g,ns.length=g+1:=⟨ns.length-1,by have:=hw.1;omega⟩
 rw [hg,nq,if_pos rfl]
theorem xI {ns:List aS} (hw:WFn ns) {k:Nat} (h1:1≤k) (hk:k<ns.length):dep ns (k:Int)=dep ns ((ns.getD k ([],[])).2.getD 0 0)+1:=by
 have:=rf hw h1 hk
 unfold dep
 obtain ⟨g,hg⟩:∃ g,ns.length=g+1:=⟨ns.length-1,by omega⟩
 rw [hg,nq,if_neg (by omega),Int.toNat_natCast,ra hw g (g+1) _ (by omega) (by omega) this.1 (by omega)]
structure NodeOk (ns:List aS) (i:Nat):Prop where
 lens:(ns.getD i ([],[])).1.length=(ns.getD i ([],[])).2.length
 vals:bi (ns.getD i ([],[])).1=true
 asc:fH (ns.getD i ([],[])).1
 ne:(ns.getD i ([],[])).1≠[]
 chs:∀ c∈(ns.getD i ([],[])).2,dep ns c=dep ns ((ns.getD i ([],[])).2.getD 0 0)
 new:∀ j,1≤j→j<i→ns.getD j ([],[])≠ns.getD i ([],[])
def lU (ns:List aS):Prop:=∀ i,1≤i→i<ns.length→NodeOk ns i
theorem tC {ns:List aS} {x:aS}:∀ f i,lr ns x f i=none→∀ j,i≤j→j<i+f→ns.getD j ([],[])≠x
 | 0,_,_,j,h1,h2=>by omega
 | f+1,i,h,j,h1,h2=>by
  unfold lr at h
  split at h
  ·cases h
  ·rename_i e
   by_cases hj:j=i
   ·rw [hj];exact e
   ·exact tC f (i+1) h j (by omega) (by omega)
theorem A7 {ns:List aS} {x:aS} (hw:WFn ns) (hx:∀ c∈x.2,0≤c∧c<(ns.length:Int)) (ho:lU ns) (h1:x.1.length=x.2.length) (h2:bi x.1=true) (h3:fH x.1) (h4:x.1≠[])
  {e:Int} (h5:∀ c∈x.2,dep ns c=e):lU (fY ns x).2∧dep (fY ns x).2 (fY ns x).1=e+1:=by
 obtain ⟨w,hp,k,p3,p4,p5,p6,_⟩:=uJ hw hx
 have hne:0<x.2.length:=by
  rw [← h1];exact List.length_pos_iff.2 h4
 have hx0:x.2.getD 0 0=x.2[0]:=by rw [List.getD_eq_getElem?_getD,List.getElem?_eq_getElem hne,Option.getD_some]
 have hd:∀ c∈x.2,dep (fY ns x).2 c=e:=fun c hc=>by
  have:=hx c hc
  rw [rZ hw hp this.1 this.2];exact h5 c hc
 refine ⟨?_,by rw [p3,xI w p4 p5,p6,hx0,hd _ (List.getElem_mem hne)]⟩
 revert w hp p3 p4 p5 p6 hd
 unfold fY
 split
 ·exact fun _ _ _ _ _ _ _=>ho
 ·rename_i hf
  intro w hp p3 p4 p5 p6 hd i hi1 hi2
  have hi2:i<(ns++[x]).length:=hi2
  show NodeOk (ns++[x]) i
  by_cases hlt:i<ns.length
  ·have q:=ho i hi1 hlt
   have g:=fJ.get (a:=ns) (b:=ns++[x]) ⟨[x],rfl⟩ hlt
   have c0:=rf hw hi1 hlt
   refine ⟨by rw [g];exact q.lens,by rw [g];exact q.vals,by rw [g];exact q.asc,by rw [g];exact q.ne,fun c hc=>?_,fun j j1 j2=>?_⟩
   ·rw [g] at hc ⊢
    have:=hw.2 i hlt c hc
    rw [rZ hw ⟨[x],rfl⟩ this.1 (by omega),rZ hw ⟨[x],rfl⟩ c0.1 (by omega)]
    exact q.chs c hc
   ·rw [g,fJ.get (a:=ns) (b:=ns++[x]) ⟨[x],rfl⟩ (show j<ns.length by omega)]
    exact q.new j j1 j2
  ·have e1:i=ns.length:=by simp at hi2;omega
   subst e1
   have g:(ns++[x]).getD ns.length ([],[])=x:=by simp
   refine ⟨by rw [g];exact h1,by rw [g];exact h2,by rw [g];exact h3,by rw [g];exact h4,fun c hc=>?_,fun j j1 j2=>?_⟩
   ·rw [g] at hc ⊢
    rw [hd c hc,hx0,hd _ (List.getElem_mem hne)]
   ·rw [g,fJ.get (a:=ns) (b:=ns++[x]) ⟨[x],rfl⟩ j2]
    exact tC _ _ hf j j1 (by omega)
end Go.Proofs.YtnipkopfefkojaaGreat
namespace Go.Proofs.YtnipkopfefkojaaGreat
open Go.RowKit

theorem rC {rows:List (List Int)} {d:Nat} {v:Int}:∀ f k,kv rows d v f k<k+f→(rows.getD (kv rows d v f k) []).getD d 0≠v
 | 0,k,h=>by unfold kv at h;omega
 | f+1,k,h=>by
  unfold kv at h ⊢
  split
  ·rename_i e
   rw [if_pos e] at h
   exact rC f (k+1) (by omega)
  ·rename_i e
   exact e
theorem xk {rows:List (List Int)} {j:Nat} (h:j<rows.length):rows.getD j []=rows[j]:=by
 rw [List.getD_eq_getElem?_getD,List.getElem?_eq_getElem h,Option.getD_some]
theorem tE {rows:List (List Int)} {d i:Nat} (hlt:i<rows.length):(rows.take (dN rows d i)).drop i≠[]:=by
 have hb:=kL (d:=d) hlt
 intro h
 have:=congrArg List.length h
 simp only [List.length_drop,List.length_take,List.length_nil] at this
 omega
theorem rX {rows:List (List Int)} {d i:Nat}:((rows.take (dN rows d i)).drop i).Sublist rows:=(List.drop_sublist _ _).trans (List.take_sublist _ _)
theorem u7 {rows:List (List Int)} {n d i:Nat} {pre:List Int} (hdn:d<n) (hlt:i<rows.length) (hrow:∀ r∈rows,r.length=n∧r.take d=pre):∀ r∈(rows.take (dN rows d i)).drop i,r.length=n∧r.take (d+1)=pre++[(rows.getD i []).getD d 0]:=fun r hm=>by
 have hb:=kL (d:=d) hlt
 obtain ⟨j,hj,rfl⟩:=List.getElem_of_mem hm
 rw [List.getElem_drop,List.getElem_take]
 rw [List.length_drop,List.length_take] at hj
 have h0:=hrow _ (List.getElem_mem (show i+j<rows.length by omega))
 have hv:=sS (rows:=rows) (d:=d) (v:=(rows.getD i []).getD d 0) (rows.length-i) i (i+j) (by omega) (by show i+j<dN rows d i;omega)
 rw [List.getD_eq_getElem?_getD (l:=rows),List.getElem?_eq_getElem (show i+j<rows.length by omega),Option.getD_some] at hv
 refine ⟨h0.1,?_⟩
 have hdl:d<(rows[i+j]'(by omega)).length:=by omega
 rw [List.take_succ_eq_append_getElem hdl,h0.2]
 rw [List.getD_eq_getElem?_getD (l:=rows[i+j]'(by omega)),List.getElem?_eq_getElem hdl,Option.getD_some] at hv
 rw [hv]
theorem rR {rows:List (List Int)} {n d:Nat} {pre:List Int} (hdn:d<n) (ha:fm rows) (hrow:∀ r∈rows,r.length=n∧r.take d=pre) {i j:Nat} (h:i≤j) (hj:j<rows.length):(rows.getD i []).getD d 0≤(rows.getD j []).getD d 0:=by
 by_cases e:i=j
 ·rw [e];exact Int.le_refl _
 ·rw [xk hj,xk (show i<rows.length by omega)]
  have h1:=hrow _ (List.getElem_mem (show i<rows.length by omega))
  have h2:=hrow _ (List.getElem_mem hj)
  exact uO d _ _ (h1.2.trans h2.2.symm) (by omega) (by omega) (List.pairwise_iff_getElem.1 ha i j (by omega) hj (by omega))
def AB (E:Nat) (rec:List aS→List (List Int)→Int × List aS) (n d:Nat):Prop :=
 ∀ ns rs pre,WFd E ns→lU ns→rs≠[]→fm rs→(∀ r∈rs,r.length=n∧r.take d=pre)→(∀ r∈rs,bi r=true)→lU (rec ns rs).2∧dep (rec ns rs).2 (rec ns rs).1=((n-d:Nat):Int)
theorem Ew {r:List Int} {d:Nat} (h:bi r=true) (hd:d<r.length):inR (r.getD d 0) 0 99=true:=by
 rw [List.getD_eq_getElem?_getD,List.getElem?_eq_getElem hd,Option.getD_some]
 exact List.all_eq_true.1 h _ (List.getElem_mem hd)
theorem vp {E:Nat} {rec:List aS→List (List Int)→Int × List aS} {n d:Nat} (hr:wr E rec n (d+1)) (hq:AB E rec n (d+1)) (hdn:d<n) {rows:List (List Int)} {pre:List Int} (ha:fm rows) (hnd:rows.Nodup)
  (hrow:∀ r∈rows,r.length=n∧r.take d=pre) (hvv:∀ r∈rows,bi r=true) :
  ∀ f ns vals chs i,WFd E ns→lU ns→(∀ c∈chs,(0≤c∧c<(ns.length:Int))∧dep ns c=((n-d-1:Nat):Int))→fH vals→bi vals=true→(∀ v∈vals,∀ j,i≤j→j<rows.length→v<(rows.getD j []).getD d 0) →
   lU (bO rec rows d f ns vals chs i).1∧(∀ c∈(bO rec rows d f ns vals chs i).2.2,dep (bO rec rows d f ns vals chs i).1 c=((n-d-1:Nat):Int)) ∧
   fH (bO rec rows d f ns vals chs i).2.1∧bi (bO rec rows d f ns vals chs i).2.1=true
 | 0,ns,vals,chs,i,hw,ho,hc,hv,hvl,hb=>by
  unfold bO
  exact ⟨ho,fun c h=>(hc c h).2,hv,hvl⟩
 | f+1,ns,vals,chs,i,hw,ho,hc,hv,hvl,hb=>by
  unfold bO
  split
  ·rename_i hlt
   have hgb:=kL (d:=d) hlt
   obtain ⟨k1,k2,k3,_⟩:=hr ns _ _ hw (tE (d:=d) hlt) (hnd.sublist rX) (u7 hdn hlt hrow)
   obtain ⟨q1,q2⟩:=hq ns _ _ hw ho (tE (d:=d) hlt) (List.Pairwise.sublist rX ha) (u7 hdn hlt hrow) (fun r hr'=>hvv r (rX.subset hr'))
   refine vp hr hq hdn ha hnd hrow hvv f _ _ _ _ k1 q1 (fun c hc'=>?_) ?_ ?_ (fun v hv' j h1 h2=>?_)
   ·rcases List.mem_append.1 hc' with h | h
    ·have h3:=hc c h
     refine ⟨⟨h3.1.1,by have:=k2.len;omega⟩,?_⟩
     rw [rZ hw.1 k2 h3.1.1 h3.1.2];exact h3.2
    ·rw [List.mem_singleton] at h;subst h
     exact ⟨k3,q2⟩
   ·refine List.pairwise_append.2 ⟨hv,List.pairwise_singleton _ _,fun a h1 b h2=>?_⟩
    rw [List.mem_singleton] at h2;subst h2
    exact hb a h1 i (Nat.le_refl _) hlt
   ·unfold bi
    rw [List.all_append,Bool.and_eq_true]
    refine ⟨hvl,?_⟩
    rw [List.all_cons,List.all_nil,Bool.and_true,xk hlt]
    exact Ew (hvv _ (List.getElem_mem hlt)) (by have:=hrow _ (List.getElem_mem hlt);omega)
   ·rcases List.mem_append.1 hv' with h | h
    ·exact hb v h j (by omega) h2
    ·rw [List.mem_singleton] at h;subst h
     have hs:=rC (rows:=rows) (d:=d) (v:=(rows.getD i []).getD d 0) (rows.length-i) i (by show dN rows d i<_;omega)
     have hs:(rows.getD (dN rows d i) []).getD d 0≠(rows.getD i []).getD d 0:=hs
     have l1:=rR hdn ha hrow (show i≤dN rows d i by omega) (by omega)
     have l2:=rR hdn ha hrow h1 h2
     omega
  ·exact ⟨ho,fun c h=>(hc c h).2,hv,hvl⟩
theorem ug {E n:Nat}:∀ (e d:Nat),d+e=n→e≤E→AB E (fun ns rs=>bJ e ns rs d) n d
 | 0,d,hd,_=>fun ns rs pre hw ho hne ha hrow hvv=>by
  refine ⟨ho,?_⟩
  show dep ns 0=_
  rw [wj hw.1,show n-d=0 by omega];rfl
 | e+1,d,hd,hE=>fun ns rs pre hw ho hne ha hrow hvv=>by
  have hnd:=mo ha
  obtain ⟨m1,m2,m3,m4,m5⟩:=ox (jW (E:=E) e (d+1) (by omega) (by omega)) (by omega) hnd hrow rs.length ns [] [] 0 (by omega) (by omega) hw rfl (by simp) (fun ns' _ g _=>by simp [gE])
  obtain ⟨v1,v2,v3,v4⟩:=vp (jW (E:=E) e (d+1) (by omega) (by omega)) (ug e (d+1) (by omega) (by omega)) (by omega) ha hnd hrow hvv rs.length ns [] [] 0 hw ho (by simp) List.Pairwise.nil rfl (by simp)
  show lU (bJ (e+1) ns rs d).2∧dep (bJ (e+1) ns rs d).2 (bJ (e+1) ns rs d).1=_
  unfold bJ
  generalize hL:bO (fun ns rs=>bJ e ns rs (d+1)) rs d rs.length ns [] [] 0=L at m1 m2 m3 m4 m5 v1 v2 v3 v4 ⊢
  have h4:L.2.1≠[]:=by
   intro h
   obtain ⟨g,hg⟩:∃ g:Nat,∀ c∈L.2.2,c<(g:Int):=⟨L.1.length,fun c hc=>(m4 c hc).2⟩
   have:=m5 L.1 (fJ.refl _) g hg
   rw [h] at this
   exact hne this.symm
  obtain ⟨p1,p2⟩:=A7 (x:=L.2) m1.1 m4 v1 m3 v4 v3 h4 v2
  exact ⟨p1,by rw [p2];omega⟩
end Go.Proofs.YtnipkopfefkojaaGreat
namespace Go.Proofs.YtnipkopfefkojaaGreat
open Go.RowKit

def nv (nodes:List aS) (i:Nat):List Int:=(List.range i).map fun k:Nat=>dep nodes (k:Int)
theorem qq {nodes:List aS} {i:Nat} {c:Int} (h0:0≤c) (h1:c<(i:Int)):(nv nodes i).getD c.toNat 0=dep nodes c:=by
 obtain ⟨k,rfl⟩:=Int.eq_ofNat_of_zero_le h0
 have hk:k<i:=by omega
 unfold nv
 rw [Int.toNat_natCast,List.getD_eq_getElem?_getD,List.getElem?_map,List.getElem?_range hk];rfl
theorem Af (nodes:List aS) (i:Nat):nv nodes (i+1)=nv nodes i++[dep nodes (i:Int)]:=by
 unfold nv;rw [List.range_succ,List.map_append];rfl
theorem Bh {nodes:List aS} {olen:Nat} (hw:WFn nodes) {i:Nat} (h1:1≤i) (hi:i<nodes.length) (ho:NodeOk nodes i):lW nodes olen (nv nodes i) i (nodes.getD i ([],[]))=some (dep nodes (i:Int)):=by
 have c0:=rf hw h1 hi
 have hne:0<(nodes.getD i ([],[])).1.length:=List.length_pos_iff.2 ho.ne
 unfold lW
 rw [decide_eq_true ho.lens,ho.vals,s6 ho.asc,decide_eq_false (show ¬ (nodes.getD i ([],[])).1.length=0 by omega)]
 have ha:(List.range' 0 (nodes.getD i ([],[])).2.length).all (kV (nv nodes i) i (nodes.getD i ([],[])).2)=true:=by
  refine List.all_eq_true.2 fun j hj=>?_
  have hj:j<(nodes.getD i ([],[])).2.length:=by simpa using hj
  have hg:(nodes.getD i ([],[])).2.getD j 0=(nodes.getD i ([],[])).2[j]:=by rw [List.getD_eq_getElem?_getD,List.getElem?_eq_getElem hj,Option.getD_some]
  have hc:=hw.2 i hi _ (List.getElem_mem hj)
  unfold kV
  rw [hg,dk.2 (by omega),qq hc.1 hc.2,qq c0.1 c0.2,decide_eq_true (ho.chs _ (List.getElem_mem hj))];rfl
 have hn:mA nodes i (nodes.getD i ([],[]))=true:=by
  unfold mA
  refine List.all_eq_true.2 fun m hm=>?_
  obtain ⟨j,hj,rfl⟩:=List.getElem_of_mem hm
  rw [List.getElem_drop,List.getElem_take]
  rw [List.length_drop,List.length_take] at hj
  have:=ho.new (1+j) (by omega) (by omega)
  rw [lQ (show 1+j<nodes.length by omega)] at this
  rw [decide_eq_false this];rfl
 rw [ha,hn]
 show some _=some _
 rw [qq c0.1 c0.2,xI hw h1 hi]
theorem tV {nodes:List aS} {olen:Nat} (hw:WFn nodes) (ho:lU nodes):∀ m i,i+m=nodes.length→1≤i→e9 (dD nodes olen) m i (nv nodes i)=.inr (nv nodes nodes.length)
 | 0,i,h,_=>by rw [e9,show i=nodes.length by omega]
 | m+1,i,h,h1=>by
  have e:dD nodes olen i (nv nodes i)=.inr (nv nodes (i+1)):=by
   unfold dD kR
   rw [Bh hw h1 (by omega) (ho i h1 (by omega)),Af]
  rw [e9,e]
  exact tV hw ho m (i+1) (by omega) (by omega)
theorem Aw {order:List Int} {nodes:List aS} (hp:ep order=true) (hl:nodes.length≤4000) (hz:nodes.getD 0 ([],[])=([],[])) (hw:WFn nodes) (ho:lU nodes) (hd:dep nodes ((nodes.length:Int)-1)=(order.length:Int)):iJ order nodes=true:=by
 have h1:=hw.1
 unfold iJ
 have e:[0]=nv nodes 1:=by
  show [0]=[dep nodes ((0:Nat):Int)]
  rw [show ((0:Nat):Int)=0 from rfl,wj hw]
 rw [hp,hz,dk.2 (show (1:Int)≤nodes.length∧(nodes.length:Int)≤4000 by omega),e,tV hw ho _ 1 (by omega) (Nat.le_refl _)]
 have hg:=qq (nodes:=nodes) (i:=nodes.length) (c:=(nodes.length:Int)-1) (by omega) (by omega)
 rw [show ((nodes.length:Int)-1).toNat=nodes.length-1 by omega,hd] at hg
 dsimp only
 rw [decide_eq_true hg];rfl
end Go.Proofs.YtnipkopfefkojaaGreat
namespace Go.Proofs.YtnipkopfefkojaaGreat
open Go.RowKit

theorem DY:lU zN:=fun i h1 h2=>by simp [zN] at h2;omega
theorem x4 {n:Nat} {rows:List (List Int)} (hne:rows≠[]) (ha:fm rows) (hrow:∀ r∈rows,r.length=n) (hvv:∀ r∈rows,bi r=true) :
  lU (dR n rows)∧dep (dR n rows) (((dR n rows).length:Int)-1)=(n:Int)∧(dR n rows).getD 0 ([],[])=([],[]):=by
 have hr0:∀ r∈rows,r.length=n∧r.take 0=[]:=fun r hr=>⟨hrow r hr,rfl⟩
 have hF:dR n rows=(bJ n zN rows 0).2:=by unfold dR;rw [if_neg hne];rfl
 obtain ⟨v1,v2⟩:=ug (E:=n) n 0 (by omega) (Nat.le_refl _) zN rows [] (re _) DY hne ha hr0 hvv
 obtain ⟨w1,w2,_⟩:=jW (E:=n) n 0 (by omega) (Nat.le_refl _) zN rows [] (re _) hne (mo ha) hr0
 have hroot:=t0 (mo ha) hrow hne
 rw [hF]
 refine ⟨v1,?_,?_⟩
 ·rw [← hroot];exact v2
 ·exact (w2.get (i:=0) (by decide)).trans rfl
theorem sF {n:Nat} {rows:List (List Int)} (ha:fm rows) (hrow:∀ r∈rows,r.length=n) (hvv:∀ r∈rows,bi r=true) (hl:(dR n rows).length≤4000) {order:List Int} (hp:ep order=true) (ho:order.length=n):iJ order (dR n rows)=true:=by
 by_cases hne:rows=[]
 ·subst hne
  unfold dR
  rw [if_pos rfl]
  simp [iJ,hp,e9,dD,kR,lW,bi,asc,inR]
 ·obtain ⟨h1,h2,h3⟩:=x4 hne ha hrow hvv
  exact Aw hp hl h3 (tG (mo ha) hrow).1 h1 (by rw [h2,ho])
theorem wM {n:Nat} {rows:List (List Int)} (ha:fm rows) (hrow:∀ r∈rows,r.length=n) (hvv:∀ r∈rows,bi r=true) (hl:(dR n rows).length≤4000) (hrl:rows.length≤4000) {order:List Int} (hp:ep order=true) (ho:order.length=n) :
  sd order (dR n rows)=(((n:Int),rows),true)∧kq order (dR n rows)=(rows.length:Int):=by
 have hv:=sF ha hrow hvv hl hp ho
 obtain ⟨hw,hr⟩:=tG (mo ha) hrow
 obtain ⟨far,V⟩:=zg hv
 have h1:=hw.1
 have hc:kq order (dR n rows)=(rows.length:Int):=by
  rw [sI hv,B0 V (dR n rows).length _ [] ⟨by omega,by omega⟩ (by omega),hr _ (Nat.le_refl _)]
  unfold imn
  split <;> omega
 refine ⟨?_,hc⟩
 unfold sd
 rw [hv,hc,decide_eq_false (show ¬ (4000:Int)<(rows.length:Int) by omega),hr _ (Nat.le_refl _),ho];rfl
end Go.Proofs.YtnipkopfefkojaaGreat
namespace Go.Proofs.YtnipkopfefkojaaGreat
open Go.RowKit

abbrev nX:=Int × List aY × List Int
def QGd (q:nX):Prop:=(1≤q.1∧q.1≤5)∧(1≤q.2.1.length∧q.2.1.length≤4)∧(∀ a∈q.2.1,a.1.size≤4∧1≤a.2.length∧a.2.length≤5)∧q.2.2.length≤5
def QSm (q:nX):Prop:=(0≤q.1∧q.1≤6)∧q.2.1.length≤5∧(∀ a∈q.2.1,a.1.size≤4∧a.2.length≤5)∧q.2.2.length≤6
theorem QGd.sm {q:nX} (h:QGd q):QSm q:=⟨⟨by have:=h.1;omega,by have:=h.1;omega⟩,by have:=h.2.1;omega,fun a ha=>⟨(h.2.2.1 a ha).1,(h.2.2.1 a ha).2.2⟩,by have:=h.2.2.2;omega⟩
theorem QSm.atoms {q:nX} (h:QSm q):cW q.2.1:=⟨by have:=h.2.1;omega,fun a ha=>⟨by have:=(h.2.2.1 a ha).1;omega,by have:=(h.2.2.1 a ha).2;omega,fun _ _=>trivial⟩⟩
theorem QSm.out {q:nX} (h:QSm q):okI q.2.2:=⟨by have:=h.2.2.2;omega,fun _ _=>trivial⟩
section
variable {N:Nat}
abbrev zS:List ByteArray:=[(⟨#[40,88,89,90,41,61,114,40,88,89,41,44,115,40,89,90,41,44,116,40,90,88,41]⟩:ByteArray),(⟨#[40,88,89,90,85,41,61,114,40,88,89,41,44,115,40,89,90,41,44,116,40,90,85,41,44,117,40,85,88,41]⟩:ByteArray),(⟨#[40,88,89,90,41,61,114,40,88,89,41,44,115,40,89,90,41]⟩:ByteArray),(⟨#[40,88,41,61,114,40,88,89,41,44,115,40,89,90,41,44,116,40,90,85,41]⟩:ByteArray),(⟨#[40,88,89,90,41,61,118,40,88,89,90,41,44,114,40,88,89,41]⟩:ByteArray),(⟨#[40,88,89,41,61,114,40,88,89,41,44,114,40,89,88,41]⟩:ByteArray),(⟨#[40,88,89,90,85,41,61,118,40,88,89,90,41,44,115,40,90,85,41,44,116,40,85,88,41]⟩:ByteArray),(⟨#[40,88,41,61,114,40,88,88,41]⟩:ByteArray),(⟨#[40,88,89,41,61,114,40,88,90,41,44,115,40,90,89,41,44,114,40,88,85,41,44,115,40,85,89,41]⟩:ByteArray),(⟨#[40,41,61,114,40,88,89,41,44,115,40,89,88,41]⟩:ByteArray),(⟨#[40,88,89,90,85,86,41,61,114,40,88,89,41,44,115,40,89,90,41,44,116,40,90,85,41,44,117,40,85,86,41]⟩:ByteArray)]
theorem BW (M:Nat):cw (M+100) (⟨#[40,88,89,90,41,61,114,40,88,89,41,44,115,40,89,90,41,44,116,40,90,88,41]⟩:ByteArray)=some ((3,[((⟨#[114]⟩:ByteArray),[0,1]),((⟨#[115]⟩:ByteArray),[1,2]),((⟨#[116]⟩:ByteArray),[2,0])],[0,1,2]),true):=by kernel_rfl
theorem CJ (M:Nat):cw (M+100) (⟨#[40,88,89,90,85,41,61,114,40,88,89,41,44,115,40,89,90,41,44,116,40,90,85,41,44,117,40,85,88,41]⟩:ByteArray)=some ((4,[((⟨#[114]⟩:ByteArray),[0,1]),((⟨#[115]⟩:ByteArray),[1,2]),((⟨#[116]⟩:ByteArray),[2,3]),((⟨#[117]⟩:ByteArray),[3,0])],[0,1,2,3]),true):=by kernel_rfl
theorem Cl (M:Nat):cw (M+100) (⟨#[40,88,89,90,41,61,114,40,88,89,41,44,115,40,89,90,41]⟩:ByteArray)=some ((3,[((⟨#[114]⟩:ByteArray),[0,1]),((⟨#[115]⟩:ByteArray),[1,2])],[0,1,2]),true):=by kernel_rfl
theorem CL (M:Nat):cw (M+100) (⟨#[40,88,41,61,114,40,88,89,41,44,115,40,89,90,41,44,116,40,90,85,41]⟩:ByteArray)=some ((4,[((⟨#[114]⟩:ByteArray),[0,1]),((⟨#[115]⟩:ByteArray),[1,2]),((⟨#[116]⟩:ByteArray),[2,3])],[0]),true):=by kernel_rfl
theorem CD (M:Nat):cw (M+100) (⟨#[40,88,89,90,41,61,118,40,88,89,90,41,44,114,40,88,89,41]⟩:ByteArray)=some ((3,[((⟨#[118]⟩:ByteArray),[0,1,2]),((⟨#[114]⟩:ByteArray),[0,1])],[0,1,2]),true):=by kernel_rfl
theorem BT (M:Nat):cw (M+100) (⟨#[40,88,89,41,61,114,40,88,89,41,44,114,40,89,88,41]⟩:ByteArray)=some ((2,[((⟨#[114]⟩:ByteArray),[0,1]),((⟨#[114]⟩:ByteArray),[1,0])],[0,1]),true):=by kernel_rfl
theorem CM (M:Nat):cw (M+100) (⟨#[40,88,89,90,85,41,61,118,40,88,89,90,41,44,115,40,90,85,41,44,116,40,85,88,41]⟩:ByteArray)=some ((4,[((⟨#[118]⟩:ByteArray),[0,1,2]),((⟨#[115]⟩:ByteArray),[2,3]),((⟨#[116]⟩:ByteArray),[3,0])],[0,1,2,3]),true):=by kernel_rfl
theorem B9 (M:Nat):cw (M+100) (⟨#[40,88,41,61,114,40,88,88,41]⟩:ByteArray)=some ((1,[((⟨#[114]⟩:ByteArray),[0,0])],[0]),true):=by kernel_rfl
theorem CX (M:Nat):cw (M+100) (⟨#[40,88,89,41,61,114,40,88,90,41,44,115,40,90,89,41,44,114,40,88,85,41,44,115,40,85,89,41]⟩:ByteArray)=some ((4,[((⟨#[114]⟩:ByteArray),[0,2]),((⟨#[115]⟩:ByteArray),[2,1]),((⟨#[114]⟩:ByteArray),[0,3]),((⟨#[115]⟩:ByteArray),[3,1])],[0,1]),true):=by kernel_rfl
theorem Cv (M:Nat):cw (M+100) (⟨#[40,41,61,114,40,88,89,41,44,115,40,89,88,41]⟩:ByteArray)=some ((2,[((⟨#[114]⟩:ByteArray),[0,1]),((⟨#[115]⟩:ByteArray),[1,0])],[]),true):=by kernel_rfl
theorem BB (M:Nat):cw (M+100) (⟨#[40,88,89,90,85,86,41,61,114,40,88,89,41,44,115,40,89,90,41,44,116,40,90,85,41,44,117,40,85,86,41]⟩:ByteArray)=some ((5,[((⟨#[114]⟩:ByteArray),[0,1]),((⟨#[115]⟩:ByteArray),[1,2]),((⟨#[116]⟩:ByteArray),[2,3]),((⟨#[117]⟩:ByteArray),[3,4])],[0,1,2,3,4]),true):=by kernel_rfl
theorem xV (hN:1073741824≤N):∀ s∈zS,∃ q,cw N s=some (q,true)∧QGd q:=by
 obtain ⟨M,rfl⟩:∃ M,N=M+100:=⟨N-100,by omega⟩
 intro s hs
 simp only [List.mem_cons,List.not_mem_nil,or_false] at hs
 rcases hs with rfl | rfl | rfl | rfl | rfl | rfl | rfl | rfl | rfl | rfl | rfl
 ·exact ⟨_,BW M,by unfold QGd;decide⟩
 ·exact ⟨_,CJ M,by unfold QGd;decide⟩
 ·exact ⟨_,Cl M,by unfold QGd;decide⟩
 ·exact ⟨_,CL M,by unfold QGd;decide⟩
 ·exact ⟨_,CD M,by unfold QGd;decide⟩
 ·exact ⟨_,BT M,by unfold QGd;decide⟩
 ·exact ⟨_,CM M,by unfold QGd;decide⟩
 ·exact ⟨_,B9 M,by unfold QGd;decide⟩
 ·exact ⟨_,CX M,by unfold QGd;decide⟩
 ·exact ⟨_,Cv M,by unfold QGd;decide⟩
 ·exact ⟨_,BB M,by unfold QGd;decide⟩
theorem oO {a:List Int} {l:List ByteArray} (ha:eQ a) {p h:Int} (hc:cy a p) (hl:0<l.length):∃ x q g,jj N a p h l=some (x,q,g)∧x∈l∧cy a q:=by
 obtain ⟨x,q,g,e,b0,b1,_,hc'⟩:=cx (N:=N) ha (h:=h) (n:=(l.length:Int)) hc
 have b2:=b1 (by omega)
 unfold jj
 rw [e,bs]
 dsimp only
 rw [ia b0 b2,bs]
 exact ⟨_,_,_,rfl,List.getElem_mem _,hc'⟩
theorem mX {a:List Int} (ha:eQ a) {p h n:Int} (hc:cy a p):∃ b q g,iv N a p h n=some (b,q,g)∧cy a q:=by
 obtain ⟨x,q,g,e,_,_,_,hc'⟩:=cx (N:=N) ha (h:=h) (n:=n) hc
 unfold iv
 rw [e,bs]
 exact ⟨_,_,_,rfl,hc'⟩
theorem zm {a:List Int} (ha:eQ a) {z1 z7 z9 n:Int} {z2 z5 z8:List aY} {z3 z6 z10:List Int} {s:ByteArray}:∀ (d k:Nat) (acc:List Int) (p h m:Int),cy a p→m.toNat=d→m≤10→d<k→acc.length+d≤100 →
  ∃ q g vs m',gX N k a p h z1 z2 z3 z7 z5 z6 n z8 z10 z9 s acc m=some (q,g,vs,m')∧cy a q∧vs.length=acc.length+d:=by
 intro d
 induction d with
 | zero =>
  intro k acc p h m hc hd _ hk _
  obtain ⟨k,rfl⟩:∃ g,k=g+1:=⟨k-1,by omega⟩
  rw [gX,decide_eq_false (show ¬ 0<m by omega),cond_false]
  exact ⟨_,_,_,_,rfl,hc,by omega⟩
 | succ d ih =>
  intro k acc p h m hc hd hm hk hl
  obtain ⟨k,rfl⟩:∃ g,k=g+1:=⟨k-1,by omega⟩
  obtain ⟨x,q,g,e,_,_,_,hc'⟩:=cx (N:=N) ha (h:=h) (n:=n) hc
  rw [gX,decide_eq_true (show 0<m by omega),cond_true,e,bs]
  dsimp only
  rw [bu (by decide) (by simp;omega),bs,dU (by omega) (by omega),bs]
  obtain ⟨q',g',vs,m',e',k1,k2⟩:=ih k (acc++[x]) q g (m-1) hc' (by omega) (by omega) (by omega) (by simp;omega)
  exact ⟨q',g',vs,m',e',k1,by simp at k2;omega⟩
theorem zn (hN:1073741824≤N) {a:List Int} (ha:eQ a) {z1 z4 n:Int} {z2 z5:List aY} {z3 z6 z7:List Int}:∀ (d k:Nat) (acc:List aY) (p h m:Int),cy a p→m.toNat=d→m≤10→d<k→acc.length+d≤100→(∀ x∈acc,x.1.size≤4∧1≤x.2.length∧x.2.length≤5) →
  ∃ q g ats m',g9 N k a p h z1 z2 z3 z4 z5 z6 n acc z7 m=some (q,g,ats,m')∧cy a q∧ats.length=acc.length+d∧∀ x∈ats,x.1.size≤4∧1≤x.2.length∧x.2.length≤5:=by
 intro d
 induction d with
 | zero =>
  intro k acc p h m hc hd _ hk _ hx
  obtain ⟨k,rfl⟩:∃ g,k=g+1:=⟨k-1,by omega⟩
  rw [g9,decide_eq_false (show ¬ 0<m by omega),cond_false]
  exact ⟨_,_,_,_,rfl,hc,by omega,hx⟩
 | succ d ih =>
  intro k acc p h m hc hd hm hk hl hx
  obtain ⟨k,rfl⟩:∃ g,k=g+1:=⟨k-1,by omega⟩
  obtain ⟨x,q,g,e,b0,b1,_,hc'⟩:=cx (N:=N) ha (h:=h) (n:=5) hc
  have b1:=b1 (by decide)
  rw [g9,decide_eq_true (show 0<m by omega),cond_true,e,bs]
  dsimp only
  have hi:x<(([(⟨#[114]⟩:ByteArray),(⟨#[115]⟩:ByteArray),(⟨#[116]⟩:ByteArray),(⟨#[117]⟩:ByteArray),(⟨#[118]⟩:ByteArray)]:List ByteArray).length:Int):=b1
  rw [ia b0 hi,bs,Eo b0 (by decide) (by omega),bs]
  have ht:0≤x.tdiv 4∧x.tdiv 4≤1:=by
   rw [Int.tdiv_eq_ediv_of_nonneg b0];omega
  rw [gZ (by omega) (by omega),bs]
  have hs:∀ s∈([(⟨#[114]⟩:ByteArray),(⟨#[115]⟩:ByteArray),(⟨#[116]⟩:ByteArray),(⟨#[117]⟩:ByteArray),(⟨#[118]⟩:ByteArray)]:List ByteArray),s.size≤4:=by decide
  have hs':=hs _ (List.getElem_mem (l:=([(⟨#[114]⟩:ByteArray),(⟨#[115]⟩:ByteArray),(⟨#[116]⟩:ByteArray),(⟨#[117]⟩:ByteArray),(⟨#[118]⟩:ByteArray)]:List ByteArray)) (n:=x.toNat) (by omega))
  obtain ⟨q',g',vs,m',e',k1,k2⟩:=zm (N:=N) ha (z1:=z1) (z2:=z2) (z3:=z3) (z7:=z4) (z5:=z5) (z6:=z6) (n:=n) (z8:=acc) (z10:=z7) (z9:=m) (s:=([(⟨#[114]⟩:ByteArray),(⟨#[115]⟩:ByteArray),(⟨#[116]⟩:ByteArray),(⟨#[117]⟩:ByteArray),(⟨#[118]⟩:ByteArray)]:List ByteArray)[x.toNat]) (2+x.tdiv 4).toNat N [] q g (2+x.tdiv 4) hc' rfl (by omega) (by omega) (by simp;omega)
  rw [e',bs]
  unfold lpB
  dsimp only
  rw [bu (by decide) (by simp;omega),bs,dU (by omega) (by omega),bs]
  simp only [List.length_nil,Nat.zero_add] at k2
  obtain ⟨q2,g2,ats,m2,e2,j1,j2,j3⟩:=ih k (acc++[(_,vs)]) q' g' (m-1) k1 (by omega) (by omega) (by omega) (by simp;omega) (fun y hy=>by
   rcases List.mem_append.1 hy with h | h
   ·exact hx y h
   ·rw [List.mem_singleton] at h;rw [h]
    exact ⟨hs',by show 1≤vs.length;omega,by show vs.length≤5;omega⟩)
  exact ⟨q2,g2,ats,m2,e2,j1,by simp at j2;omega,j3⟩
theorem zq {a:List Int} (ha:eQ a) {z1 z4:Int} {n:Nat} {z2 z5 z8:List aY} {z3 z6:List Int} (hn:n≤10):∀ (d k:Nat) (acc:List Int) (p h:Int) (i:Nat),cy a p→i+d=n→d<k→acc.length≤i →
  ∃ q g out v,fv N k a p h z1 z2 z3 z4 z5 z6 (n:Int) z8 acc (i:Int)=some (q,g,out,v)∧cy a q∧out.length≤n:=by
 intro d
 induction d with
 | zero =>
  intro k acc p h i hc hd hk hl
  obtain ⟨k,rfl⟩:∃ g,k=g+1:=⟨k-1,by omega⟩
  rw [fv,decide_eq_false (show ¬ (i:Int)<(n:Int) by omega),cond_false]
  exact ⟨_,_,_,_,rfl,hc,by omega⟩
 | succ d ih =>
  intro k acc p h i hc hd hk hl
  obtain ⟨k,rfl⟩:∃ g,k=g+1:=⟨k-1,by omega⟩
  obtain ⟨b,q,g,e,hc'⟩:=mX (N:=N) ha (h:=h) (n:=2) hc
  rw [fv,decide_eq_true (show (i:Int)<(n:Int) by omega),cond_true,e,bs]
  dsimp only
  cases b with
  | true =>
   rw [cond_true,bu (by decide) (by simp;omega),bs,ad1 (by omega),bs]
   exact ih k _ q g (i+1) hc' (by omega) (by omega) (by simp;omega)
  | false =>
   rw [cond_false,ad1 (by omega),bs]
   exact ih k _ q g (i+1) hc' (by omega) (by omega) (by omega)
theorem rF (hN:1073741824≤N) {a:List Int} (ha:eQ a) {p h:Int} (hc:cy a p):∃ r q g,jK N a p h=some (r,q,g)∧cy a q∧QGd r:=by
 unfold jK
 obtain ⟨s,q,g,e,hs,hc1⟩:=oO (N:=N) ha (h:=h) (l:=zS) hc (by decide)
 obtain ⟨r,er,hr⟩:=xV hN s hs
 rw [e,bs]
 dsimp only
 rw [er,bs]
 obtain ⟨b,q2,g2,e2,hc2⟩:=mX (N:=N) ha (h:=g) (n:=3) hc1
 rw [e2,bs]
 dsimp only
 cases b with
 | false=>rw [cond_false];exact ⟨_,_,_,rfl,hc2,hr⟩
 | true =>
  obtain ⟨x,q3,g3,e3,b0,b1,_,hc3⟩:=cx (N:=N) ha (h:=g2) (n:=4) hc2
  have b1:=b1 (by decide)
  rw [cond_true,e3,bs]
  dsimp only
  obtain ⟨y,q4,g4,e4,c0,c1,_,hc4⟩:=cx (N:=N) ha (h:=g3) (n:=4) hc3
  have c1:=c1 (by decide)
  rw [gZ (by omega) (by omega),bs,e4,bs]
  dsimp only
  rw [gZ (by omega) (by omega),bs]
  obtain ⟨q5,g5,ats,m5,e5,hc5,l5,a5⟩:=zn hN ha (z1:=0) (z2:=[]) (z3:=[]) (z4:=r.1) (z5:=r.2.1) (z6:=r.2.2) (n:=1+x) (z7:=[]) (1+y).toNat N [] q4 g4 (1+y) hc4 rfl (by omega) (by omega) (by simp;omega) (by simp)
  rw [e5,bs]
  unfold lpB
  dsimp only
  have hx:((x.toNat+1:Nat):Int)=1+x:=by omega
  obtain ⟨q6,g6,out,v6,e6,hc6,l6⟩:=zq (N:=N) ha (z1:=0) (z2:=[]) (z3:=[]) (z4:=r.1) (z5:=r.2.1) (z6:=r.2.2) (n:=x.toNat+1) (z8:=ats) (by omega) (x.toNat+1) N [] q5 g5 0 hc5 (by omega) (by omega) (by simp)
  rw [hx] at e6
  have e6':fv N N a q5 g5 0 [] [] r.1 r.2.1 r.2.2 (1+x) ats [] 0=some (q6,g6,out,v6):=e6
  simp only [List.length_nil,Nat.zero_add] at l5
  have hq:QGd (1+x,ats,out):=⟨⟨by show 1≤1+x;omega,by show 1+x≤5;omega⟩,⟨by show 1≤ats.length;omega,by show ats.length≤4;omega⟩,a5,by show out.length≤5;omega⟩
  rw [e6',bs]
  dsimp only
  rw [ip hN (QSm.atoms hq.sm) (QSm.out hq.sm),bs]
  cases eM (1+x) ats out with
  | true=>rw [cond_true];exact ⟨_,_,_,rfl,hc6,hq⟩
  | false=>rw [cond_false];exact ⟨_,_,_,rfl,hc6,hr⟩
theorem yX (hN:1073741824≤N) {a:List Int} (ha:eQ a) {p h:Int} (hc:cy a p):∃ r q g,mh N a p h=some (r,q,g)∧cy a q∧QSm r:=by
 obtain ⟨⟨n,ats,out⟩,q,g,e,hc1,hr⟩:=rF hN ha (h:=h) hc
 obtain ⟨x,q2,g2,e2,_,_,_,hc2⟩:=cx (N:=N) ha (h:=g) (n:=14) hc1
 unfold mh
 rw [e,bs]
 dsimp only
 rw [e2,bs]
 dsimp only
 have hn:=hr.1;have ha1:=hr.2.1;have ha2:=hr.2.2.1;have ho:=hr.2.2.2
 dsimp only at hn ha1 ha2 ho
 have hsm:=hr.sm
 cases h0:(x == 0) with
 | true =>
  rw [cond_true,gZ (by omega) (by omega),bs]
  obtain ⟨y,q3,g3,e3,hy,hc3⟩:=iA (N:=N) ha (h:=g2) (l:=[0,6,n+1]) hc2 (Nat.zero_lt_succ _)
  rw [e3,bs]
  refine ⟨_,_,_,rfl,hc3,⟨?_,hsm.2⟩⟩
  simp only [List.mem_cons,List.not_mem_nil,or_false] at hy
  show 0≤y∧y≤6
  omega
 | false =>
 rw [cond_false]
 cases h1:(x == 1) with
 | true =>
  rw [cond_true]
  obtain ⟨y,q3,g3,e3,hy,hc3⟩:=oO (N:=N) ha (h:=g2) (l:=[ByteArray.empty,(⟨#[119]⟩:ByteArray),(⟨#[114]⟩:ByteArray)]) hc2 (by decide)
  have hys:∀ s∈[ByteArray.empty,(⟨#[119]⟩:ByteArray),(⟨#[114]⟩:ByteArray)],s.size≤4:=by decide
  rw [e3,bs,bu (by decide) (by simp;omega),bs]
  refine ⟨_,_,_,rfl,hc3,hsm.1,by show (ats++[_]).length≤5;simp;omega,fun b hb=>?_,hsm.2.2.2⟩
  rcases List.mem_append.1 hb with h | h
  ·exact hsm.2.2.1 b h
  ·rw [List.mem_singleton] at h;rw [h];exact ⟨hys y hy,by show ([0]:List Int).length≤5;decide⟩
 | false =>
 rw [cond_false]
 cases h2:(x == 2) with
 | true =>
  rw [cond_true]
  obtain ⟨y,q3,g3,e3,b0,b1,_,hc3⟩:=cx (N:=N) ha (h:=g2) (n:=6) hc2
  have b1:=b1 (by decide)
  rw [e3,bs]
  dsimp only
  rw [dU (by omega) (by omega),bs,bu (by decide) (by simp;omega),bs]
  exact ⟨_,_,_,rfl,hc3,hsm.1,hsm.2.1,hsm.2.2.1,by show (out++[_]).length≤6;simp;omega⟩
 | false =>
 rw [cond_false]
 have hl:0<ats.length:=by omega
 have i0:ix ats 0=some ats[0]:=aR hl
 have hm0:=ha2 _ (List.getElem_mem hl)
 cases h3:(x == 3) with
 | true =>
  have s0:sto ats 0 (ats[0].1,[])=some (ats.set 0 (ats[0].1,[])):=iZ hl
  rw [cond_true,i0,bs,s0,bs]
  refine ⟨_,_,_,rfl,hc2,hsm.1,by show (ats.set 0 _).length≤5;rw [List.length_set];omega,fun b hb=>?_,hsm.2.2.2⟩
  rcases List.mem_or_eq_of_mem_set hb with h | h
  ·exact hsm.2.2.1 b h
  ·rw [h];exact ⟨hm0.1,Nat.zero_le _⟩
 | false =>
 rw [cond_false]
 cases h4:(x == 4) with
 | true =>
  obtain ⟨y,q3,g3,e3,hy,hc3⟩:=iA (N:=N) ha (h:=g2) (l:=[(-1),5]) hc2 (by decide)
  have hl1:0<ats[0].2.length:=by omega
  have i1:ix ats[0].2 0=some ats[0].2[0]:=aR hl1
  have s1:sto ats[0].2 0 y=some (ats[0].2.set 0 y):=iZ hl1
  have s0:sto ats 0 (ats[0].1,ats[0].2.set 0 y)=some (ats.set 0 (ats[0].1,ats[0].2.set 0 y)):=iZ hl
  rw [cond_true,i0,bs,e3,bs,i1,bs,s1,bs,s0,bs]
  refine ⟨_,_,_,rfl,hc3,hsm.1,by show (ats.set 0 _).length≤5;rw [List.length_set];omega,fun b hb=>?_,hsm.2.2.2⟩
  rcases List.mem_or_eq_of_mem_set hb with h | h
  ·exact hsm.2.2.1 b h
  ·rw [h];exact ⟨hm0.1,by show (ats[0].2.set 0 y).length≤5;rw [List.length_set];exact hm0.2.2⟩
 | false =>
 rw [cond_false]
 exact ⟨_,_,_,rfl,hc2,hsm⟩
end
end Go.Proofs.YtnipkopfefkojaaGreat
namespace Go.Proofs.YtnipkopfefkojaaGreat
open Go.RowKit

def TSm (t:be):Prop:=t.1.size≤5∧t.2.2.length≤10∧∀ r∈t.2.2,r.length≤6
def DSm (ts:List be):Prop:=ts.length≤6∧∀ t∈ts,TSm t
theorem DSm.ok {ts:List be} (h:DSm ts):kd ts:=⟨by have:=h.1;omega,fun t ht=>by
 obtain ⟨h1,h2,h3⟩:=h.2 t ht
 exact ⟨by omega,by omega,fun r hr=>⟨by have:=h3 r hr;omega,fun _ _=>trivial⟩⟩⟩
theorem Bb:∀ (n:Nat) (l:List Int),l.length<n→∃ v:Nat,v<n∧(v:Int)∉l:=by
 intro n
 induction n with
 | zero=>intro l h;omega
 | succ n ih =>
  intro l h
  by_cases hm:(n:Int)∈l
  ·have hl:=List.length_erase_of_mem hm
   have hp:=List.length_pos_of_mem hm
   obtain ⟨v,h1,h2⟩:=ih (l.erase (n:Int)) (by omega)
   exact ⟨v,by omega,fun hv=>h2 ((List.mem_erase_of_ne (by omega)).2 hv)⟩
  ·exact ⟨n,by omega,hm⟩
section
variable {N:Nat}
abbrev mn:List ByteArray:=[(⟨#[114]⟩:ByteArray),(⟨#[115]⟩:ByteArray),(⟨#[116]⟩:ByteArray),(⟨#[117]⟩:ByteArray),(⟨#[118]⟩:ByteArray)]
theorem AF {n m y:Int} {rows:aK} {s:ByteArray} (hs:s.size≤5) (hn:n≤5) (hy:y≤10) (hl:(rows.length:Int)≤y) (hr:∀ r∈rows,(r.length:Int)=n∧∀ v∈r,0≤v∧v<m):TSm (s,(n,rows)) :=
 ⟨hs,by show rows.length≤10;omega,fun r h=>by have:=(hr r h).1;omega⟩
theorem Eh (hM:1073742848≤N) {a:List Int} (ha:eQ a) {z:List be} {m:Int} (hm:0<m∧m≤100):∀ (d k:Nat) (acc:List be) (p h:Int) (i:Nat),cy a p→i+d=5→d<k→acc.length=i→(∀ t∈acc,TSm t) →
  ∃ q g ts v,gT N k a p h z m acc mn (mn.length:Int) (i:Int)=some (q,g,ts,v)∧cy a q∧ts.length=5∧∀ t∈ts,TSm t:=by
 intro d
 induction d with
 | zero =>
  intro k acc p h i hc hd hk hl ht
  obtain ⟨k,rfl⟩:∃ g,k=g+1:=⟨k-1,by omega⟩
  rw [gT,decide_eq_false (show ¬ (i:Int)<(mn.length:Int) by show ¬ (i:Int)<5;omega),cond_false]
  exact ⟨_,_,_,_,rfl,hc,by omega,ht⟩
 | succ d ih =>
  intro k acc p h i hc hd hk hl ht
  obtain ⟨k,rfl⟩:∃ g,k=g+1:=⟨k-1,by omega⟩
  have hi:i<mn.length:=by show i<5;omega
  have hs:∀ s∈mn,s.size≤5:=by decide
  have hs':=hs _ (List.getElem_mem hi)
  rw [gT,decide_eq_true (show (i:Int)<(mn.length:Int) by omega),cond_true,aR hi,bs]
  obtain ⟨y,q,g,e,hy,hc1⟩:=iA (N:=N) ha (h:=h) (l:=[3,6,9]) hc (by decide)
  have hyb:0≤y∧y≤10:=by
   simp only [List.mem_cons,List.not_mem_nil,or_false] at hy
   omega
  cases eqS mn[i] (⟨#[118]⟩:ByteArray) with
  | true =>
   obtain ⟨rows,q2,g2,e2,hc2,r1,r2⟩:=pW hM ha (h:=g) (n:=3) (m:=m) (y:=y) hc1 hm (by decide) (by omega)
   rw [cond_true,e,bs]
   dsimp only
   rw [e2,bs]
   dsimp only
   rw [bu (by decide) (by simp;omega),bs,ad1 (by omega),bs]
   refine ih k _ q2 g2 (i+1) hc2 (by omega) (by omega) (by simp;omega) fun t h=>?_
   rcases List.mem_append.1 h with h | h
   ·exact ht t h
   ·rw [List.mem_singleton] at h;rw [h];exact AF hs' (by decide) hyb.2 r1 r2
  | false =>
   obtain ⟨rows,q2,g2,e2,hc2,r1,r2⟩:=pW hM ha (h:=g) (n:=2) (m:=m) (y:=y) hc1 hm (by decide) (by omega)
   rw [cond_false,e,bs]
   dsimp only
   rw [e2,bs]
   dsimp only
   rw [bu (by decide) (by simp;omega),bs,ad1 (by omega),bs]
   refine ih k _ q2 g2 (i+1) hc2 (by omega) (by omega) (by simp;omega) fun t h=>?_
   rcases List.mem_append.1 h with h | h
   ·exact ht t h
   ·rw [List.mem_singleton] at h;rw [h];exact AF hs' (by decide) hyb.2 r1 r2
theorem uQ {ts:List be} {i:Nat} {t:be} (h:∀ t∈ts,TSm t) (ht:TSm t):∀ u∈ts.set i t,TSm u:=fun u hu=>by
 rcases List.mem_or_eq_of_mem_set hu with h' | h'
 ·exact h u h'
 ·rw [h'];exact ht
theorem rY {α:Type} {xs:List α} {i:Int} {y:α} (h0:0≤i) (h:i<xs.length):sto xs i y=some (xs.set i.toNat y):=by
 obtain ⟨k,rfl⟩:=Int.eq_ofNat_of_zero_le h0
 exact iZ (by omega)
theorem vo (hM:1073742848≤N) {a:List Int} (ha:eQ a) {p h:Int} (hc:cy a p):∃ ts q g,lP N a p h=some (ts,q,g)∧cy a q∧ts.length=5∧∀ t∈ts,TSm t:=by
 unfold lP
 obtain ⟨m,q,g,e,hm,hc1⟩:=iA (N:=N) ha (h:=h) (l:=[2,3,4,6]) hc (by decide)
 have hmb:0<m∧m≤100:=by
  simp only [List.mem_cons,List.not_mem_nil,or_false] at hm
  omega
 rw [e,bs]
 dsimp only
 obtain ⟨q2,g2,ts,v,e2,hc2,hl,ht⟩:=Eh hM ha (z:=[]) hmb 5 N [] q g 0 hc1 rfl (by omega) rfl (by simp)
 have e2':gT N N a q g [] m [] mn (mn.length:Int) 0=some (q2,g2,ts,v):=e2
 rw [e2',bs]
 unfold lpB
 dsimp only
 obtain ⟨b,q3,g3,e3,hc3⟩:=mX (N:=N) ha (h:=g2) (n:=8) hc2
 rw [e3,bs]
 dsimp only
 cases b with
 | false=>rw [cond_false];exact ⟨_,_,_,rfl,hc3,hl,ht⟩
 | true =>
  obtain ⟨x,q4,g4,e4,b0,b1,_,hc4⟩:=cx (N:=N) ha (h:=g3) (n:=5) hc3
  have b1:=b1 (by decide)
  have hx:x<(ts.length:Int):=by omega
  have hm:=ht _ (List.getElem_mem (show x.toNat<ts.length by omega))
  rw [cond_true,e4,bs]
  dsimp only
  rw [ia b0 hx,bs,rY b0 hx,bs]
  exact ⟨_,_,_,rfl,hc4,by rw [List.length_set];exact hl,uQ ht ⟨hm.1,Nat.zero_le _,fun r hr=>by cases hr⟩⟩
theorem v5.t {r:Int × aK} {s:ByteArray} (hs:s.size≤5) (k:v5 r):TSm (s,r):=⟨hs,by show r.2.length≤10;have:=k.2.1;omega,fun w hw=>(k.2.2 w hw).1⟩
theorem y3 (hM:1073742848≤N) {a:List Int} (ha:eQ a) {p h:Int} (hc:cy a p):∃ ts q g,l7 N a p h=some (ts,q,g)∧cy a q∧DSm ts:=by
 have hN:1073741824≤N:=by omega
 obtain ⟨ts,q,g,e,hc1,hl,ht⟩:=vo hM ha (h:=h) hc
 obtain ⟨x,q2,g2,e2,b0,b1,_,hc2⟩:=cx (N:=N) ha (h:=g) (n:=5) hc1
 have b1:=b1 (by decide)
 obtain ⟨y,q3,g3,e3,_,_,_,hc3⟩:=cx (N:=N) ha (h:=g2) (n:=14) hc2
 have hx:x<(ts.length:Int):=by omega
 have hm:=ht _ (List.getElem_mem (show x.toNat<ts.length by omega))
 unfold l7
 rw [e,bs]
 dsimp only
 rw [e2,bs]
 dsimp only
 rw [e3,bs]
 dsimp only
 cases h0:(y == 0) with
 | true =>
  obtain ⟨s,q4,g4,e4,hs,hc4⟩:=oO (N:=N) ha (h:=g3) (l:=[ByteArray.empty,(⟨#[82]⟩:ByteArray),(⟨#[97,98,99,100,101]⟩:ByteArray),(⟨#[97]⟩:ByteArray),(⟨#[122]⟩:ByteArray)]) hc3 (by decide)
  have hss:∀ s∈[ByteArray.empty,(⟨#[82]⟩:ByteArray),(⟨#[97,98,99,100,101]⟩:ByteArray),(⟨#[97]⟩:ByteArray),(⟨#[122]⟩:ByteArray)],s.size≤5:=by decide
  rw [cond_true,e4,bs,ia b0 hx,bs,rY b0 hx,bs]
  exact ⟨_,_,_,rfl,hc4,by rw [List.length_set];omega,uQ ht ⟨hss s hs,hm.2⟩⟩
 | false =>
 rw [cond_false]
 cases h1:(y == 1) with
 | true =>
  obtain ⟨r,q4,g4,e4,hc4,hr⟩:=yM hM ha (h:=g3) hc3
  rw [cond_true,e4,bs,ia b0 hx,bs,rY b0 hx,bs]
  exact ⟨_,_,_,rfl,hc4,by rw [List.length_set];omega,uQ ht (hr.t hm.1)⟩
 | false =>
 rw [cond_false]
 cases h2:(y == 2) with
 | true =>
  rw [cond_true,ia b0 hx,bs,bu (by decide) (by simp;omega),bs]
  refine ⟨_,_,_,rfl,hc3,by simp;omega,fun t h=>?_⟩
  rcases List.mem_append.1 h with h | h
  ·exact ht t h
  ·rw [List.mem_singleton] at h;rw [h];exact hm
 | false =>
 rw [cond_false]
 cases h3:(y == 3) with
 | true =>
  have es:slc ts 0 x=some ((ts.take x.toNat).drop 0):=by
   have:=iO (xs:=ts) (lo:=0) (hi:=x.toNat) (by omega) (by omega)
   rwa [show ((x.toNat:Nat):Int)=x by omega] at this
  rw [cond_true,es,bs]
  refine ⟨_,_,_,rfl,hc3,by rw [List.drop_zero,List.length_take];omega,fun t h=>ht t (List.mem_of_mem_take (by simpa using h))⟩
 | false =>
 rw [cond_false]
 exact ⟨_,_,_,rfl,hc3,by omega,ht⟩
theorem xS (hM:1073742848≤N) {a:List Int} (ha:eQ a) {p h:Int} (hc:cy a p):∃ ts r q g,la N a p h=some (ts,r,q,g)∧cy a q∧DSm ts∧QSm r:=by
 have hN:1073741824≤N:=by omega
 obtain ⟨ts,q,g,e,hc1,hl,ht⟩:=vo hM ha (h:=h) hc
 obtain ⟨r,q2,g2,e2,hc2,hr⟩:=rF hN ha (h:=g) hc1
 obtain ⟨y,q3,g3,e3,_,_,_,hc3⟩:=cx (N:=N) ha (h:=g2) (n:=24) hc2
 unfold la
 rw [e,bs]
 dsimp only
 rw [e2,bs]
 dsimp only
 rw [e3,bs]
 dsimp only
 cases h0:(y == 0) with
 | true =>
  obtain ⟨ts2,q4,g4,e4,hc4,ht4⟩:=y3 hM ha (h:=g3) hc3
  rw [cond_true,e4,bs]
  exact ⟨_,_,_,_,rfl,hc4,ht4,hr.sm⟩
 | false =>
 rw [cond_false]
 cases h1:(y == 1) with
 | true =>
  obtain ⟨r2,q4,g4,e4,hc4,hr4⟩:=yX hN ha (h:=g3) hc3
  rw [cond_true,e4,bs]
  exact ⟨_,_,_,_,rfl,hc4,⟨by omega,ht⟩,hr4⟩
 | false =>
 rw [cond_false]
 exact ⟨_,_,_,_,rfl,hc3,⟨by omega,ht⟩,hr.sm⟩
theorem zl (hN:1073741824≤N) {a acc:List Int} {p h:Int} {n v:Nat} (hn:n≤5) (hacc:acc.length≤5) (hv:v<n) (hf:(v:Int)∉acc):∀ (d k r:Nat),r<n→(r+d=v∨r+d=v+n)→d≤n→d<k→∃ x:Int,f7 N k a p h (n:Int) acc (r:Int)=some x∧0≤x∧x<n:=by
 intro d
 induction d with
 | zero =>
  intro k r hr hd _ hk
  obtain ⟨k,rfl⟩:∃ g,k=g+1:=⟨k-1,by omega⟩
  have:r=v:=by omega
  subst this
  have hneg:¬ 0≤cm acc (r:Int):=fun h=>hf (mH.1 h)
  rw [f7,jR hN (by omega),bs,decide_eq_false hneg,cond_false]
  exact ⟨_,rfl,by omega,by omega⟩
 | succ d ih =>
  intro k r hr hd hdn hk
  obtain ⟨k,rfl⟩:∃ g,k=g+1:=⟨k-1,by omega⟩
  rw [f7,jR hN (by omega),bs]
  by_cases hq:0≤cm acc (r:Int)
  ·rw [decide_eq_true hq,cond_true,ad1 (by omega),bs,rT (by omega),bs]
   by_cases hw:r+1=n
   ·have e:(((r+1:Nat):Int)).tmod (n:Int)=((0:Nat):Int):=by rw [hw,Int.tmod_self];rfl
    rw [e]
    exact ih k 0 (by omega) (by omega) (by omega) (by omega)
   ·have e:(((r+1:Nat):Int)).tmod (n:Int)=((r+1:Nat):Int):=Int.tmod_eq_of_lt (by omega) (by omega)
    rw [e]
    exact ih k (r+1) (by omega) (by omega) (by omega) (by omega)
  ·rw [decide_eq_false hq,cond_false]
   exact ⟨_,rfl,by omega,by omega⟩
theorem zh (hN:1073741824≤N) {a:List Int} (ha:eQ a) {n:Nat} (hn:n≤5):∀ (d k:Nat) (acc:List Int) (p h:Int),cy a p→acc.length+d=n→d<k→(∀ v∈acc,0≤v∧v<n) →
  ∃ q g out,g7 N k a p h (n:Int) acc=some (q,g,out)∧cy a q∧out.length=n∧∀ v∈out,0≤v∧v<n:=by
 intro d
 induction d with
 | zero =>
  intro k acc p h hc hd hk hv
  obtain ⟨k,rfl⟩:∃ g,k=g+1:=⟨k-1,by omega⟩
  rw [g7,decide_eq_false (by omega),cond_false]
  exact ⟨_,_,_,rfl,hc,by omega,hv⟩
 | succ d ih =>
  intro k acc p h hc hd hk hv
  obtain ⟨k,rfl⟩:∃ g,k=g+1:=⟨k-1,by omega⟩
  obtain ⟨x,q,g,e,b0,b1,_,hc1⟩:=cx (N:=N) ha (h:=h) (n:=(n:Int)) hc
  have b1:=b1 (by omega)
  obtain ⟨v,hv1,hv2⟩:=Bb n acc (by omega)
  obtain ⟨r,rfl⟩:=Int.eq_ofNat_of_zero_le b0
  obtain ⟨y,e2,y0,y1⟩:=zl hN (a:=a) (p:=q) (h:=g) hn (by omega) hv1 hv2 (if r≤v then v-r else v+n-r) N r (by omega) (by split <;> omega) (by split <;> omega) (by split <;> omega)
  rw [g7,decide_eq_true (by omega),cond_true,e,bs]
  dsimp only
  have e2':f7 N N a q g (n:Int) acc ((r:Nat):Int)=some y:=e2
  rw [e2',bs]
  unfold lpB
  dsimp only
  rw [bu (by decide) (by simp;omega),bs]
  refine ih k _ q g hc1 (by simp;omega) (by omega) fun w hw=>?_
  rcases List.mem_append.1 hw with h | h
  ·exact hv w h
  ·rw [List.mem_singleton] at h;rw [h];exact ⟨y0,y1⟩
theorem ws (hN:1073741824≤N) {a:List Int} (ha:eQ a) {p h:Int} {n:Nat} (hn:n≤5) (hc:cy a p):∃ out q g,ko N a p h (n:Int)=some (out,q,g)∧cy a q∧out.length=n:=by
 obtain ⟨q,g,out,e,h1,h2,_⟩:=zh hN ha hn n N [] p h hc (by simp) (by omega) (by simp)
 unfold ko
 rw [e,bs]
 exact ⟨_,_,_,rfl,h1,h2⟩
theorem vV (hN:1073741824≤N) {a:List Int} (ha:eQ a) {p h n:Int} {ats:List aY} {o:List Int} (hc:cy a p):∃ out q g,jZ N a p h n ats o=some (out,q,g)∧cy a q∧out.length≤5:=by
 unfold jZ
 have hi:∃ m:Nat,imx 0 (imn 5 n)=(m:Int)∧m≤5:=by
  have h1:0≤imx 0 (imn 5 n)∧imx 0 (imn 5 n)≤5:=by
   unfold imx imn
   split <;> split at*<;> omega
  exact ⟨(imx 0 (imn 5 n)).toNat,by omega,by omega⟩
 obtain ⟨m,em,hm⟩:=hi
 obtain ⟨out,q,g,e,hc1,hl⟩:=ws hN ha (h:=h) hm hc
 rw [em,e,bs]
 dsimp only
 by_cases h0:(0:Int)<(out.length:Int)
 ·obtain ⟨b,q2,g2,e2,hc2⟩:=mX (N:=N) ha (h:=g) (n:=14) hc1
  rw [decide_eq_true h0,cond_true,e2,bs]
  dsimp only
  cases b with
  | false=>rw [cond_false];exact ⟨_,_,_,rfl,hc2,by omega⟩
  | true =>
   obtain ⟨x,q3,g3,e3,_,_,_,hc3⟩:=cx (N:=N) ha (h:=g2) (n:=6) hc2
   rw [cond_true,e3,bs,ia (by decide) h0,bs,rY (by decide) h0,bs]
   exact ⟨_,_,_,rfl,hc3,by rw [List.length_set];omega⟩
 ·rw [decide_eq_false h0,cond_false];exact ⟨_,_,_,rfl,hc1,by rw [hl];exact hm⟩
def JSm (ts:List be) (r:nX) (o:List Int):Prop:=DSm ts∧QSm r∧o.length≤5
theorem JSm.o {ts:List be} {r:nX} {o:List Int} (h:JSm ts r o):okI o:=⟨by have:=h.2.2;omega,fun _ _=>trivial⟩
theorem wu (hM:1073742848≤N) {a:List Int} (ha:eQ a) {p h:Int} (hc:cy a p):∃ ts r o q g,ks N a p h=some (ts,r,o,q,g)∧cy a q∧JSm ts r o:=by
 obtain ⟨ts,r,q,g,e,hc1,ht,hr⟩:=xS hM ha (h:=h) hc
 unfold ks
 rw [e,bs]
 dsimp only
 obtain ⟨o,q2,g2,e2,hc2,hl⟩:=vV (N:=N) (by omega) ha (h:=g) (n:=r.1) (ats:=r.2.1) (o:=r.2.2) hc1
 rw [e2,bs]
 exact ⟨_,_,_,_,_,rfl,hc2,ht,hr,hl⟩
theorem EG {a:List Int}:cy a 0:=⟨Int.le_refl _,by omega⟩
theorem qH (hM:1073742848≤N) {a:List Int} (ha:eQ a):∃ ts r o,gx N a=some (ts,r,o)∧JSm ts r o:=by
 obtain ⟨h,e⟩:=zC (N:=N) (by omega) ha
 obtain ⟨ts,r,o,q,g,e2,_,hj⟩:=wu hM ha (h:=h) EG
 unfold gx
 rw [e,bs]
 dsimp only
 rw [e2,bs]
 exact ⟨_,_,_,rfl,hj⟩
end
end Go.Proofs.YtnipkopfefkojaaGreat
namespace Go.Proofs.YtnipkopfefkojaaGreat
open Go.RowKit

theorem vI {f:Nxt}:∀ {m:Nat} {p0 s r:List Int},r∈(bz f m p0).1→s.length<m→r.take (p0++s).length=p0++s→∃ h:(p0++s).length<r.length,r[(p0++s).length]∈(f (p0++s)).1
 | 0,_,_,_,_,hs,_=>absurd hs (Nat.not_lt_zero _)
 | m+1,p0,s,r,hr,hs,ht=>by
  obtain ⟨v,hv,hr⟩:=List.mem_flatMap.1 hr
  obtain ⟨s',e,hl⟩:=kp hr
  cases s with
  | nil =>
   subst e
   simp only [List.append_nil]
   refine ⟨by simp,?_⟩
   have:(p0++[v]++s')[p0.length]'(by simp)=v:=by simp
   rw [this];exact hv
  | cons w s =>
   have hw:w=v:=by
    subst e
    have h1:=congrArg (fun l:List Int=>l[p0.length]?) ht
    simp only [List.length_append,List.length_cons,List.append_assoc] at h1
    rw [List.getElem?_take_of_lt (by omega)] at h1
    simpa using h1.symm
   subst hw
   have e2:p0++w :: s=p0++[w]++s:=by simp
   rw [e2] at ht ⊢
   exact vI hr (by simp at hs;omega) ht
theorem vh {f g:Nxt} {n:Nat} (h:∀ p:List Int,p.length<n→(f p).1=(g p).1):∀ (m:Nat) (p:List Int),p.length+m≤n→(bz f m p).1=(bz g m p).1
 | 0,_,_=>rfl
 | m+1,p,hp=>by
  show (f p).1.flatMap (fun v=>(bz f m (p++[v])).1)=(g p).1.flatMap fun v=>(bz g m (p++[v])).1
  rw [h p (by omega)]
  congr 1
  funext v
  exact vh h m _ (by simp;omega)
theorem uT {ts:List be} {n:Nat} {atoms:List aY} {order:List Int} (q:QFor ts n atoms order):(bz (bb ts order atoms) n []).1=(bz (uA ts order atoms) n []).1 :=
 vh (n:=n) (fun p hp=>wa ((jn q).asc p) ((A8 q).asc p) (Ep q hp)) n [] (by simp)
section
variable {N:Nat}
theorem wW (hN:1073741824≤N) {xs ys:List Int} (hx:xs.length≤1048576):jY N xs ys=some (decide (xs=ys)):=by
 unfold jY
 by_cases hl:xs.length=ys.length
 ·rw [BP hl,cond_false]
  refine As (L:=fun k i=>eV N k xs ys i) hl hx hN (fun k i h h'=>?_) (fun k=>?_)
  ·show eV N (k+1) xs ys (i:Int)=_
   rw [eV,dlt h,cond_true,aR h,bs,aR h',bs,oH,ad1 (by omega),bs]
   cases decide (xs[i]=ys[i]) <;> rfl
  ·show eV N (k+1) xs ys (xs.length:Int)=_
   rw [eV,dge (by omega),cond_false]
 ·rw [BN hl,cond_true];exact D3 hl
end
end Go.Proofs.YtnipkopfefkojaaGreat
namespace Go.Proofs.YtnipkopfefkojaaGreat
open Go.RowKit

section
variable {N:Nat}
theorem qQ (hM:1073742848≤N) {a:List Int} (ha:eQ a):∃ ts r o,gU N a=some (ts,r,o)∧JSm ts r o:=by
 obtain ⟨ts,r,o,e,hj⟩:=qH hM ha
 unfold gU
 rw [e,bs]
 exact ⟨_,_,_,rfl,hj⟩
end
theorem rG {ts:List be} {n:Nat} {atoms:List aY} {order:List Int} (q:QFor ts n atoms order) {v:Int} (h0:0≤v) (h1:v<n):v∈order:=by
 apply Classical.byContradiction
 intro hn
 obtain ⟨h2,h3⟩:=ir q.os
 have:=ld n (v :: order) (List.nodup_cons.2 ⟨hn,h2⟩) (fun x hx=>by
  rcases List.mem_cons.1 hx with rfl | h
  ·exact ⟨h0,h1⟩
  ·have:=h3 x h;omega)
 rw [List.length_cons,q.ol] at this
 omega
theorem y6 {ts:List be} {n:Nat} {atoms:List aY} {order:List Int} (q:QFor ts n atoms order) (he:iM (bB ts order atoms)=true):(bz (uA ts order atoms) n []).1=[]:=by
 refine List.eq_nil_iff_forall_not_mem.2 fun r hr=>?_
 unfold iM bB at he
 rw [List.any_eq_true] at he
 obtain ⟨t,ht,h0⟩:=he
 rw [decide_eq_true_eq] at h0
 obtain ⟨a,ha,rfl⟩:=List.mem_map.1 ht
 obtain ⟨i,hi,rfl⟩:=List.getElem_of_mem ha
 obtain ⟨h1,h2,h3⟩:=q.al _ ha
 have hv:=h3 _ (List.getElem_mem (show 0<atoms[i].2.length by omega))
 obtain ⟨l,hl,el⟩:=List.getElem_of_mem (rG q hv.1 hv.2)
 have hol:=q.ol
 obtain ⟨s,e,hs⟩:=kp hr
 have hrl:r.length=n:=by rw [e];exact hs
 have hpl:(r.take l).length=l:=by rw [List.length_take];omega
 obtain ⟨w1,w2⟩:=vI (p0:=[]) (s:=r.take l) hr (by omega) (by rw [List.nil_append,hpl])
 obtain ⟨x,w2⟩:∃ x,x∈(uA ts order atoms (r.take l)).1:=⟨_,by simpa using w2⟩
 have k:=oS (ls:=eJ ts order atoms (r.take l)) (B:=16) fun l hl=>(gR q l hl).1
 have hin:atV ts order atoms (r.take l) i∈eJ ts order atoms (r.take l):=by
  unfold eJ
  rw [hpl]
  refine List.mem_map.2 ⟨i,lB.2 ⟨hi,?_⟩,rfl⟩
  rw [bk hl,el,fQ hi]
  exact List.getElem_mem _
 have hx:=k.2.1 _ w2 _ hin
 unfold atV at hx
 rw [fQ hi] at hx
 have hlen:=vA (iq ts order atoms[i]).1 (iq ts order atoms[i]).2 (kX atoms[i].2 order (r.take l))
 have:=List.length_pos_of_mem hx
 omega
end Go.Proofs.YtnipkopfefkojaaGreat
namespace Go.Proofs.YtnipkopfefkojaaGreat
open Go.RowKit

def ny (order r:List Int) (v:Int):Int:=r.getD (cm order v).toNat 0
def rO (ts:List be) (a:aY):aK:=(bV ts a.1).1.2
def Er (ts:List be) (atoms:List aY) (f:Int→Int):Prop:=∀ a∈atoms,a.2.map f∈rO ts a
theorem nl {vs:List Int} {v:Int} (h:v∈vs):∃ j:Nat,cm vs v=(j:Int)∧∃ hj:j<vs.length,vs[j]=v:=by
 rcases mg vs v with ⟨h1,_⟩ | ⟨j,hj,e,e2,_⟩
 ·exact absurd h h1
 ·exact ⟨j,e2,hj,e⟩
theorem zr {vs:List Int} {f:Int→Int} {j:Nat} (h:j<vs.length):(vs.map f).getD j 0=f vs[j]:=by
 rw [bk (by rw [List.length_map];exact h),List.getElem_map]
theorem pI (vars:List Int):∀ (l out:List Int),l.Nodup→(∀ v∈l,v∈vars→cm vars v∉out)→l.foldl (eN vars) out=out++(l.filter fun v=>decide (v∈vars)).map (cm vars)
 | [],out,_,_=>by simp
 | v :: l,out,hn,ho=>by
  obtain ⟨n1,n2⟩:=List.nodup_cons.1 hn
  rw [List.foldl_cons]
  by_cases hv:v∈vars
  ·have e:eN vars out v=out++[cm vars v]:=by
    unfold eN
    rw [decide_eq_true (mH.2 hv),decide_eq_false (ho v List.mem_cons_self hv)];rfl
   rw [e,pI vars l _ n2 (fun w hw hwv hm=>by
    rcases List.mem_append.1 hm with h | h
    ·exact ho w (List.mem_cons_of_mem _ hw) hwv h
    ·rw [List.mem_singleton] at h
     obtain ⟨j,e1,hj,e2⟩:=nl hwv
     obtain ⟨k,e3,hk,e4⟩:=nl hv
     have:j=k:=by omega
     subst this
     rw [e2] at e4;subst e4;exact n1 hw),List.filter_cons,if_pos (by simpa using hv)]
   simp
  ·have e:eN vars out v=out:=by
    unfold eN
    rw [decide_eq_false (fun h=>hv (mH.1 h))];rfl
   rw [e,pI vars l _ n2 (fun w hw=>ho w (List.mem_cons_of_mem _ hw)),List.filter_cons,if_neg (by simpa using hv)]
theorem rh {vs order x:List Int} (hn:order.Nodup):cX (dw vs x) (iR vs order)=(order.filter fun v=>decide (v∈bf vs)).map fun v=>x.getD (cm vs v).toNat 0:=by
 unfold iR
 rw [pI _ _ _ hn (by simp),List.nil_append]
 unfold cX
 rw [List.map_map]
 refine List.map_congr_left fun v hv=>?_
 rw [List.mem_filter,decide_eq_true_eq] at hv
 obtain ⟨j,e1,hj,e2⟩:=nl hv.2
 show (dw vs x).getD (cm (bf vs) v).toNat 0=_
 unfold dw
 rw [e1,Int.toNat_natCast,zr hj,e2]
theorem wQ {ts:List be} {order:List Int} {a:aY} {t:List Int}:t∈(iq ts order a).2↔∃ x∈rO ts a,eY a.2 x=true∧t=cX (dw a.2 x) (iR a.2 order):=by
 unfold iq rO
 dsimp only
 rw [oA,List.mem_map]
 constructor
 ·rintro ⟨y,hy,rfl⟩
  rw [oA] at hy
  unfold b9 at hy
  obtain ⟨x,hx,rfl⟩:=List.mem_map.1 hy
  rw [List.mem_filter] at hx
  exact ⟨x,hx.1,hx.2,rfl⟩
 ·rintro ⟨x,h1,h2,rfl⟩
  refine ⟨_,(oA _ _ _).2 (List.mem_map.2 ⟨x,List.mem_filter.2 ⟨h1,h2⟩,rfl⟩),rfl⟩
theorem wy {vs order r:List Int} (hn:order.Nodup):∀ m,m≤order.length→fL vs order r m=((order.take m).filter fun v=>decide (v∈vs)).map (ny order r)
 | 0,_=>rfl
 | m+1,h=>by
  rw [jN,wy hn m (by omega),List.take_succ_eq_append_getElem (by omega),List.filter_append,List.map_append,bk (by omega)]
  by_cases hv:order[m]∈vs
  ·rw [decide_eq_true hv,cond_true,List.filter_cons,if_pos (by simpa using hv)]
   simp only [List.filter_nil,List.map_cons,List.map_nil]
   unfold ny
   rw [s4 hn,Int.toNat_natCast]
  ·rw [decide_eq_false hv,cond_false,List.filter_cons,if_neg (by simpa using hv)]
   simp
theorem zw {vs x:List Int} (h:eY vs x=true) {i:Nat} (hi:i<vs.length):x.getD (cm vs vs[i]).toNat 0=x.getD i 0:=by
 unfold eY ma at h
 rw [List.all_eq_true] at h
 have:=h i (by simp;omega)
 unfold oq at this
 rw [decide_eq_true_eq,bk hi] at this
 exact this
theorem y7 {vs x:List Int} (h:∀ i (hi:i<vs.length),x.getD (cm vs vs[i]).toNat 0=x.getD i 0):eY vs x=true:=by
 unfold eY ma
 rw [List.all_eq_true]
 intro i hi
 have hi:i<vs.length:=by simpa using hi
 unfold oq
 rw [decide_eq_true_eq,bk hi]
 exact h i hi
section
variable {ts:List be} {n:Nat} {atoms:List aY} {order:List Int}
theorem pH (q:QFor ts n atoms order):order.Nodup:=(ir q.os).1
theorem tt (q:QFor ts n atoms order) {a:aY} {r:List Int} (hr:r.length=n):kX a.2 order r=(order.filter fun v=>decide (v∈bf a.2)).map (ny order r):=by
 unfold kX
 have hb:=(ir q.os).2
 have h5:=q.n5
 rw [wy (pH q) _ (by rw [q.ol,hr];exact Nat.le_refl _),hr,← q.ol,List.take_length]
 congr 1
 refine List.filter_congr fun v hv=>?_
 rw [decide_eq_decide,iy]
 have:=hb v hv
 exact ⟨fun h=>⟨by omega,h⟩,fun h=>h.2⟩
theorem Bx (q:QFor ts n atoms order) {a:aY} (ha:a∈atoms) {x:List Int} (hx:x∈rO ts a):x.length=a.2.length∧bi x=true:=by
 obtain ⟨h1,h2⟩:=q.af a ha
 obtain ⟨_,h4⟩:=qh h1 h2
 obtain ⟨i,hi,rfl⟩:=List.getElem_of_mem hx
 exact h4 i hi
theorem wE (q:QFor ts n atoms order) {a:aY} (ha:a∈atoms) {r:List Int} (hr:r.length=n):kX a.2 order r∈(iq ts order a).2↔a.2.map (ny order r)∈rO ts a:=by
 have hnd:=pH q
 obtain ⟨hl5,hl1,hv⟩:=q.al a ha
 have hF:∀ v∈a.2,v∈order.filter fun v=>decide (v∈bf a.2):=fun v hm=>by
  have h5:=q.n5
  have:=hv v hm
  rw [List.mem_filter,decide_eq_true_eq,iy]
  exact ⟨rG q this.1 this.2,by omega,hm⟩
 have hF2:∀ v,v∈(order.filter fun v=>decide (v∈bf a.2))→v∈a.2:=fun v hm=>by
  rw [List.mem_filter,decide_eq_true_eq,iy] at hm
  exact hm.2.2
 rw [wQ,tt q hr]
 constructor
 ·rintro ⟨x,hx,hf,e⟩
  rw [rh hnd,List.map_inj_left] at e
  have hxl:=(Bx q ha hx).1
  have:a.2.map (ny order r)=x:=by
   refine List.ext_getElem (by rw [List.length_map,hxl]) fun i h1 h2=>?_
   have hi:i<a.2.length:=by rw [← hxl];exact h2
   rw [List.getElem_map,e _ (hF _ (List.getElem_mem hi)),zw hf hi,bk h2]
  rw [this];exact hx
 ·intro hx
  have key:∀ v∈a.2,(a.2.map (ny order r)).getD (cm a.2 v).toNat 0=ny order r v:=fun v hm=>by
   obtain ⟨j,e1,hj,e2⟩:=nl hm
   rw [e1,Int.toNat_natCast,zr hj,e2]
  refine ⟨_,hx,y7 fun i hi=>?_,?_⟩
  ·rw [key _ (List.getElem_mem hi),zr hi]
  ·rw [rh hnd]
   exact List.map_congr_left fun v hm=>(key v (hF2 v hm)).symm
theorem s8 {f:Nxt}:∀ {m:Nat} {p r:List Int},r∈(bz f m p).1↔∃ s,r=p++s∧s.length=m∧∀ l (h:l<s.length),s[l]∈(f (p++s.take l)).1
 | 0,p,r=>by
  constructor
  ·intro h;exact ⟨[],by rw [List.append_nil];exact List.mem_singleton.1 h,rfl,fun l h=>absurd h (Nat.not_lt_zero _)⟩
  ·rintro ⟨s,rfl,hs,_⟩
   rw [List.length_eq_zero_iff.1 hs,List.append_nil];exact List.mem_singleton.2 rfl
 | m+1,p,r=>by
  constructor
  ·intro h
   obtain ⟨v,hv,h⟩:=List.mem_flatMap.1 h
   obtain ⟨s,rfl,hs,hl⟩:=s8.1 h
   refine ⟨v :: s,by simp,by simp [hs],fun l h=>?_⟩
   cases l with
   | zero=>simpa using hv
   | succ l =>
    have:=hl l (by simpa using h)
    simpa using this
  ·rintro ⟨s,rfl,hs,hl⟩
   cases s with
   | nil=>simp at hs
   | cons v s =>
    have h0:=hl 0 (by simp)
    rw [List.take_zero,List.append_nil] at h0
    refine List.mem_flatMap.2 ⟨v,h0,s8.2 ⟨s,by simp,by simpa using hs,fun l h=>?_⟩⟩
    have:=hl (l+1) (by simpa using h)
    simpa using this
theorem vm (q:QFor ts n atoms order) {p:List Int} (hp:p.length<n) {x:Int}:x∈(bb ts order atoms p).1↔∀ i,i<atoms.length→order.getD p.length 0∈(fi atoms i).2→x∈atV ts order atoms p i:=by
 have ha:=tz q hp
 have k1:=pV (ls:=eJ ts order atoms p) (B:=16) fun l hl=>(gR q l hl).1
 have hm:(∀ l∈eJ ts order atoms p,x∈l)↔∀ i,i<atoms.length→order.getD p.length 0∈(fi atoms i).2→x∈atV ts order atoms p i:=by
  unfold eJ
  constructor
  ·intro h i hi hv
   exact h _ (List.mem_map.2 ⟨i,lB.2 ⟨hi,hv⟩,rfl⟩)
  ·intro h l hl
   obtain ⟨i,hi,rfl⟩:=List.mem_map.1 hl
   exact h i (lB.1 hi).1 (lB.1 hi).2
 rw [← hm]
 exact ⟨fun h=>k1.2.1 x h,fun h=>k1.2.2.2.2 ha x h⟩
theorem vB {vs order r:List Int}:∀ {l m:Nat},l≤m→m≤r.length→fL vs order (r.take m) l=fL vs order r l
 | 0,_,_,_=>rfl
 | l+1,m,h,hm=>by
  rw [jN,jN,vB (by omega) hm,bk (xs:=r.take m) (by rw [List.length_take];omega),bk (xs:=r) (by omega),List.getElem_take]
theorem xf {vs order r:List Int}:∀ {l m:Nat},l≤m→∃ t,fL vs order r m=fL vs order r l++t
 | l,0,h=>by
  obtain rfl:l=0:=by omega
  exact ⟨[],by simp⟩
 | l,m+1,h=>by
  by_cases e:l=m+1
  ·subst e;exact ⟨[],by simp⟩
  ·obtain ⟨t,ht⟩:=xf (vs:=vs) (order:=order) (r:=r) (show l≤m by omega)
   rw [jN,ht]
   cases decide (order.getD m 0∈vs)
   ·exact ⟨t,rfl⟩
   ·exact ⟨t++[r.getD m 0],by simp⟩
theorem vM {vs order r:List Int}:∀ {m:Nat},fL vs order r m≠[]→∃ l,l<m∧order.getD l 0∈vs∧fL vs order r m=fL vs order r l++[r.getD l 0]
 | 0,h=>absurd rfl h
 | m+1,h=>by
  rw [jN] at h ⊢
  by_cases hv:order.getD m 0∈vs
  ·rw [decide_eq_true hv,cond_true];exact ⟨m,by omega,hv,rfl⟩
  ·rw [decide_eq_false hv,cond_false] at h ⊢
   obtain ⟨l,h1,h2,h3⟩:=vM h
   exact ⟨l,by omega,h2,h3⟩
theorem wR (q:QFor ts n atoms order) {a:aY} (ha:a∈atoms) {t:List Int} (ht:t∈(iq ts order a).2):(t.length:Int)=(iq ts order a).1:=by
 obtain ⟨_,_,h3,_⟩:=mF q ha
 obtain ⟨_,_,_,h4⟩:=bM h3
 obtain ⟨i,hi,rfl⟩:=List.getElem_of_mem ht
 exact (h4 i hi).1
theorem An (q:QFor ts n atoms order) {r:List Int}:r∈(bz (bb ts order atoms) n []).1↔r.length=n∧Er ts atoms (ny order r):=by
 have hol:=q.ol
 have step:∀ {r:List Int},r.length=n→((∀ l (h:l<r.length),r[l]∈(bb ts order atoms (r.take l)).1)↔∀ a∈atoms,kX a.2 order r∈(iq ts order a).2):=by
  intro r hr
  have own:∀ {l:Nat} (vs:List Int),l≤n→kX vs order (r.take l)=fL vs order r l:=fun {l} vs hl=>by
   unfold kX
   rw [List.length_take,Nat.min_eq_left (by omega),vB (Nat.le_refl _) (by omega)]
  have full:∀ vs:List Int,kX vs order r=fL vs order r n:=fun vs=>by unfold kX;rw [hr]
  constructor
  ·intro h a ha
   obtain ⟨i,hi,rfl⟩:=List.getElem_of_mem ha
   rw [full]
   have hne:fL atoms[i].2 order r n≠[]:=fun e=>by
    have h2:=tt q (a:=atoms[i]) hr
    rw [full,e] at h2
    obtain ⟨_,h1,hv⟩:=q.al _ ha
    have h3:=hv _ (List.getElem_mem (show 0<atoms[i].2.length by omega))
    have h5:=q.n5
    have h4:atoms[i].2[0]'(by omega)∈order.filter fun v=>decide (v∈bf atoms[i].2):=by
     rw [List.mem_filter,decide_eq_true_eq,iy]
     exact ⟨rG q h3.1 h3.2,by omega,List.getElem_mem _⟩
    have:=congrArg List.length h2
    rw [List.length_map] at this
    have h6:=List.length_pos_of_mem h4
    simp at this
    omega
   obtain ⟨l,h1,h2,h3⟩:=vM hne
   have hk:=(vm q (p:=r.take l) (by rw [List.length_take];omega)).1 (h l (by omega)) i hi (by rw [List.length_take,Nat.min_eq_left (by omega),fQ hi];exact h2)
   unfold atV at hk
   rw [fQ hi,own _ (by omega)] at hk
   unfold kQ at hk
   split at hk
   ·obtain ⟨t,ht,e1,e2⟩:=qL.1 hk
    have htl:=wR q ha ht
    have hown:=tt q (a:=atoms[i]) hr
    rw [full] at hown
    have hlen:(fL atoms[i].2 order r n).length=t.length:=by
     obtain ⟨x,_,_,e5⟩:=wQ.1 ht
     rw [rh (pH q)] at e5
     rw [hown,e5,List.length_map,List.length_map]
    have:fL atoms[i].2 order r n=t:=by
     rw [h3] at hlen ⊢
     rw [List.length_append] at hlen
     refine List.ext_getElem (by rw [List.length_append];exact hlen) fun j j1 j2=>?_
     by_cases hj:j<(fL atoms[i].2 order r l).length
     ·rw [List.getElem_append_left hj]
      have:=List.getElem_of_eq e1.symm (i:=j) hj
      rw [this,List.getElem_take]
     ·have hj':j=(fL atoms[i].2 order r l).length:=by simp at j1;omega
      subst hj'
      rw [List.getElem_append_right (Nat.le_refl _)]
      simp only [Nat.sub_self,List.getElem_cons_zero]
      rw [bk (by omega)] at e2 ⊢
      exact e2
    rw [this];exact ht
   ·cases hk
  ·intro h l hl
   refine (vm q (by rw [List.length_take];omega)).2 fun i hi hv=>?_
   rw [List.length_take,Nat.min_eq_left (by omega),fQ hi] at hv
   have ha:=List.getElem_mem hi
   have ht:=h _ ha
   rw [full] at ht
   have htl:=wR q ha ht
   unfold atV
   rw [fQ hi,own _ (by omega)]
   obtain ⟨t,e⟩:=xf (vs:=atoms[i].2) (order:=order) (r:=r) (show l+1≤n by omega)
   rw [jN,decide_eq_true hv,cond_true,List.append_assoc] at e
   have hlt:(fL atoms[i].2 order r l).length<(fL atoms[i].2 order r n).length:=by rw [e];simp
   unfold kQ
   rw [if_pos (by omega),qL]
   refine ⟨_,ht,by rw [e];simp,?_⟩
   rw [e,bk (xs:=_++_) (by simp),List.getElem_append_right (Nat.le_refl _)]
   simp only [Nat.sub_self,List.cons_append,List.nil_append,List.getElem_cons_zero]
   rw [bk (by omega)]
 rw [s8]
 constructor
 ·rintro ⟨s,e,hs,hl⟩
  rw [List.nil_append] at e
  subst e
  refine ⟨hs,fun a ha=>(wE q ha hs).1 ((step hs).1 (fun l h=>?_) a ha)⟩
  have:=hl l h
  rwa [List.nil_append] at this
 ·rintro ⟨hr,hb⟩
  refine ⟨r,rfl,hr,fun l h=>?_⟩
  rw [List.nil_append]
  exact (step hr).2 (fun a ha=>(wE q ha hr).2 (hb a ha)) l h
end
end Go.Proofs.YtnipkopfefkojaaGreat
namespace Go.Proofs.YtnipkopfefkojaaGreat
open Go.RowKit

section
variable {ts:List be} {n:Int} {atoms:List aY} {out order:List Int}
theorem CU (h:(eu ts n atoms out order).2.2=true):∃ m:Nat,n=(m:Int)∧QFor ts m atoms order∧okQ ts n atoms out order=true∧(eu ts n atoms out order).1=(n,(bz (bb ts order atoms) m []).1)∧(bz (bb ts order atoms) m []).1.length≤4000:=by
 unfold eu at h ⊢
 cases ho:okQ ts n atoms out order with
 | false=>rw [ho] at h;cases h
 | true =>
  obtain ⟨m,rfl,q,_⟩:=tR ho
  rw [ho,cond_true] at h
  rw [cond_true]
  refine ⟨m,rfl,q,rfl,?_⟩
  cases he:iM (bB ts order atoms) with
  | true =>
   rw [uT q,y6 q he]
   exact ⟨rfl,Nat.zero_le _⟩
  | false =>
   rw [he,cond_false] at h
   rw [cond_false]
   unfold i9 at h ⊢
   cases hk:decide (((bz (bb ts order atoms) (m:Int).toNat []).1.length:Int)≤4000) with
   | false=>rw [hk] at h;cases h
   | true =>
    rw [decide_eq_true_eq] at hk
    exact ⟨rfl,by have:((bz (bb ts order atoms) m []).1.length:Int)≤4000:=hk;omega⟩
end
end Go.Proofs.YtnipkopfefkojaaGreat
namespace Go.Proofs.YtnipkopfefkojaaGreat
open Go.RowKit

def szN (ns:List aS):Nat:=(ns.map fun x=>x.1.length).sum
theorem Cd (ns:List aS) (x:aS):szN (fY ns x).2≤szN ns+x.1.length:=by
 unfold fY
 split
 ·exact Nat.le_add_right _ _
 ·show szN (ns++[x])≤_
  unfold szN
  rw [List.map_append,List.sum_append];simp
theorem w7 {rec:List aS→List (List Int)→Int × List aS} {e:Nat} (hr:∀ ns rs,rs≠[]→szN (rec ns rs).2≤szN ns+rs.length*e) {rows:List (List Int)} {d:Nat}:∀ f ns vals chs i,i≤rows.length →
  szN (bO rec rows d f ns vals chs i).1+(bO rec rows d f ns vals chs i).2.1.length≤szN ns+vals.length+(rows.length-i)*(e+1)
 | 0,ns,vals,chs,i,_=>by unfold bO;show szN ns+vals.length≤_;omega
 | f+1,ns,vals,chs,i,hi=>by
  unfold bO
  split
  ·rename_i hlt
   obtain ⟨g1,g2⟩:=kL (d:=d) hlt
   have h1:=hr ns _ (tE (d:=d) hlt)
   rw [rU g2] at h1
   have h2:=w7 hr (rows:=rows) (d:=d) f (rec ns ((rows.take (dN rows d i)).drop i)).2 (vals++[(rows.getD i []).getD d 0]) (chs++[(rec ns ((rows.take (dN rows d i)).drop i)).1]) (dN rows d i) g2
   rw [List.length_append,List.length_singleton] at h2
   obtain ⟨t,ht⟩:∃ t,dN rows d i=i+(t+1):=⟨dN rows d i-i-1,by omega⟩
   obtain ⟨u,hu⟩:∃ u,rows.length=i+(t+1)+u:=⟨rows.length-dN rows d i,by omega⟩
   rw [ht] at h1 h2 ⊢
   rw [hu] at h2 ⊢
   rw [show i+(t+1)+u-i=(t+1)+u by omega,Nat.add_mul]
   rw [show i+(t+1)+u-(i+(t+1))=u by omega] at h2
   rw [show i+(t+1)-i=t+1 by omega] at h1
   have e2:(t+1)*(e+1)=(t+1)*e+(t+1):=Nat.mul_succ _ _
   omega
  ·show szN ns+vals.length≤_
   omega
theorem vH:∀ (e d:Nat) (ns:List aS) (rs:List (List Int)),szN (bJ e ns rs d).2≤szN ns+rs.length*e
 | 0,d,ns,rs=>by show szN ns≤_;omega
 | e+1,d,ns,rs=>by
  have h1:=w7 (e:=e) (fun ns rs _=>vH e (d+1) ns rs) (rows:=rs) (d:=d) rs.length ns [] [] 0 (by omega)
  unfold bJ
  have h2:=Cd (bO (fun ns rs=>bJ e ns rs (d+1)) rs d rs.length ns [] [] 0).1 (bO (fun ns rs=>bJ e ns rs (d+1)) rs d rs.length ns [] [] 0).2
  simp only [List.length_nil,Nat.add_zero,Nat.sub_zero] at h1
  omega
theorem Bp (n:Nat) (rows:List (List Int)):szN (dR n rows)≤rows.length*n:=by
 unfold dR
 by_cases h:rows=[]
 ·rw [if_pos h];exact Nat.zero_le _
 ·rw [if_neg h]
  have:=vH n 0 zN rows
  have e:szN zN=0:=rfl
  show szN (bJ n zN rows 0).2≤_
  omega

def nu (v:Int):aS:=([v],[0])
def pot (D:List Int) (ns:List aS):Nat:=2*ns.length+2*(D.filter fun v=>decide (nu v∉ns.drop 1)).length
theorem rj {α:Type} {p q:α→Bool}:∀ {l:List α},(∀ a∈l,p a=true→q a=true)→(l.filter p).length≤(l.filter q).length
 | [],_=>Nat.le_refl _
 | a :: l,h=>by
  have h1:=rj (l:=l) fun b hb=>h b (List.mem_cons_of_mem _ hb)
  rw [List.filter_cons,List.filter_cons]
  cases hp:p a with
  | false =>
   rw [if_neg (by decide)]
   split
   ·rw [List.length_cons];omega
   ·exact h1
  | true =>
   rw [h a List.mem_cons_self hp,if_pos rfl,if_pos rfl,List.length_cons,List.length_cons];omega
theorem vi {α:Type} {p q:α→Bool} {v:α} (hp:p v=false) (hq:q v=true):∀ {l:List α},(∀ a∈l,p a=true→q a=true)→v∈l→(l.filter p).length+1≤(l.filter q).length
 | [],_,hv=>by cases hv
 | a :: l,h,hv=>by
  have h1:=rj (p:=p) (q:=q) (l:=l) fun b hb=>h b (List.mem_cons_of_mem _ hb)
  rw [List.filter_cons,List.filter_cons]
  rcases List.mem_cons.1 hv with rfl | hv
  ·rw [hp,hq,if_neg (by decide),if_pos rfl,List.length_cons];omega
  ·have h2:=vi hp hq (l:=l) (fun b hb=>h b (List.mem_cons_of_mem _ hb)) hv
   cases hpa:p a with
   | false =>
    rw [if_neg (by decide)]
    split
    ·rw [List.length_cons];omega
    ·exact h2
   | true =>
    rw [h a List.mem_cons_self hpa,if_pos rfl,if_pos rfl,List.length_cons,List.length_cons];omega
theorem vt {ns:List aS} {x:aS}:∀ f i,lr ns x f i=none→∀ j,i≤j→j<i+f→ns.getD j ([],[])≠x
 | 0,i,_,j,h1,h2=>by omega
 | f+1,i,h,j,h1,h2=>by
  unfold lr at h
  split at h
  ·cases h
  ·rename_i hne
   by_cases e:j=i
   ·rw [e];exact hne
   ·exact vt f (i+1) h j (by omega) (by omega)
theorem w4 {ns:List aS} {x:aS} (h:1≤ns.length):(ns++[x]).drop 1=ns.drop 1++[x]:=by
 cases ns with
 | nil=>simp at h
 | cons a l=>rfl
theorem vb {D:List Int} {ns:List aS} {x:aS} (h:1≤ns.length):pot D (fY ns x).2≤pot D ns+2∧1≤(fY ns x).2.length:=by
 unfold fY
 split
 ·exact ⟨Nat.le_add_right _ _,h⟩
 ·show pot D (ns++[x])≤_∧1≤(ns++[x]).length
  refine ⟨?_,by simp⟩
  unfold pot
  rw [w4 h,List.length_append,List.length_singleton]
  have:=rj (p:=fun v=>decide (nu v∉ns.drop 1++[x])) (q:=fun v=>decide (nu v∉ns.drop 1)) (l:=D) fun a _ h1=>by
   rw [decide_eq_true_eq] at h1 ⊢
   exact fun h2=>h1 (List.mem_append_left _ h2)
  omega
theorem Cq {D:List Int} {ns:List aS} {v:Int} (h:1≤ns.length) (hv:v∈D):pot D (fY ns (nu v)).2≤pot D ns:=by
 unfold fY
 split
 ·exact Nat.le_refl _
 ·rename_i hf
  have hn:=vt _ _ hf
  show pot D (ns++[nu v])≤_
  unfold pot
  rw [w4 h,List.length_append,List.length_singleton]
  have:=vi (v:=v) (p:=fun w=>decide (nu w∉ns.drop 1++[nu v])) (q:=fun w=>decide (nu w∉ns.drop 1)) (l:=D) (decide_eq_false (by simp)) (by
   rw [decide_eq_true_eq]
   intro hm
   obtain ⟨j,hj,e⟩:=List.getElem_of_mem hm
   rw [List.getElem_drop] at e
   rw [List.length_drop] at hj
   refine hn (1+j) (by omega) (by omega) ?_
   rw [List.getD_eq_getElem?_getD,List.getElem?_eq_getElem (by omega),Option.getD_some]
   exact e) (fun a _ h1=>by
   rw [decide_eq_true_eq] at h1 ⊢
   exact fun h2=>h1 (List.mem_append_left _ h2)) hv
  omega
theorem vE {rec:List aS→List (List Int)→Int × List aS} {n d:Nat} (hdn:d<n) {rows:List (List Int)} {pre:List Int} (ha:fm rows) (hrow:∀ r∈rows,r.length=n∧r.take d=pre) {C:List Int} (hC:∀ r∈rows,r.getD d 0∈C) :
  ∀ f ns vals chs i,fH vals→(∀ v∈vals,v∈C)→(∀ v∈vals,∀ j,i≤j→j<rows.length→v<(rows.getD j []).getD d 0) →
   fH (bO rec rows d f ns vals chs i).2.1∧∀ v∈(bO rec rows d f ns vals chs i).2.1,v∈C
 | 0,ns,vals,chs,i,hv,hc,hb=>by unfold bO;exact ⟨hv,hc⟩
 | f+1,ns,vals,chs,i,hv,hc,hb=>by
  unfold bO
  split
  ·rename_i hlt
   have hgb:=kL (d:=d) hlt
   refine vE hdn ha hrow hC f _ _ _ _ ?_ (fun v hv'=>?_) (fun v hv' j h1 h2=>?_)
   ·refine List.pairwise_append.2 ⟨hv,List.pairwise_singleton _ _,fun a h1 b h2=>?_⟩
    rw [List.mem_singleton] at h2;subst h2
    exact hb a h1 i (Nat.le_refl _) hlt
   ·rcases List.mem_append.1 hv' with h | h
    ·exact hc v h
    ·rw [List.mem_singleton] at h;subst h
     rw [xk hlt]
     exact hC _ (List.getElem_mem hlt)
   ·rcases List.mem_append.1 hv' with h | h
    ·exact hb v h j (by omega) h2
    ·rw [List.mem_singleton] at h;subst h
     have hs:=rC (rows:=rows) (d:=d) (v:=(rows.getD i []).getD d 0) (rows.length-i) i (by show dN rows d i<_;omega)
     have hs:(rows.getD (dN rows d i) []).getD d 0≠(rows.getD i []).getD d 0:=hs
     have l1:=rR hdn ha hrow (show i≤dN rows d i by omega) (by omega)
     have l2:=rR hdn ha hrow h1 h2
     omega
  ·exact ⟨hv,hc⟩
theorem vq:∀ {l D:List Int},l.Nodup→(∀ v∈l,v∈D)→l.length≤D.length
 | [],_,_,_=>Nat.zero_le _
 | v :: l,D,hn,hs=>by
  obtain ⟨h1,h2⟩:=List.nodup_cons.1 hn
  have hv:=hs v List.mem_cons_self
  have:=vq (l:=l) (D:=D.erase v) h2 fun w hw=>by
   have hne:w≠v:=fun e=>h1 (by rw [← e];exact hw)
   exact (List.mem_erase_of_ne hne).2 (hs w (List.mem_cons_of_mem _ hw))
  rw [List.length_erase_of_mem hv] at this
  have hp:0<D.length:=List.length_pos_of_mem hv
  rw [List.length_cons];omega
theorem rJ {D:List Int} {rec:List aS→List (List Int)→Int × List aS} {n d t:Nat} (hdn:d<n) {rows:List (List Int)} {pre:List Int}
  (hr:∀ ns rs pre,1≤ns.length→rs≠[]→rs.Sublist rows→(∀ r∈rs,r.length=n∧r.take (d+1)=pre)→pot D (rec ns rs).2≤pot D ns+rs.length+2*t∧1≤(rec ns rs).2.length)
  (hrow:∀ r∈rows,r.length=n∧r.take d=pre):∀ f ns vals chs i,1≤ns.length→i≤rows.length →
  pot D (bO rec rows d f ns vals chs i).1+2*t*vals.length≤pot D ns+(rows.length-i)+2*t*(bO rec rows d f ns vals chs i).2.1.length∧1≤(bO rec rows d f ns vals chs i).1.length
 | 0,ns,vals,chs,i,h1,hi=>by
  unfold bO
  refine ⟨?_,h1⟩
  show pot D ns+2*t*vals.length≤pot D ns+(rows.length-i)+2*t*vals.length
  omega
 | f+1,ns,vals,chs,i,h1,hi=>by
  unfold bO
  split
  ·rename_i hlt
   obtain ⟨g1,g2⟩:=kL (d:=d) hlt
   obtain ⟨q1,q2⟩:=hr ns _ _ h1 (tE (d:=d) hlt) rX (u7 hdn hlt hrow)
   rw [rU g2] at q1
   obtain ⟨p1,p2⟩:=rJ hdn hr hrow f (rec ns ((rows.take (dN rows d i)).drop i)).2 (vals++[(rows.getD i []).getD d 0]) (chs++[(rec ns ((rows.take (dN rows d i)).drop i)).1]) (dN rows d i) q2 g2
   refine ⟨?_,p2⟩
   rw [List.length_append,List.length_singleton,Nat.mul_add,Nat.mul_one] at p1
   omega
  ·refine ⟨?_,h1⟩
   show pot D ns+2*t*vals.length≤pot D ns+(rows.length-i)+2*t*vals.length
   omega
def tN:Nat→Nat
 | 0=>0
 | 1=>0
 | e+2=>10*tN (e+1)+1
theorem uy {D:List Int} {n:Nat} {C:Nat→List Int} (hC:∀ j,(C j).length≤10) (hD:C (n-1)=D):∀ (e d:Nat),d+(e+1)=n→∀ ns rs pre,1≤ns.length→rs≠[]→fm rs→(∀ r∈rs,r.length=n∧r.take d=pre)→(∀ r∈rs,∀ j,j<n→r.getD j 0∈C j) →
  pot D (bJ (e+1) ns rs d).2≤pot D ns+rs.length+2*tN (e+1)∧1≤(bJ (e+1) ns rs d).2.length
 | 0,d,hd,ns,rs,pre,h1,hne,ha,hrow,hc=>by
  obtain ⟨p1,p2⟩:=rJ (D:=D) (rec:=fun ns rs=>bJ 0 ns rs (d+1)) (n:=n) (d:=d) (t:=0) (by omega) (rows:=rs) (pre:=pre) (fun ns rs pre h _ _ _=>⟨by show pot D ns≤_;omega,h⟩) hrow rs.length ns [] [] 0 h1 (by omega)
  have hloop:∀ f vals chs i,(bO (fun ns rs=>bJ 0 ns rs (d+1)) rs d f ns vals chs i).1=ns:=by
   intro f
   induction f with
   | zero=>intro vals chs i;rfl
   | succ f ih =>
    intro vals chs i
    unfold bO
    split
    ·exact ih _ _ _
    ·rfl
  unfold bJ
  by_cases hl:rs.length=1
  ·obtain ⟨r,rfl⟩:∃ r,rs=[r]:=List.length_eq_one_iff.1 hl
   have e1:bO (fun ns rs=>bJ 0 ns rs (d+1)) [r] d [r].length ns [] [] 0=(ns,nu (r.getD d 0)):=by
    show bO (fun ns rs=>bJ 0 ns rs (d+1)) [r] d 1 ns [] [] 0=_
    simp [bO,nu,bJ]
   rw [e1]
   have hv:r.getD d 0∈D:=by
    have:=hc r List.mem_cons_self d (by omega)
    rw [← hD]
    rw [show n-1=d by omega];exact this
   have h3:=Cq h1 hv
   have h4:=(vb (D:=D) (x:=nu (r.getD d 0)) h1).2
   exact ⟨Nat.le_trans h3 (by omega),h4⟩
  ·have h2:2≤rs.length:=by
    have:rs.length≠0:=fun h=>hne (List.length_eq_zero_iff.1 h)
    omega
   obtain ⟨q1,q2⟩:=vb (D:=D) (ns:=(bO (fun ns rs=>bJ 0 ns rs (d+1)) rs d rs.length ns [] [] 0).1) (x:=(bO (fun ns rs=>bJ 0 ns rs (d+1)) rs d rs.length ns [] [] 0).2) p2
   rw [hloop] at q1
   rw [hloop]
   rw [hloop] at q2
   exact ⟨Nat.le_trans q1 (by omega),q2⟩
 | e+1,d,hd,ns,rs,pre,h1,hne,ha,hrow,hc=>by
  obtain ⟨p1,p2⟩:=rJ (D:=D) (rec:=fun ns rs=>bJ (e+1) ns rs (d+1)) (n:=n) (d:=d) (t:=tN (e+1)) (by omega) (rows:=rs) (pre:=pre) (fun ns' rs' pre' k1 k2 k3 k4 =>
   uy hC hD e (d+1) (by omega) ns' rs' pre' k1 k2 (List.Pairwise.sublist k3 ha) k4 (fun r hr j hj=>hc r (k3.subset hr) j hj)) hrow rs.length ns [] [] 0 h1 (by omega)
  obtain ⟨a1,a2⟩:=vE (rec:=fun ns rs=>bJ (e+1) ns rs (d+1)) (n:=n) (d:=d) (by omega) ha hrow (C:=C d) (fun r hr=>hc r hr d (by omega)) rs.length ns [] [] 0 List.Pairwise.nil (by simp) (by simp)
  have a3:=vq (yd a1) a2
  have a4:=hC d
  have a5:=Nat.mul_le_mul_left (2*tN (e+1)) (Nat.le_trans a3 a4)
  show pot D (bJ (e+2) ns rs d).2≤pot D ns+rs.length+2*(10*tN (e+1)+1)∧_
  unfold bJ
  obtain ⟨q1,q2⟩:=vb (D:=D) (ns:=(bO (fun ns rs=>bJ (e+1) ns rs (d+1)) rs d rs.length ns [] [] 0).1) (x:=(bO (fun ns rs=>bJ (e+1) ns rs (d+1)) rs d rs.length ns [] [] 0).2) p2
  refine ⟨?_,q2⟩
  rw [List.length_nil,Nat.mul_zero] at p1
  omega
theorem Ex:∀ {n:Nat},n≤5→tN n≤1111
 | 0,_=>by decide
 | 1,_=>by decide
 | 2,_=>by decide
 | 3,_=>by decide
 | 4,_=>by decide
 | 5,_=>by decide
 | n+6,h=>by omega
theorem zb {n:Nat} {rows:List (List Int)} (h1:1≤n) (hn5:n≤5) (hl:rows.length≤4000) (ha:fm rows) (hrow:∀ r∈rows,r.length=n) {C:Nat→List Int} (hC:∀ j,(C j).length≤10) (hc:∀ r∈rows,∀ j,j<n→r.getD j 0∈C j):(dR n rows).length≤4000:=by
 unfold dR
 by_cases h:rows=[]
 ·rw [if_pos h];show 2≤4000;omega
 ·rw [if_neg h]
  obtain ⟨e,rfl⟩:∃ e,n=e+1:=⟨n-1,by omega⟩
  have hp:=(uy (D:=C (e+1-1)) (n:=e+1) hC rfl e 0 (by omega) zN rows [] (by decide) h ha (fun r hr=>⟨hrow r hr,rfl⟩) hc).1
  have ht:=Ex hn5
  have h0:pot (C (e+1-1)) zN≤22:=by
   unfold pot
   have:=List.length_filter_le (fun v=>decide (nu v∉zN.drop 1)) (C (e+1-1))
   have:=hC (e+1-1)
   have:zN.length=1:=rfl
   omega
  have h3:2*(bJ (e+1) zN rows 0).2.length≤pot (C (e+1-1)) (bJ (e+1) zN rows 0).2:=by unfold pot;omega
  show (bJ (e+1) zN rows 0).2.length≤4000
  omega
end Go.Proofs.YtnipkopfefkojaaGreat
namespace Go.Proofs.YtnipkopfefkojaaGreat
open Go.RowKit

theorem Bl {ts:List be} (h:DSm ts) (s:ByteArray):(bV ts s).1.2.length≤10:=by
 unfold bV
 cases lC ts with
 | false=>exact Nat.zero_le _
 | true =>
  rw [cond_true]
  cases hf:ts.find? (fun t=>decide (t.1=s)) with
  | none=>exact Nat.zero_le _
  | some t=>exact (h.2 t (List.mem_of_find?_eq_some hf)).2.1
theorem Ad {ts:List be} {n:Nat} {atoms:List aY} {order:List Int} (hd:DSm ts) (q:QFor ts n atoms order):∃ C:Nat→List Int,(∀ j,(C j).length≤10)∧∀ r∈(bz (bb ts order atoms) n []).1,∀ j,j<n→r.getD j 0∈C j:=by
 have key:∀ j:Nat,∃ L:List Int,L.length≤10∧(j<n→∀ r∈(bz (bb ts order atoms) n []).1,r.getD j 0∈L):=fun j=>by
  by_cases hj:j<n
  ·have hjo:j<order.length:=by rw [q.ol];exact hj
   have hv:=(ir q.os).2 _ (List.getElem_mem hjo)
   obtain ⟨a,ha,hm⟩:=q.cov order[j] (by omega) (by omega)
   refine ⟨(rO ts a).map fun x=>x.getD (cm a.2 order[j]).toNat 0,by rw [List.length_map];exact Bl hd a.1,fun _ r hr=>?_⟩
   obtain ⟨h1,h2⟩:=(An q).1 hr
   refine List.mem_map.2 ⟨_,h2 a ha,?_⟩
   obtain ⟨i,e1,hi,e2⟩:=nl hm
   rw [e1,Int.toNat_natCast,zr hi,e2]
   unfold ny
   rw [s4 (pH q) hjo,Int.toNat_natCast]
  ·exact ⟨[],Nat.zero_le _,fun h=>absurd h hj⟩
 obtain ⟨C,hC⟩:=Classical.axiomOfChoice key
 exact ⟨C,fun j=>(hC j).1,fun r hr j hj=>(hC j).2 hj r hr⟩
theorem Av {ts:List be} {n:Nat} {atoms:List aY} {order:List Int} (hd:DSm ts) (q:QFor ts n atoms order) (hl:(bz (bb ts order atoms) n []).1.length≤4000):(dR n (bz (bb ts order atoms) n []).1).length≤4000:=by
 obtain ⟨C,h1,h2⟩:=Ad hd q
 obtain ⟨_,w2,w3⟩:=lH (jn q) q.n5
 exact zb q.n1 q.n5 hl w3 (fun r hr=>(w2 r hr).1) h1 h2
theorem yO {ts:List be} {n:Nat} {atoms:List aY} {order:List Int} (q:QFor ts n atoms order):ep order=true:=by
 have h5:=q.n5
 unfold ep
 rw [q.ol,decide_eq_true (by omega),q.os];rfl
section
variable {N:Nat}
theorem szL {nodes:List aS} (hn:okN nodes):∀ (m i k:Nat) (s:Nat),i+m=nodes.length→m<k→s≤i*1048576→dL N k (s:Int) nodes (nodes.length:Int) (i:Int)=some (((s+((nodes.drop i).map fun x=>x.1.length).sum:Nat):Int),(nodes.length:Int)):=by
 have hl:=hn.1
 intro m
 induction m with
 | zero =>
  intro i k s hi hk hs
  obtain ⟨k,rfl⟩:∃ k',k=k'+1:=⟨k-1,by omega⟩
  obtain rfl:i=nodes.length:=by omega
  rw [dL,dge (by omega),cond_false,List.drop_length];rfl
 | succ m ih =>
  intro i k s hi hk hs
  obtain ⟨k,rfl⟩:∃ k',k=k'+1:=⟨k-1,by omega⟩
  have h:i<nodes.length:=by omega
  have h1:=(hn.2 _ (List.getElem_mem h)).1.1
  have hmul:=Nat.mul_le_mul_right 1048576 (show i+1≤1048576 by omega)
  rw [Nat.add_mul] at hmul
  rw [dL,dlt h,cond_true,aR h,bs,gZ (by omega) (by omega),bs,ad1 (by omega),bs]
  have:=ih (i+1) k (s+nodes[i].1.length) (by omega) (by omega) (by rw [Nat.add_mul];omega)
  rw [eT h,List.map_cons,List.sum_cons,← Nat.add_assoc]
  exact this
theorem nD (hN:1073741824≤N) {order:List Int} {nodes:List aS} (hn:okN nodes):fE N order nodes=some (szN nodes:Int):=by
 have hl:=hn.1
 unfold fE
 rw [show (0:Int)=((0:Nat):Int) from rfl,szL hn nodes.length 0 N 0 (by omega) (by omega) (by omega),bs,lpB]
 simp [szN]
end
end Go.Proofs.YtnipkopfefkojaaGreat
namespace Go.Proofs.YtnipkopfefkojaaGreat
open Go.RowKit
theorem qC {N:Nat} (hM:1073742848≤N) {x0:List Int} (_:(mj (fun _=>True) 9223372036854775807) x0) (g0:∀ v∈x0,0≤v∧v≤255):io N x0=some true:=by
 have hN:1073741824≤N:=by omega
 unfold io pG
 rw [bs]
 by_cases hb:(1048576:Int)<(x0.length:Int)
 ·rw [decide_eq_true hb];rfl
 ·rw [decide_eq_false hb,cond_false]
  have hc:eQ x0:=⟨by omega,fun v hv=>g0 v hv⟩
  obtain ⟨ts,⟨n,ats,out⟩,o,e1,hj⟩:=qQ hM hc
  have d1:=hj.1.ok;have d2:=hj.2.1.atoms;have d3:=hj.2.1.out;have d4:=hj.o
  rw [e1,bs]
  dsimp only at d2 d3 ⊢
  have hr:=y2 (ts:=ts) (n:=n) (atoms:=ats) (out:=out) (order:=o)
  rw [ss hM d1 d2 d3 d4,bs,pp hM d1 d2 d3 d4,bs]
  unfold zc
  cases ht:(eu ts n ats out o).2.2 with
  | false=>rfl
  | true =>
   obtain ⟨m,rfl,q,ho,e2,hl⟩:=CU ht
   obtain ⟨w1,w2,w3⟩:=lH (jn q) q.n5
   have h5:=q.n5
   have hal:mC m (bz (bb ts o ats) m []).1:=⟨hl,fun i hi=>by rw [xk hi];exact (w2 _ (List.getElem_mem hi)).1⟩
   have p3:okN (dR m (bz (bb ts o ats) m []).1):=Bk h5 hal
   have h4:=Av hj.1 q hl
   have hp:=yO q
   have r1:∀ r∈(bz (bb ts o ats) m []).1,r.length=m:=fun r hr=>(w2 r hr).1
   have v1:∀ r∈(bz (bb ts o ats) m []).1,bi r=true:=fun r hr=>(w2 r hr).2
   obtain ⟨x1,x2⟩:=wM w3 r1 v1 h4 hl hp q.ol
   have hv:=sF w3 r1 v1 h4 hp q.ol
   have hsz:=Bp m (bz (bb ts o ats) m []).1
   have hmul:=Nat.mul_le_mul hl h5
   rw [e2,cond_true,Int.toNat_natCast]
   dsimp only
   rw [bne_self_eq_false,cond_false,cond_true,nb hN d4 p3,bs,x1,gP hN d4 p3,bs,hv,cond_true,mz hN d4 p3,bs,hv,cond_true]
   dsimp only
   rw [cond_true,oQ hN w1 w1,bs,decide_eq_true rfl,cond_true,j6 hN d4 p3,bs,x2,beq_self_eq_true,cond_true,nD hN p3,bs,q.ol]
   have hc1:((bz (bb ts o ats) m []).1.length:Int)*(m:Int)=((((bz (bb ts o ats) m []).1.length*m:Nat)):Int):=by simp
   rw [tD (by rw [hc1];omega) (by rw [hc1];omega),bs,hc1,decide_eq_true (show (szN (dR m (bz (bb ts o ats) m []).1):Int)≤(((bz (bb ts o ats) m []).1.length*m:Nat):Int) by omega),cond_true,wW hN d4.1,bs,decide_eq_true rfl]
end Go.Proofs.YtnipkopfefkojaaGreat
namespace Go.Proofs.YtnipkopfefkojaaGreat
open Go.RowKit
section
variable {P:Program} {n:Nat} {Q Q':Exit→Env→World→Prop} {K:Env→World→Prop} {KQ:Env→Prop} {e:Env} {w w0:World} {c y:Code} {x:Exit} {ops:Array Oper} {rest:List Oper}
variable {d:Nat} {op:Op} {ty:TypeId} {pos:String} {af:Array Edge} {o z1 z2 z3:Operand} {v:Value} {q1:Oper}
theorem dt {p:Prop} [Decidable p] (h:decide p=true):p:=of_decide_eq_true h
theorem sg (h:∀ Q':Exit→Env→World→Prop,(∀ x e w,thn (fun e w=>CW P n y Q e w) Q x e w→Q' x e w)→CW P n c Q' e w):CW P n (.seq c y) Q e w:=A4 (ux h)
theorem sR {id:Nat} {l:List Oper} (h:∀ Q':Exit→Env→World→Prop,(∀ x e w,thn (fun e w=>CW P n y Q e w) Q x e w→Q' x e w)→EL P n l.toArray (fun e w=>Q' .normal e w) l e w):CW P n (.seq (.region id l.toArray false) y) Q e w:=A4 (ux fun Q' q=>ah (h Q' q))
theorem gn (h:∀ Q':Exit→Env→World→Prop,(∀ x e w,Q x e w→Q' x e w)→CW P n c Q' e w):CW P n c Q e w:=ux h
theorem bg {i:Nat} (h:∀ Q':Exit→Env→World→Prop,(∀ x e w,inb i Q x e w→Q' x e w)→CW P n c Q' e w):CW P n (.block i c) Q e w:=Ba (ux h)
theorem hq {f:Exit→Env→World→Prop} (h:∀ x e w,f x e w→Q' x e w) (k:f x e w):Q' x e w:=h _ _ _ k
theorem tn (h:∀ x e w,thn K Q x e w→Q' x e w) (k:K e w):Q' .normal e w:=h _ _ _ k
theorem tr (h:∀ x e w,thn K Q x e w→Q' x e w) (k:Q .ret e w):Q' .ret e w:=h _ _ _ k
theorem tx {i:Nat} (h:∀ x e w,thn K Q x e w→Q' x e w) (k:Q (.exit i) e w):Q' (.exit i) e w:=h _ _ _ k
theorem bn {i:Nat} (h:∀ x e w,inb i Q x e w→Q' x e w) (k:Q .normal e w):Q' .normal e w:=h _ _ _ k
theorem br {i:Nat} (h:∀ x e w,inb i Q x e w→Q' x e w) (k:Q .ret e w):Q' .ret e w:=h _ _ _ k
theorem bS {i:Nat} (h:∀ x e w,inb i Q x e w→Q' x e w) (k:Q .normal e w):Q' (.exit i) e w:=h _ _ _ (Eu k)
theorem en (h:∀ x e w,thn K Q x e w→Q' x e w) (k:K e w):EL P n ops (fun e w=>Q' .normal e w) [] e w:=ag (h _ _ _ k)
theorem sn (h:∀ x e w,thn K Q x e w→Q' x e w) (k:K e w):CW P n .skip Q' e w:=aV (h _ _ _ k)
theorem pa (v:Value) (hK:EL P n ops K rest (upd e d v) w) (hx:ev e o=v:=by exact rfl) (hd:d<n:=by decide):EL P n ops K (⟨some d,.assign o,ty,pos,af,none⟩ :: rest) e w:=mS (cj hx) hd hK
theorem pm (v:Value) (hK:EL P n ops K rest (upd e d v) w) (hx:ev e o=v:=by exact rfl) (hd:d<n:=by decide):EL P n ops K (⟨some d,.move o,ty,pos,af,none⟩ :: rest) e w:=mS (aN hx) hd hK
theorem pM (v:Value) (hx:ev e o=v) (hK:EL P n ops K rest (upd e d v) w) (hd:d<n:=by decide):EL P n ops K (⟨some d,.move o,ty,pos,af,none⟩ :: rest) e w:=mS (aN hx) hd hK
theorem pe (v:Value) (hp:PV P ⟨some d,op,ty,pos,af,none⟩ e w v) (hK:EL P n ops K rest (upd e d v) w) (hd:d<n:=by decide):EL P n ops K (⟨some d,op,ty,pos,af,none⟩ :: rest) e w:=mS hp hd hK
theorem qe (v:Value) (hp:PV P ⟨some d,op,ty,pos,af,none⟩ e w v) (hK:QL P n ops w KQ rest (upd e d v)) (hd:d<n:=by decide):QL P n ops w KQ (⟨some d,op,ty,pos,af,none⟩ :: rest) e:=rP hp hd hK
theorem qm (v:Value) (hK:QL P n ops w KQ rest (upd e d v)) (hx:ev e o=v:=by exact rfl) (hd:d<n:=by decide):QL P n ops w KQ (⟨some d,.move o,ty,pos,af,none⟩ :: rest) e:=rP (aN hx) hd hK
theorem qM (v:Value) (hx:ev e o=v) (hK:QL P n ops w KQ rest (upd e d v)) (hd:d<n:=by decide):QL P n ops w KQ (⟨some d,.move o,ty,pos,af,none⟩ :: rest) e:=rP (aN hx) hd hK
theorem eo {j:Nat} {b b' c:Bool} (hc:c=b) (hK:EL P n ops K rest (upd e d undef) w) (h:yld ops e j=some c:=by exact rfl) (hb:(b == b')=false:=by exact rfl) (hd:d<n:=by decide):EL P n ops K (⟨some d,op,ty,pos,af,some (j,b')⟩ :: rest) e w:=DD h hc hb hd hK
theorem qo {j:Nat} {b b' c:Bool} (hc:c=b) (hK:QL P n ops w KQ rest (upd e d undef)) (h:yld ops e j=some c:=by exact rfl) (hb:(b == b')=false:=by exact rfl) (hd:d<n:=by decide):QL P n ops w KQ (⟨some d,op,ty,pos,af,some (j,b')⟩ :: rest) e:=D2 h hc hb hd hK
theorem ei {j:Nat} {b c:Bool} {dst:Option Nat} (hc:c=b) (hK:EL P n ops K (⟨dst,op,ty,pos,af,none⟩ :: rest) e w) (h:yld ops e j=some c:=by exact rfl):EL P n ops K (⟨dst,op,ty,pos,af,some (j,b)⟩ :: rest) e w:=EB h hc hK
theorem qi {j:Nat} {b c:Bool} {dst:Option Nat} (hc:c=b) (hK:QL P n ops w KQ (⟨dst,op,ty,pos,af,none⟩ :: rest) e) (h:yld ops e j=some c:=by exact rfl):QL P n ops w KQ (⟨dst,op,ty,pos,af,some (j,b)⟩ :: rest) e:=Et h hc hK
theorem ct {b:Bool} (hb:b=true) (h:CW P n c Q e w) (hc:ev e o=.bool b:=by exact rfl):CW P n (.cond o c y) Q e w:=Ab hc hb h
theorem cf {b:Bool} (hb:b=false) (h:CW P n y Q e w) (hc:ev e o=.bool b:=by exact rfl):CW P n (.cond o c y) Q e w:=AE hc hb h
theorem rB {a b:Bool} {Γ:List Asn} (h:some a=some b) (hS:Sat w0 w Γ):Ending.returned (.bool a)=.returned (.bool b)∧Ext w0 w:=⟨by rw [Option.some.inj h],hS.below⟩
theorem rI {a b:Int} {Γ:List Asn} (h:some a=some b) (hS:Sat w0 w Γ):Ending.returned (.int .i64 a)=.returned (.int .i64 b)∧Ext w0 w:=⟨by rw [Option.some.inj h],hS.below⟩
abbrev i_ (x:Int):Value:=.int .i64 x
abbrev n_:Value:=.slice none 0 0
theorem ec0 {f:FuncId} {args:Array Operand} {tys:Array TypeId} {vals:Array Value} {Γ:List Asn} (hg:Goes P f) (hc:Calls P f vals w fun x w'=>x=.returned v∧Ext w w') (hv:(args.toList.map (ev e)).toArray=vals) (S:Sat w0 w Γ)
  (hK:∀ w',Ext w w'→Sat w0 w' Γ→EL P n ops K rest (upd e d v) w') (hd:d<n:=by decide):EL P n ops K (⟨some d,.call ⟨.value (.func f),args,tys⟩,ty,pos,af,none⟩ :: rest) e w :=
 aX hg hc hv hd (by rintro _ w' ⟨rfl,hx⟩;exact ⟨_,rfl,hK w' hx (S.ext hx)⟩)
theorem ec1 {f:FuncId} {args:Array Operand} {tys:Array TypeId} {vals:Array Value} {Γ:List Asn} {G:Value→Value} {A:Value→Asn} (hg:Goes P f) (hc:Calls P f vals w fun x w'=>∃ v,x=.returned (G v)∧Sat w w' [A v]) (hv:(args.toList.map (ev e)).toArray=vals) (S:Sat w0 w Γ)
  (hK:∀ w' v,Ext w w'→Sat w0 w' (A v :: Γ)→EL P n ops K rest (upd e d (G v)) w') (hd:d<n:=by decide):EL P n ops K (⟨some d,.call ⟨.value (.func f),args,tys⟩,ty,pos,af,none⟩ :: rest) e w :=
 aX hg hc hv hd (by rintro _ w' ⟨v,rfl,S'⟩;exact ⟨_,rfl,hK w' v S'.below (S.call1 S')⟩)
theorem aO {X:List Nat} {C:World→Prop} (i:Nat) {f:Nat} {L:Array Bool} (ho:ops[i]? = some q1)
  (h:EL P n ops (fun e' w'=>(X.contains i=true→C w')∧AL P n ops X C K f (L.setIfInBounds i true) e' w') [q1] e w) (hr:Region.ready .any ops L=[i]:=by kernel_rfl):AL P n ops X C K (f+1) L e w:=Ec i hr ho h
theorem aP {X:List Nat} {C:World→Prop} (v:Value) (i:Nat) {f:Nat} {L:Array Bool} (hi:ops[i]? = some q1) (hdst:q1.dst=some d) (hC:C w)
  (hy:SV P n ops C q1 e v) (hK:AL P n ops X C K f (L.setIfInBounds i true) (upd e d v) w) (hsel:mW ops=true:=by kernel_rfl) (hdn:d<n:=by decide) (hf:oK ops X L i q1=true:=by kernel_rfl) (hr:(Region.ready .any ops L).contains i=true:=by kernel_rfl):AL P n ops X C K (f+1) L e w:=yT hsel i hi hdst hdn hC hf hr hy hK
theorem ca {α β:Type} {f:α→β} {l:List α} {m:List β} (h:l.map f=m):(l.map f).toArray=m.toArray:=congrArg List.toArray h
theorem Sat.t1 {a0 a1:Asn} {Γ:List Asn} (h:Sat w0 w (a0 :: a1 :: Γ)):Sat w0 w (a1 :: a0 :: Γ):=h.top 1 rfl
theorem Sat.t2 {a0 a1 a2:Asn} {Γ:List Asn} (h:Sat w0 w (a0 :: a1 :: a2 :: Γ)):Sat w0 w (a2 :: a0 :: a1 :: Γ):=h.top 2 rfl
theorem Sat.t3 {a0 a1 a2 a3:Asn} {Γ:List Asn} (h:Sat w0 w (a0 :: a1 :: a2 :: a3 :: Γ)):Sat w0 w (a3 :: a0 :: a1 :: a2 :: Γ):=h.top 3 rfl
theorem Sat.t4 {a0 a1 a2 a3 a4:Asn} {Γ:List Asn} (h:Sat w0 w (a0 :: a1 :: a2 :: a3 :: a4 :: Γ)):Sat w0 w (a4 :: a0 :: a1 :: a2 :: a3 :: Γ):=h.top 4 rfl
theorem Sat.t5 {a0 a1 a2 a3 a4 a5:Asn} {Γ:List Asn} (h:Sat w0 w (a0 :: a1 :: a2 :: a3 :: a4 :: a5 :: Γ)):Sat w0 w (a5 :: a0 :: a1 :: a2 :: a3 :: a4 :: Γ):=h.top 5 rfl
theorem Sat.t6 {a0 a1 a2 a3 a4 a5 a6:Asn} {Γ:List Asn} (h:Sat w0 w (a0 :: a1 :: a2 :: a3 :: a4 :: a5 :: a6 :: Γ)):Sat w0 w (a6 :: a0 :: a1 :: a2 :: a3 :: a4 :: a5 :: Γ):=h.top 6 rfl
theorem Sat.t7 {a0 a1 a2 a3 a4 a5 a6 a7:Asn} {Γ:List Asn} (h:Sat w0 w (a0 :: a1 :: a2 :: a3 :: a4 :: a5 :: a6 :: a7 :: Γ)):Sat w0 w (a7 :: a0 :: a1 :: a2 :: a3 :: a4 :: a5 :: a6 :: Γ):=h.top 7 rfl
theorem Sat.t8 {a0 a1 a2 a3 a4 a5 a6 a7 a8:Asn} {Γ:List Asn} (h:Sat w0 w (a0 :: a1 :: a2 :: a3 :: a4 :: a5 :: a6 :: a7 :: a8 :: Γ)):Sat w0 w (a8 :: a0 :: a1 :: a2 :: a3 :: a4 :: a5 :: a6 :: a7 :: Γ):=h.top 8 rfl
theorem Sat.r0 {a0:Asn} {Γ:List Asn} (h:Sat w0 w (a0 :: Γ)):Sat w0 w (Γ):=h.rem 0 rfl
theorem Sat.r1 {a0 a1:Asn} {Γ:List Asn} (h:Sat w0 w (a0 :: a1 :: Γ)):Sat w0 w (a0 :: Γ):=h.rem 1 rfl
theorem Sat.r2 {a0 a1 a2:Asn} {Γ:List Asn} (h:Sat w0 w (a0 :: a1 :: a2 :: Γ)):Sat w0 w (a0 :: a1 :: Γ):=h.rem 2 rfl
theorem Sat.r3 {a0 a1 a2 a3:Asn} {Γ:List Asn} (h:Sat w0 w (a0 :: a1 :: a2 :: a3 :: Γ)):Sat w0 w (a0 :: a1 :: a2 :: Γ):=h.rem 3 rfl
theorem Sat.r4 {a0 a1 a2 a3 a4:Asn} {Γ:List Asn} (h:Sat w0 w (a0 :: a1 :: a2 :: a3 :: a4 :: Γ)):Sat w0 w (a0 :: a1 :: a2 :: a3 :: Γ):=h.rem 4 rfl
theorem Sat.r5 {a0 a1 a2 a3 a4 a5:Asn} {Γ:List Asn} (h:Sat w0 w (a0 :: a1 :: a2 :: a3 :: a4 :: a5 :: Γ)):Sat w0 w (a0 :: a1 :: a2 :: a3 :: a4 :: Γ):=h.rem 5 rfl
theorem Sat.r6 {a0 a1 a2 a3 a4 a5 a6:Asn} {Γ:List Asn} (h:Sat w0 w (a0 :: a1 :: a2 :: a3 :: a4 :: a5 :: a6 :: Γ)):Sat w0 w (a0 :: a1 :: a2 :: a3 :: a4 :: a5 :: Γ):=h.rem 6 rfl
theorem Sat.r7 {a0 a1 a2 a3 a4 a5 a6 a7:Asn} {Γ:List Asn} (h:Sat w0 w (a0 :: a1 :: a2 :: a3 :: a4 :: a5 :: a6 :: a7 :: Γ)):Sat w0 w (a0 :: a1 :: a2 :: a3 :: a4 :: a5 :: a6 :: Γ):=h.rem 7 rfl
theorem Sat.r8 {a0 a1 a2 a3 a4 a5 a6 a7 a8:Asn} {Γ:List Asn} (h:Sat w0 w (a0 :: a1 :: a2 :: a3 :: a4 :: a5 :: a6 :: a7 :: a8 :: Γ)):Sat w0 w (a0 :: a1 :: a2 :: a3 :: a4 :: a5 :: a6 :: a7 :: Γ):=h.rem 8 rfl
theorem Sat.r9 {a0 a1 a2 a3 a4 a5 a6 a7 a8 a9:Asn} {Γ:List Asn} (h:Sat w0 w (a0 :: a1 :: a2 :: a3 :: a4 :: a5 :: a6 :: a7 :: a8 :: a9 :: Γ)):Sat w0 w (a0 :: a1 :: a2 :: a3 :: a4 :: a5 :: a6 :: a7 :: a8 :: Γ):=h.rem 9 rfl
end
end Go.Proofs.YtnipkopfefkojaaGreat
namespace Go.Proofs.YtnipkopfefkojaaGreat
open Go.RowKit
abbrev R0_:=aB bZ 3
abbrev R1_:=aB ke 9
abbrev R2_:=pN R0_ 28
abbrev R3_:=aB R0_ 28
abbrev R4_:=oi ke R0_
abbrev R5_:=oi R0_ R0_
abbrev R6_:=oi bZ R3_
abbrev R7_:=aB R4_ 95
abbrev R8_:=aB R5_ 72
abbrev R9_:=aB R6_ 90
abbrev nR:=oi ke R6_
abbrev bI:=aB nR 131
abbrev T0_:=List Int
abbrev T1_:=List T0_
abbrev T2_:=List Int × List Int
abbrev T3_:=ByteArray × List Int
abbrev T4_:=Int × List T0_
abbrev T5_:=List T2_
abbrev T6_:=List T4_
abbrev T7_:=ByteArray × T4_
abbrev T8_:=List Int × List T2_
abbrev T9_:=List T7_
abbrev cC:=Int × List T3_ × List Int
end Go.Proofs.YtnipkopfefkojaaGreat
namespace Go.Proofs.YtnipkopfefkojaaGreat
open Go.RowKit
set_option maxRecDepth 100000
set_option maxHeartbeats 4000000
theorem ya {w0:World} {u0:Value} {a0:List Int} (ha0:(aB u8R 5).rd w0 [u0] a0) {N:Nat} {r:Bool} (F:pG N a0=some r): Calls Tryz.prog 5 #[u0] w0 fun e w'=>e=.returned (.bool r)∧Ext w0 w' := by
 unfold pG at F;refine aJ Tryz.func5 rfl rfl (dt rfl) ?_;have S:=Sat.start w0;refine sR fun _ J=>?_;refine pa (.bool false) (en J ?_);refine sR fun _ U=>?_;refine pm u0 (pe (i_ (a0.length:Int)) (aq rfl ha0) (pe (.bool (decide (1048576 < (a0.length:Int)))) (bA rfl rfl) (pa (.bool (decide (1048576 < (a0.length:Int)))) (en U (aj (aH rfl rfl ?_))))));exact rB F S
theorem vN {w0:World} {u0:Value} {a0:List Int} (ha0:(aB u8R 5).rd w0 [u0] a0) {N:Nat} {r:Int × Int} (F:lY N a0=some r): Calls Tryz.prog 20 #[u0] w0 fun e w'=>∃ (q0:Nat),e=.returned (.pointer (some ⟨q0,0,none⟩))∧Sat w0 w' [Box q0 77 [u0,i_ r.1,i_ r.2]] := by
 unfold lY at F;refine aJ Tryz.func20 rfl rfl (dt rfl) ?_;have S:=Sat.start w0;refine sR fun _ E5=>?_;refine pa (.pointer none) (en E5 ?_);refine sR fun _ E6=>?_;refine pm u0 (pe (i_ (a0.length:Int)) (aq rfl ha0) ?_);obtain ⟨EO,EX,F⟩:=ob F;refine pe (i_ EO) (aD rfl rfl EX) (pa (i_ EO) (en E6 ?_));refine sg fun _ ET=>?_;refine sR fun _ E7=>?_;refine pa (i_ 0) (en E7 ?_);refine bg fun _ EU=>?_;obtain ⟨E8,hL,ES⟩:=ob F;refine aF (fun k e w=>∃ (J:Int),∃ (U:Int),e 0=u0∧e 3=i_ J∧e 4=i_ U∧Sat w0 w []∧hJ N k a0 J U=some E8) N ?_ ?_ ?_
 ·exact ⟨EO,0,rfl,rfl,rfl,S,hL⟩
 ·rintro e w ⟨_,_,_,_,_,_,hz⟩; exact nomatch (show none=some _ from hz)
 rintro k Fk Fl ⟨J,U,Z,EI,EH,S,F⟩;refine gn fun _ EP=>?_;refine sg fun _ EQ=>?_;refine sR fun _ EV=>?_;refine pM (i_ U) EH (pM u0 Z (pe (i_ (a0.length:Int)) (aq rfl ha0) (pe (.bool (decide (U < (a0.length:Int)))) (aL rfl rfl) (pm (.bool (decide (U < (a0.length:Int)))) ?_))));rcases oif F with ⟨Y,F⟩|⟨Y,F⟩
 ·refine ei Y (pM (i_ U) EH (ei Y (pe (.bool (decide (U < 4000))) (aL rfl rfl) (pe (.bool (decide (U < 4000))) (aw rfl Y rfl) (en EV ?_)))));rcases oif F with ⟨EJ,F⟩|⟨EJ,F⟩
  ·refine ct EJ (sn EQ ?_);refine sg fun _ E9=>?_;refine bg fun _ Fa=>?_;refine ah (pM (i_ J) EI ?_);obtain ⟨Fb,EY,F⟩:=ob F;refine pe (i_ Fb) (qI rfl rfl EY) (pM u0 Z (pM (i_ U) EH ?_));obtain ⟨EW,EZ,F⟩:=ob F;refine aE (wA:=w0) rfl ha0 rfl (dt rfl) rfl EZ (dt rfl) ?_;intro Fm Fh Fn E0 E1;obtain rfl:=E0;refine pe (.int .u8 EW) (ac rfl ((ak S.below E1) 0 _ rfl)) (pe (i_ (IntKind.i64.wrap EW)) (wx Tryz.underlying5 Tryz.underlying3 rfl) ?_);obtain ⟨Fc,E2,F⟩:=ob F;refine pe (i_ Fc) (aD rfl rfl E2) ?_;obtain ⟨EK,E3,F⟩:=ob F;refine pe (i_ EK) (aD rfl rfl E3) (pe (i_ (gH EK 1073741823)) (xl rfl rfl) (pa (i_ (gH EK 1073741823)) (ag (bn Fa (tn E9 (ah (pM (i_ U) EH ?_)))))));obtain ⟨ER,E4,F⟩:=ob F;refine pe (i_ ER) (aD rfl rfl E4) (pa (i_ ER) (en EP ?_));replace S:=S.keep 0;exact ⟨(gH EK 1073741823),ER,Z,rfl,rfl,S,F⟩
  refine cf EJ (aG (tx EQ (tx EP ?_)));replace F:=exB F ES;refine bS EU (tn ET ?_);refine sR fun _ Fd=>?_;refine pM u0 Z (pM (i_ J) EI (pe (.agg #[u0,i_ 0,i_ J]) (bj [(0,[u0]),(2,[i_ J])] [u0,i_ 0,i_ J] (cJ (aM rfl (oc ha0)) (cJ rfl rfl)) rfl) ?_));refine bo [u0,i_ 0,i_ J] rfl S (dt rfl) ?_;intro Fe EM S Fi;refine pa (.pointer (some ⟨EM,0,none⟩)) (en Fd (aj (aH rfl rfl ?_)));have hr:=Option.some.inj F;exact ⟨EM,congrArg (fun (r:Int × Int)=>Ending.returned (.pointer (some ⟨EM,0,none⟩))) hr,Eq.mp (congrArg (fun (r:Int × Int)=>Sat w0 Fe [Box EM 77 [u0,i_ r.1,i_ r.2]]) hr) (S.keep 1)⟩
 refine eo Y (eo Y (pe (.bool false) (ax rfl Y rfl) (en EV (cf rfl (aG (tx EQ (tx EP ?_)))))));replace F:=exB F ES;refine bS EU (tn ET ?_);refine sR fun _ Ff=>?_;refine pM u0 Z (pM (i_ J) EI (pe (.agg #[u0,i_ 0,i_ J]) (bj [(0,[u0]),(2,[i_ J])] [u0,i_ 0,i_ J] (cJ (aM rfl (oc ha0)) (cJ rfl rfl)) rfl) ?_));refine bo [u0,i_ 0,i_ J] rfl S (dt rfl) ?_;intro Fg EN S Fj;refine pa (.pointer (some ⟨EN,0,none⟩)) (en Ff (aj (aH rfl rfl ?_)));have hr:=Option.some.inj F;exact ⟨EN,congrArg (fun (r:Int × Int)=>Ending.returned (.pointer (some ⟨EN,0,none⟩))) hr,Eq.mp (congrArg (fun (r:Int × Int)=>Sat w0 Fg [Box EN 77 [u0,i_ r.1,i_ r.2]]) hr) (S.keep 1)⟩
theorem jy {w0:World} {Z:World} {G0:List Asn} {b0:Nat} {u0:Value} {a0:List Int} {a1:Int} {a2:Int} (ha0:(aB u8R 5).rd Z [u0] a0) (S:Sat Z w0 (Box b0 77 [u0,i_ a1,i_ a2] :: G0)) {N:Nat} {r:Int × Int × Int} (F:gQ N a0 a1 a2=some r): Calls Tryz.prog 47 #[.pointer (some ⟨b0,0,none⟩)] w0 fun e w'=>e=.returned (i_ r.1)∧Sat Z w' (Box b0 77 [u0,i_ r.2.1,i_ r.2.2] :: G0) := by
 unfold gQ at F;refine aJ Tryz.func47 rfl rfl (dt rfl) ?_;refine sR fun _ ET=>?_;refine pa (i_ 0) (en ET ?_);refine sR fun _ EU=>?_;refine pm (.pointer (some ⟨b0,0,none⟩)) (pm (.pointer (some ⟨b0,0,none⟩)) (pe (.pointer (some ⟨b0,0,none⟩)) (dv rfl) (pe (.pointer (some ⟨b0,0 + 2,none⟩)) (ae rfl) (pe (i_ a2) (ac rfl ((S.boxAt 0 rfl) 2 _ rfl)) (pe (i_ (IntKind.i64.wrap (a2 * 6364136223846793005))) (CE rfl rfl) (pe (i_ (IntKind.i64.wrap ((IntKind.i64.wrap (a2 * 6364136223846793005)) + 1442695040888963407))) (uX rfl rfl) (pe (.pointer (some ⟨b0,0,none⟩)) (dv rfl) (pe (.pointer (some ⟨b0,0 + 2,none⟩)) (ae rfl) ?_))))))));refine ap (S.top 0 rfl) rfl [i_ (IntKind.i64.wrap ((IntKind.i64.wrap (a2 * 6364136223846793005)) + 1442695040888963407))] rfl rfl (dt rfl) (all_cons rfl rfl) ?_;intro EV S;replace S:Sat Z EV (Box b0 77 [u0,i_ a1,i_ (IntKind.i64.wrap ((IntKind.i64.wrap (a2 * 6364136223846793005)) + 1442695040888963407))] :: G0):=S;refine en EU ?_;refine sg fun _ EW=>?_;refine bF (by kernel_rfl) (by kernel_rfl) ?_;refine qm (.pointer (some ⟨b0,0,none⟩)) (qe (.pointer (some ⟨b0,0,none⟩)) (dv rfl) (qe (.pointer (some ⟨b0,0 + 2,none⟩)) (ae rfl) (qe (i_ (IntKind.i64.wrap ((IntKind.i64.wrap (a2 * 6364136223846793005)) + 1442695040888963407))) (ac rfl ((S.boxAt 0 rfl) 2 _ rfl)) ?_)));obtain ⟨J,EK,F⟩:=ob F;refine qe (i_ J) (AC rfl rfl EK) (qm (.pointer (some ⟨b0,0,none⟩)) (qe (.pointer (some ⟨b0,0,none⟩)) (dv rfl) (qe (.pointer (some ⟨b0,0 + 2,none⟩)) (ae rfl) (qe (i_ (IntKind.i64.wrap ((IntKind.i64.wrap (a2 * 6364136223846793005)) + 1442695040888963407))) (ac rfl ((S.boxAt 0 rfl) 2 _ rfl)) ?_))));obtain ⟨U,EM,F⟩:=ob F;refine qe (i_ U) (AC rfl rfl EM) (qe (i_ (ky J U)) (Ea rfl rfl) (qe (i_ (gH (ky J U) 255)) (xl rfl rfl) (qe (i_ (gH (ky J U) 255)) (cj rfl) (aZ ?_))));intro E3 EN;replace S:=S.ext EN;refine tn EW ?_;refine sg fun _ EI=>?_;refine sg fun _ EX=>?_;refine bF (by kernel_rfl) (by kernel_rfl) ?_;refine qm (.pointer (some ⟨b0,0,none⟩)) (qe (.pointer (some ⟨b0,0,none⟩)) (dv rfl) (qe (.pointer (some ⟨b0,0 + 1,none⟩)) (ae rfl) (qe (i_ a1) (ac rfl ((S.boxAt 0 rfl) 1 _ rfl)) (qm (.pointer (some ⟨b0,0,none⟩)) (qe (.pointer (some ⟨b0,0,none⟩)) (dv rfl) (qe (.pointer (some ⟨b0,0 + 0,none⟩)) (ae rfl) (qe u0 (ac rfl ((S.boxAt 0 rfl) 0 _ rfl)) (qe (i_ (a0.length:Int)) (aq rfl ha0) (qe (.bool (decide (a1 < (a0.length:Int)))) (aL rfl rfl) (aZ ?_))))))))));intro EY EO;replace S:=S.ext EO;refine tn EX ?_;rcases oif F with ⟨EH,F⟩|⟨EH,F⟩
 ·refine ct EH ?_;refine sg fun _ EZ=>?_;refine bF (by kernel_rfl) (by kernel_rfl) ?_;refine qm (i_ (gH (ky J U) 255)) (qm (.pointer (some ⟨b0,0,none⟩)) (qe (.pointer (some ⟨b0,0,none⟩)) (dv rfl) (qe (.pointer (some ⟨b0,0 + 0,none⟩)) (ae rfl) (qe u0 (ac rfl ((S.boxAt 0 rfl) 0 _ rfl)) (qm (.pointer (some ⟨b0,0,none⟩)) (qe (.pointer (some ⟨b0,0,none⟩)) (dv rfl) (qe (.pointer (some ⟨b0,0 + 1,none⟩)) (ae rfl) (qe (i_ a1) (ac rfl ((S.boxAt 0 rfl) 1 _ rfl)) ?_))))))));obtain ⟨Y,EP,F⟩:=ob F;refine aU (wA:=Z) rfl ha0 rfl (dt rfl) rfl EP (dt rfl) ?_;intro E4 E2 E5 EQ ER;obtain rfl:=EQ;refine qe (.int .u8 Y) (ac rfl ((ak S.below ER) 0 _ rfl)) (qe (i_ (IntKind.i64.wrap Y)) (wx Tryz.underlying5 Tryz.underlying3 rfl) (qe (i_ (IntKind.i64.wrap ((gH (ky J U) 255) + (IntKind.i64.wrap Y)))) (uX rfl rfl) (qe (i_ (gH (IntKind.i64.wrap ((gH (ky J U) 255) + (IntKind.i64.wrap Y))) 255)) (xl rfl rfl) (qe (i_ (gH (IntKind.i64.wrap ((gH (ky J U) 255) + (IntKind.i64.wrap Y))) 255)) (cj rfl) (aZ ?_)))));intro E6 ES;replace S:=S.ext ES;refine tn EZ (ah (pm (.pointer (some ⟨b0,0,none⟩)) (pm (.pointer (some ⟨b0,0,none⟩)) (pe (.pointer (some ⟨b0,0,none⟩)) (dv rfl) (pe (.pointer (some ⟨b0,0 + 1,none⟩)) (ae rfl) (pe (i_ a1) (ac rfl ((S.boxAt 0 rfl) 1 _ rfl)) (pe (i_ (IntKind.i64.wrap (a1 + 1))) (uX rfl rfl) (pe (.pointer (some ⟨b0,0,none⟩)) (dv rfl) (pe (.pointer (some ⟨b0,0 + 1,none⟩)) (ae rfl) ?_)))))))));refine ap (S.top 0 rfl) rfl [i_ (IntKind.i64.wrap (a1 + 1))] rfl rfl (dt rfl) (all_cons rfl rfl) ?_;intro EJ S;replace S:Sat Z EJ (Box b0 77 [u0,i_ (IntKind.i64.wrap (a1 + 1)),i_ (IntKind.i64.wrap ((IntKind.i64.wrap (a2 * 6364136223846793005)) + 1442695040888963407))] :: G0):=S;refine en EI ?_;refine sR fun _ E0=>?_;refine pm (i_ (gH (IntKind.i64.wrap ((gH (ky J U) 255) + (IntKind.i64.wrap Y))) 255)) (pa (i_ (gH (IntKind.i64.wrap ((gH (ky J U) 255) + (IntKind.i64.wrap Y))) 255)) (en E0 (aj (aH rfl rfl ?_))));have hr:=Option.some.inj F;exact ⟨(congrArg (fun (r:Int × Int × Int)=>Ending.returned (i_ r.1)) hr :),Eq.mp (congrArg (fun (r:Int × Int × Int)=>Sat Z EJ (Box b0 77 [u0,i_ r.2.1,i_ r.2.2] :: G0)) hr :) S⟩
 refine cf EH (sn EI ?_);refine sR fun _ E1=>?_;refine pm (i_ (gH (ky J U) 255)) (pa (i_ (gH (ky J U) 255)) (en E1 (aj (aH rfl rfl ?_))));have hr:=Option.some.inj F;exact ⟨(congrArg (fun (r:Int × Int × Int)=>Ending.returned (i_ r.1)) hr :),Eq.mp (congrArg (fun (r:Int × Int × Int)=>Sat Z EY (Box b0 77 [u0,i_ r.2.1,i_ r.2.2] :: G0)) hr :) S⟩
theorem bU {w0:World} {J:World} {G0:List Asn} {b0:Nat} {u0:Value} {a0:List Int} {a1:Int} {a2:Int} {a3:Int} (ha0:(aB u8R 5).rd J [u0] a0) (S:Sat J w0 (Box b0 77 [u0,i_ a1,i_ a2] :: G0)) {N:Nat} {r:Int × Int × Int} (F:bW N a0 a1 a2 a3=some r): Calls Tryz.prog 23 #[.pointer (some ⟨b0,0,none⟩),i_ a3] w0 fun e w'=>e=.returned (i_ r.1)∧Sat J w' (Box b0 77 [u0,i_ r.2.1,i_ r.2.2] :: G0) := by
 unfold bW at F;refine aJ Tryz.func23 rfl rfl (dt rfl) ?_;refine sR fun _ E5=>?_;refine pa (i_ 0) (en E5 ?_);refine sg fun _ EK=>?_;refine sR fun _ E6=>?_;refine pm (i_ a3) (pe (.bool (decide (a3 ≤ 0))) (iF rfl rfl) (en E6 ?_));rcases oif F with ⟨U,F⟩|⟨U,F⟩
 ·refine ct U ?_;refine sR fun _ E7=>?_;refine pa (i_ 0) (en E7 (aj (tr EK (aH rfl rfl ?_))));have hr:=Option.some.inj F;exact ⟨(congrArg (fun (r:Int × Int × Int)=>Ending.returned (i_ r.1)) hr :),Eq.mp (congrArg (fun (r:Int × Int × Int)=>Sat J w0 (Box b0 77 [u0,i_ r.2.1,i_ r.2.2] :: G0)) hr :) S⟩
 refine cf U (sn EK ?_);refine sg fun _ EM=>?_;refine sR fun _ E8=>?_;refine pm (i_ a3) (pe (.bool (decide (a3 ≤ 256))) (iF rfl rfl) (en E8 ?_));rcases oif F with ⟨Y,F⟩|⟨Y,F⟩
 ·refine ct Y ?_;refine sR fun _ E9=>?_;refine pm (.pointer (some ⟨b0,0,none⟩)) ?_;obtain ⟨EN,ES,F⟩:=ob F;refine aX q9 (jy ha0 S ES) (ca (ai rfl rfl)) (dt rfl) ?_;rintro _ EO ⟨rfl,S⟩;refine ⟨_,rfl,?_⟩;replace S:Sat J EO (Box b0 77 [u0,i_ EN.2.1,i_ EN.2.2] :: G0):=S;refine pm (i_ a3) ?_;obtain ⟨EP,ET,F⟩:=ob F;refine pe (i_ EP) (o0 rfl rfl ET) (pa (i_ EP) (en E9 (aj (tr EM (aH rfl rfl ?_)))));have hr:=Option.some.inj F;exact ⟨(congrArg (fun (r:Int × Int × Int)=>Ending.returned (i_ r.1)) hr :),Eq.mp (congrArg (fun (r:Int × Int × Int)=>Sat J EO (Box b0 77 [u0,i_ r.2.1,i_ r.2.2] :: G0)) hr :) S⟩
 refine cf Y (sn EM ?_);refine sR fun _ Fa=>?_;refine pm (.pointer (some ⟨b0,0,none⟩)) ?_;obtain ⟨Z,EU,F⟩:=ob F;refine aX q9 (jy ha0 S EU) (ca (ai rfl rfl)) (dt rfl) ?_;rintro _ Fb ⟨rfl,S⟩;refine ⟨_,rfl,?_⟩;replace S:Sat J Fb (Box b0 77 [u0,i_ Z.2.1,i_ Z.2.2] :: G0):=S;refine pa (i_ Z.1) (en Fa ?_);refine sR fun _ Fc=>?_;refine pm (.pointer (some ⟨b0,0,none⟩)) ?_;obtain ⟨EH,EV,F⟩:=ob F;refine aX q9 (jy ha0 S EV) (ca (ai rfl rfl)) (dt rfl) ?_;rintro _ Fd ⟨rfl,S⟩;refine ⟨_,rfl,?_⟩;replace S:Sat J Fd (Box b0 77 [u0,i_ EH.2.1,i_ EH.2.2] :: G0):=S;refine pa (i_ EH.1) (en Fc ?_);refine sR fun _ Fe=>?_;refine pm (.pointer (some ⟨b0,0,none⟩)) ?_;obtain ⟨EI,EW,F⟩:=ob F;refine aX q9 (jy ha0 S EW) (ca (ai rfl rfl)) (dt rfl) ?_;rintro _ Ff ⟨rfl,S⟩;refine ⟨_,rfl,?_⟩;replace S:Sat J Ff (Box b0 77 [u0,i_ EI.2.1,i_ EI.2.2] :: G0):=S;refine pa (i_ EI.1) (en Fe ?_);refine sR fun _ Fg=>?_;refine pm (.pointer (some ⟨b0,0,none⟩)) ?_;obtain ⟨EJ,EX,F⟩:=ob F;refine aX q9 (jy ha0 S EX) (ca (ai rfl rfl)) (dt rfl) ?_;rintro _ EQ ⟨rfl,S⟩;refine ⟨_,rfl,?_⟩;replace S:Sat J EQ (Box b0 77 [u0,i_ EJ.2.1,i_ EJ.2.2] :: G0):=S;refine pa (i_ EJ.1) (en Fg ?_);refine sR fun _ Fh=>?_;refine pm (i_ Z.1) ?_;obtain ⟨Fi,EY,F⟩:=ob F;refine pe (i_ Fi) (qI rfl rfl EY) (pm (i_ EH.1) ?_);obtain ⟨Fj,EZ,F⟩:=ob F;refine pe (i_ Fj) (qI rfl rfl EZ) ?_;obtain ⟨Fk,E0,F⟩:=ob F;refine pe (i_ Fk) (aD rfl rfl E0) (pm (i_ EI.1) ?_);obtain ⟨Fl,E1,F⟩:=ob F;refine pe (i_ Fl) (qI rfl rfl E1) ?_;obtain ⟨Fm,E2,F⟩:=ob F;refine pe (i_ Fm) (aD rfl rfl E2) (pm (i_ EJ.1) ?_);obtain ⟨Fn,E3,F⟩:=ob F;refine pe (i_ Fn) (aD rfl rfl E3) (pm (i_ a3) ?_);obtain ⟨ER,E4,F⟩:=ob F;refine pe (i_ ER) (o0 rfl rfl E4) (pa (i_ ER) (en Fh (aj (aH rfl rfl ?_))));have hr:=Option.some.inj F;exact ⟨(congrArg (fun (r:Int × Int × Int)=>Ending.returned (i_ r.1)) hr :),Eq.mp (congrArg (fun (r:Int × Int × Int)=>Sat J EQ (Box b0 77 [u0,i_ r.2.1,i_ r.2.2] :: G0)) hr :) S⟩
theorem kI {w0:World} {U:World} {G0:List Asn} {b0:Nat} {u0:Value} {a0:List Int} {a1:Int} {a2:Int} {a3:Int} (ha0:(aB u8R 5).rd U [u0] a0) (S:Sat U w0 (Box b0 77 [u0,i_ a1,i_ a2] :: G0)) {N:Nat} {r:Bool × Int × Int} (F:iv N a0 a1 a2 a3=some r): Calls Tryz.prog 45 #[.pointer (some ⟨b0,0,none⟩),i_ a3] w0 fun e w'=>e=.returned (.bool r.1)∧Sat U w' (Box b0 77 [u0,i_ r.2.1,i_ r.2.2] :: G0) := by
 unfold iv at F;refine aJ Tryz.func45 rfl rfl (dt rfl) ?_;refine sR fun _ EH=>?_;refine pa (.bool false) (en EH ?_);refine sR fun _ EI=>?_;refine pm (.pointer (some ⟨b0,0,none⟩)) (pm (i_ a3) ?_);obtain ⟨J,Z,F⟩:=ob F;refine aX gh (bU ha0 S Z) (ca (ai rfl (ai rfl rfl))) (dt rfl) ?_;rintro _ Y ⟨rfl,S⟩;refine ⟨_,rfl,?_⟩;replace S:Sat U Y (Box b0 77 [u0,i_ J.2.1,i_ J.2.2] :: G0):=S;refine pe (.bool (J.1 == 0)) (bq rfl rfl) (pa (.bool (J.1 == 0)) (en EI (aj (aH rfl rfl ?_))));have hr:=Option.some.inj F;exact ⟨(congrArg (fun (r:Bool × Int × Int)=>Ending.returned (.bool r.1)) hr :),Eq.mp (congrArg (fun (r:Bool × Int × Int)=>Sat U Y (Box b0 77 [u0,i_ r.2.1,i_ r.2.2] :: G0)) hr :) S⟩
theorem fq {w0:World} {U:World} {G0:List Asn} {b0:Nat} {u0:Value} {a0:List Int} {a1:Int} {a2:Int} {u3:Value} {a3:List Int} (ha0:(aB u8R 5).rd U [u0] a0) (S:Sat U w0 (Box b0 77 [u0,i_ a1,i_ a2] :: Own R0_ [u3] a3 :: G0)) {N:Nat} {r:Int × Int × Int} (F:dZ N a0 a1 a2 a3=some r): Calls Tryz.prog 95 #[.pointer (some ⟨b0,0,none⟩),u3] w0 fun e w'=>e=.returned (i_ r.1)∧Sat U w' (Box b0 77 [u0,i_ r.2.1,i_ r.2.2] :: G0) := by
 unfold dZ at F;refine aJ Tryz.func95 rfl rfl (dt rfl) ?_;refine sR fun _ EK=>?_;refine pa (i_ 0) (en EK ?_);refine sR fun _ EM=>?_;refine pm u3 (pm (.pointer (some ⟨b0,0,none⟩)) (pm u3 (pe (i_ (a3.length:Int)) (aq rfl (S.rdAt (R:=R0_) 1 rfl)) ?_)));obtain ⟨Y,EJ,F⟩:=ob F;refine aX gh (bU ha0 S EJ) (ca (ai rfl (ai rfl rfl))) (dt rfl) ?_;rintro _ EH ⟨rfl,S⟩;refine ⟨_,rfl,?_⟩;replace S:Sat U EH (Box b0 77 [u0,i_ Y.2.1,i_ Y.2.2] :: Own R0_ [u3] a3 :: G0):=S;obtain ⟨EI,J,F⟩:=ob F;obtain ⟨EN,EO,Z⟩:=bp 1 S rfl J;refine pe (.pointer (some ⟨EN,Y.1.toNat * 1,none⟩)) (bh (v:=u3) rfl Z rfl J) (pe (i_ EI) (ac rfl (S.ownCell 1 rfl Z J)) (pa (i_ EI) (en EM (aj (aH rfl rfl ?_)))));have hr:=Option.some.inj F;replace S:=S.r1;exact ⟨(congrArg (fun (r:Int × Int × Int)=>Ending.returned (i_ r.1)) hr :),Eq.mp (congrArg (fun (r:Int × Int × Int)=>Sat U EH (Box b0 77 [u0,i_ r.2.1,i_ r.2.2] :: G0)) hr :) S⟩
theorem eg {w0:World} {a0:Int} {a1:Int} {a2:Int}  {N:Nat} {r:Bool} (F:ew N a0 a1 a2=some r): Calls Tryz.prog 40 #[i_ a0,i_ a1,i_ a2] w0 fun e w'=>e=.returned (.bool r)∧Ext w0 w' := by
 unfold ew at F;refine aJ Tryz.func40 rfl rfl (dt rfl) ?_;have S:=Sat.start w0;refine sR fun _ Y=>?_;refine pa (.bool false) (en Y ?_);refine sR fun _ U=>?_;refine pm (i_ a0) (pm (i_ a1) (pe (.bool (decide (a1 ≤ a0))) (eD rfl rfl) (pm (.bool (decide (a1 ≤ a0))) ?_)));rcases oif F with ⟨J,F⟩|⟨J,F⟩
 ·refine ei J (pm (i_ a0) (ei J (pm (i_ a2) (ei J (pe (.bool (decide (a0 ≤ a2))) (iF rfl rfl) (pe (.bool (decide (a0 ≤ a2))) (aw rfl J rfl) (pa (.bool (decide (a0 ≤ a2))) (en U (aj (aH rfl rfl ?_))))))))));exact rB F S
 refine eo J (eo J (eo J (pe (.bool false) (ax rfl J rfl) (pa (.bool false) (en U (aj (aH rfl rfl ?_)))))));exact rB F S
theorem jo {w0:World} {u0:Value} {a0:List Int} (ha0:R0_.rd w0 [u0] a0) {N:Nat} {r:Bool} (F:ez N a0=some r): Calls Tryz.prog 39 #[u0] w0 fun e w'=>e=.returned (.bool r)∧Ext w0 w' := by
 unfold ez at F;refine aJ Tryz.func39 rfl rfl (dt rfl) ?_;have S:=Sat.start w0;refine sR fun _ EW=>?_;refine pa (.bool false) (en EW ?_);refine sg fun _ EM=>?_;refine sR fun _ EX=>?_;refine pa (i_ 0) (en EX ?_);refine bg fun _ EN=>?_;obtain ⟨EY,hL,EK⟩:=ob F;refine aF (fun k e w=>∃ (J:Int),e 0=u0∧e 3=i_ J∧Sat w0 w []∧df N k a0 J=some EY) N ?_ ?_ ?_
 ·exact ⟨0,rfl,rfl,S,hL⟩
 ·rintro e w ⟨_,_,_,_,hz⟩; exact nomatch (show none=some _ from hz)
 rintro k E7 E8 ⟨J,U,Y,S,F⟩;refine gn fun _ EI=>?_;refine sg fun _ EO=>?_;refine sR fun _ EZ=>?_;refine pM (i_ J) Y (pM u0 U (pe (i_ (a0.length:Int)) (aq rfl ha0) (pe (.bool (decide (J < (a0.length:Int)))) (aL rfl rfl) (en EZ ?_))));rcases oif F with ⟨Z,F⟩|⟨Z,F⟩
 ·refine ct Z (sn EO ?_);refine sg fun _ EP=>?_;refine bg fun _ EQ=>?_;refine sR fun _ E0=>?_;refine pM u0 U (pM (i_ J) Y ?_);obtain ⟨E1,ER,F⟩:=ob F;refine aE (wA:=w0) rfl ha0 rfl (dt rfl) rfl ER (dt rfl) ?_;intro E9 E5 Fa ES ET;obtain rfl:=ES;refine pe (i_ E1) (ac rfl ((ak S.below ET) 0 _ rfl)) ?_;obtain ⟨E2,EU,F⟩:=ob F;refine ec0 j4 (eg EU) (ca (ai rfl (ai rfl (ai rfl rfl)))) S fun Fb E6 S=>?_;refine pe (.bool (!E2)) (bc rfl) (en E0 ?_);rcases oif F with ⟨EH,F⟩|⟨EH,F⟩
  ·refine cf (am EH) (aV (bn EQ (tn EP (ah (pM (i_ J) Y ?_)))));obtain ⟨EJ,EV,F⟩:=ob F;refine pe (i_ EJ) (aD rfl rfl EV) (pa (i_ EJ) (en EI ?_));replace S:=S.keep 0;exact ⟨EJ,U,rfl,S,F⟩
  refine ct (an EH) ?_;refine sR fun _ E3=>?_;refine pa (.bool false) (en E3 (aj (br EQ (tr EP (tr EI (br EN (tr EM ?_)))))));replace F:=exL F EK;refine aH rfl rfl ?_;exact rB F S
 refine cf Z (aG (tx EO (tx EI ?_)));replace F:=exA F EK;refine bS EN (tn EM ?_);refine sR fun _ E4=>?_;refine pa (.bool true) (en E4 (aj (aH rfl rfl ?_)));exact rB F S
theorem pn {w0:World} {a0:Int} {u1:Value} {a1:List T0_} (ha1:R3_.rd w0 [u1] a1) {N:Nat} {r:Int × List T0_} (F:j8 N a0 a1=some r): Calls Tryz.prog 59 #[.agg #[i_ a0,u1]] w0 fun e w'=>∃ (q0:Value),e=.returned (.agg #[i_ r.1,q0])∧Sat w0 w' [Own R3_ [q0] r.2] := by
 unfold j8 at F;refine aJ Tryz.func59 rfl rfl (dt rfl) ?_;have S:=Sat.start w0;refine sR fun _ E8=>?_;refine bo [i_ a0,u1] rfl S (dt rfl) ?_;intro Fu U S Fn;refine aQ S (dt rfl) ?_;intro Fv EI S Fo;refine en E8 ?_;refine sR fun _ E9=>?_;refine pe (.pointer (some ⟨U,0 + 0,none⟩)) (ae rfl) (pe (i_ a0) (ac rfl ((S.boxAt 1 rfl) 0 _ rfl)) (pe (.agg #[i_ a0,n_]) (bj [(0,[i_ a0])] [i_ a0,n_] (cJ rfl rfl) rfl) ?_));refine aQ S (dt rfl) ?_;intro Fw Y S Fp;refine ap (S.top 0 rfl) rfl [i_ a0,n_] rfl rfl (dt rfl) (all_cons rfl (all_cons rfl rfl)) ?_;intro Fa S;replace S:Sat w0 Fa [Box Y 39 [i_ a0,n_],Box EI 39 [i_ 0,n_],Box U 39 [i_ a0,u1]]:=S;refine en E9 ?_;refine sg fun _ Fb=>?_;refine sR fun _ Fc=>?_;refine pa (i_ 0) (en Fc ?_);refine bg fun _ Fd=>?_;replace S:=S.nil R0_ 28;obtain ⟨Fe,hL,EZ⟩:=ob F;refine aF (fun k e w=>∃ (J:Value),∃ (EJ:List T0_),∃ (Z:Int),e 1=.pointer (some ⟨U,0,none⟩)∧e 2=.pointer (some ⟨EI,0,none⟩)∧e 3=.pointer (some ⟨Y,0,none⟩)∧e 4=i_ Z∧Sat w0 w [Own R3_ [J] EJ,Box Y 39 [i_ a0,J],Box EI 39 [i_ 0,n_],Box U 39 [i_ a0,u1]]∧fg N k a0 a1 0 [] a0 EJ Z=some Fe) N ?_ ?_ ?_
 ·exact ⟨n_,[],0,rfl,rfl,rfl,rfl,S,hL⟩
 ·rintro e w ⟨_,_,_,_,_,_,_,_,hz⟩; exact nomatch (show none=some _ from hz)
 rintro k Fx Fy ⟨J,EJ,Z,EK,EM,EH,EN,S,F⟩;refine gn fun _ EU=>?_;refine sg fun _ EV=>?_;refine sR fun _ Ff=>?_;refine pM (i_ Z) EN (pe (.pointer (some ⟨U,0 + 1,none⟩)) (ae EK) (pe u1 (ac rfl ((S.boxAt 3 rfl) 1 _ rfl)) (pe (i_ (a1.length:Int)) (aq rfl ha1) (pe (.bool (decide (Z < (a1.length:Int)))) (aL rfl rfl) (en Ff ?_)))));rcases oif F with ⟨EO,F⟩|⟨EO,F⟩
 ·refine ct EO (sn EV ?_);refine sg fun _ Fg=>?_;refine bg fun _ Fh=>?_;obtain ⟨C,hCd⟩:∃ C:World → Prop,∀ w,C w ↔ ∃ G,Sat w0 w ([Box Y 39 [i_ a0,J],Box U 39 [i_ a0,u1]] ++ G):=⟨_,fun _=>Iff.rfl⟩;refine bN [0,1,2,3,4,5,6,7,8,9,10,11] C (by kernel_rfl) ?_;intro Fz E0;replace S:=S.ext E0;replace S:=S.t3.t2;have hC:=(hCd _).2 ⟨_,S⟩;refine aP (.pointer (some ⟨Y,0 + 1,none⟩)) 0 rfl rfl hC (ay rfl (fun w' hw'=>by obtain ⟨_,S⟩:=(hCd _).1 hw'; exact (ae EH))) ?_;refine aP J 1 rfl rfl hC (ay rfl (fun w' hw'=>by obtain ⟨_,S⟩:=(hCd _).1 hw'; exact (ac rfl ((S.boxAt 0 rfl) 1 _ rfl)))) ?_;refine aP (.pointer (some ⟨U,0 + 1,none⟩)) 3 rfl rfl hC (ay rfl (fun w' hw'=>by obtain ⟨_,S⟩:=(hCd _).1 hw'; exact (ae EK))) ?_;refine aP u1 4 rfl rfl hC (ay rfl (fun w' hw'=>by obtain ⟨_,S⟩:=(hCd _).1 hw'; exact (ac rfl ((S.boxAt 1 rfl) 1 _ rfl)))) ?_;refine aP (i_ Z) 5 rfl rfl hC (ay rfl (fun w' hw'=>by obtain ⟨_,S⟩:=(hCd _).1 hw'; exact (aN EN))) ?_;obtain ⟨Fi,E1,F⟩:=ob F;refine hQ (wA:=w0) (by kernel_rfl) 6 rfl hC (by kernel_rfl) (by kernel_rfl) rfl ha1 rfl (dt rfl) rfl E1 (dt rfl) ?_;intro FA Fq FB ER E2;obtain ⟨Fj,rfl⟩:=av ER;refine aP Fj 7 rfl rfl hC (ay rfl (fun w' hw'=>by obtain ⟨_,S⟩:=(hCd _).1 hw'; exact (ac rfl ((ak S.below E2) 0 _ rfl)))) ?_;refine aO 2 rfl ?_;refine aW bZ S (dt rfl) ?_;intro FC FD S Fr;refine ag ?_;replace S:=S.t2.t2;have hC:=(hCd _).2 ⟨_,S⟩;refine ⟨fun _=>hC,?_⟩;refine aO 8 rfl ?_;obtain ⟨FE,E3,F⟩:=ob F;obtain ⟨Fs,FF,E4,E5,ES⟩:=ea (S.up ER);replace S:=S.t2;replace S:=S.ints (xs:=Fi);refine aA rfl (dt rfl) rfl (dt rfl) S rfl (rfl.trans E4) rfl E5 ES E3 (dt rfl) ?_;intro FG EW S;refine ag ?_;replace S:=S.t2.t2;have hC:=(hCd _).2 ⟨_,S⟩;refine ⟨fun _=>hC,?_⟩;refine aO 9 rfl ?_;refine au [EW] (aM rfl (oc (S.rdAt (R:=R0_) 2 rfl))) (by rfl) (dt rfl) rfl (dt rfl) S (dt rfl) ?_;intro FH Fk S Ft;refine ag ?_;replace S:=S.t2.t2;have hC:=(hCd _).2 ⟨_,S⟩;refine ⟨fun _=>hC,?_⟩;refine aO 10 rfl ?_;obtain ⟨EX,E6,F⟩:=ob F;have ET:=S.boxRow 2 rfl;replace S:=S.t4;replace S:=S.t4;replace S:=S.one;refine aA rfl (dt rfl) rfl (dt rfl) S rfl rfl rfl (by simp) ET E6 (dt rfl) ?_;intro FI EP S;refine ag ?_;replace S:=S.t2.t2;have hC:=(hCd _).2 ⟨_,S⟩;refine ⟨fun _=>hC,?_⟩;refine aO 11 rfl ?_;refine pe (.pointer (some ⟨Y,0 + 1,none⟩)) (ae EH) (ag ?_);refine ⟨fun _=>hC,?_⟩;refine aO 12 rfl ?_;refine ap (S.top 0 rfl) rfl [EP] (aM rfl (oc (S.rdAt (R:=R3_) 2 rfl))) rfl (dt rfl) (all_cons (oc (S.rdAt (R:=R3_) 2 rfl)) rfl) ?_;intro Fl S;replace S:Sat w0 Fl [Box Y 39 [i_ a0,EP],Box U 39 [i_ a0,u1],Own R3_ [EP] EX,Box Fk 28 [EW],Box EI 39 [i_ 0,n_]]:=S;refine ag ?_;refine ⟨fun h=>(nomatch (show false=true from h)),?_⟩;refine bC (by kernel_rfl) ?_;refine bn Fh (tn Fg ?_);replace S:=S.r3;refine ah (pM (i_ Z) EN ?_);obtain ⟨EQ,E7,F⟩:=ob F;refine pe (i_ EQ) (aD rfl rfl E7) (pa (i_ EQ) (en EU ?_));replace S:=S.t1.t3.t2.t3;replace S:=S.keep 4;exact ⟨EP,EX,EQ,EK,EM,EH,rfl,S,F⟩
 refine cf EO (aG (tx EV (tx EU ?_)));replace F:=exB F EZ;refine bS Fd (tn Fb ?_);refine sg fun _ Fm=>?_;replace S:=S.r3;refine ah (pe (.agg #[i_ a0,J]) (az (cs:=[i_ a0,J]) EH rfl (aC (S.boxAt 1 rfl))) ?_);refine ap (S.top 2 rfl) EM [i_ a0,J] rfl rfl (dt rfl) (all_cons rfl (all_cons (oc (S.rdAt (R:=R3_) 0 rfl)) rfl)) ?_;intro EY S;replace S:Sat w0 EY [Box EI 39 [i_ a0,J],Own R3_ [J] EJ,Box Y 39 [i_ a0,J]]:=S;refine en Fm (aj ?_);refine eK (cs:=[i_ a0,J]) rfl EM rfl (aC (S.boxAt 0 rfl))  ?_;replace S:=S.t1;have hr:=Option.some.inj F;exact ⟨J,congrArg (fun (r:Int × List T0_)=>Ending.returned (.agg #[i_ r.1,J])) hr,Eq.mp (congrArg (fun (r:Int × List T0_)=>Sat w0 EY [Own R3_ [J] r.2]) hr) (S.keep 1)⟩
theorem bE {w0:World} {u0:Value} {a0:List Int} {u1:Value} {a1:List Int} (ha0:R0_.rd w0 [u0] a0) (ha1:R0_.rd w0 [u1] a1) {N:Nat} {r:Int} (F:bD N a0 a1=some r): Calls Tryz.prog 41 #[u0,u1] w0 fun e w'=>e=.returned (i_ r)∧Ext w0 w' := by
 unfold bD at F;refine aJ Tryz.func41 rfl rfl (dt rfl) ?_;have S:=Sat.start w0;refine sR fun _ Fn=>?_;refine pa (i_ 0) (en Fn ?_);refine sg fun _ EK=>?_;refine sR fun _ Fo=>?_;refine pa (i_ 0) (en Fo ?_);refine bg fun _ EM=>?_;obtain ⟨Fp,hL,EI⟩:=ob F;refine aF (fun k e w=>∃ (J:Int),e 0=u0∧e 1=u1∧e 5=i_ J∧Sat w0 w []∧gC N k a0 a1 J=some Fp) N ?_ ?_ ?_
 ·exact ⟨0,rfl,rfl,rfl,S,hL⟩
 ·rintro e w ⟨_,_,_,_,_,hz⟩; exact nomatch (show none=some _ from hz)
 rintro k FI FJ ⟨J,Y,Z,EH,S,F⟩;refine gn fun _ EJ=>?_;refine sg fun _ EU=>?_;refine sR fun _ EY=>?_;refine pM (i_ J) EH (pM u0 Y (pe (i_ (a0.length:Int)) (aq rfl ha0) (pe (.bool (decide (J < (a0.length:Int)))) (aL rfl rfl) (pm (.bool (decide (J < (a0.length:Int)))) ?_))));rcases oif F with ⟨U,F⟩|⟨U,F⟩
 ·refine ei U (pM (i_ J) EH (ei U (pM u1 Z (ei U (pe (i_ (a1.length:Int)) (aq rfl ha1) (ei U (pe (.bool (decide (J < (a1.length:Int)))) (aL rfl rfl) (pe (.bool (decide (J < (a1.length:Int)))) (aw rfl U rfl) (en EY ?_)))))))));rcases oif F with ⟨EN,F⟩|⟨EN,F⟩
  ·refine ct EN (sn EU ?_);refine sg fun _ EV=>?_;refine bg fun _ EW=>?_;refine sg fun _ EZ=>?_;refine sg fun _ Fq=>?_;refine bF (by kernel_rfl) (by kernel_rfl) ?_;refine qM u0 Y (qM (i_ J) EH ?_);obtain ⟨E0,E8,F⟩:=ob F;refine aU (wA:=w0) rfl ha0 rfl (dt rfl) rfl E8 (dt rfl) ?_;intro FK FE FL E9 Fa;obtain rfl:=E9;refine qe (i_ E0) (ac rfl ((ak S.below Fa) 0 _ rfl)) (qM u1 Z (qM (i_ J) EH ?_));obtain ⟨E1,Fb,F⟩:=ob F;refine aU (wA:=w0) rfl ha1 rfl (dt rfl) rfl Fb (dt rfl) ?_;intro FM FF FN Fc Fd;obtain rfl:=Fc;refine qe (i_ E1) (ac rfl ((ak S.below Fd) 0 _ rfl)) (qe (.bool (decide (E0 < E1))) (aL rfl rfl) (aZ ?_));intro FO Fe;replace S:=S.ext Fe;refine tn Fq ?_;rcases oif F with ⟨EO,F⟩|⟨EO,F⟩
   ·refine ct EO ?_;refine sR fun _ Fr=>?_;refine pa (i_ (-1)) (en Fr (aj (tr EZ (br EW (tr EV (tr EJ (br EM (tr EK ?_))))))));replace F:=exL F EI;refine aH rfl rfl ?_;exact rI F S
   refine cf EO (sn EZ ?_);refine sg fun _ Fs=>?_;refine bF (by kernel_rfl) (by kernel_rfl) ?_;refine qM u0 Y (qM (i_ J) EH ?_);obtain ⟨E2,Ff,F⟩:=ob F;refine aU (wA:=w0) rfl ha0 rfl (dt rfl) rfl Ff (dt rfl) ?_;intro FP FG FQ Fg Fh;obtain rfl:=Fg;refine qe (i_ E2) (ac rfl ((ak S.below Fh) 0 _ rfl)) (qM u1 Z (qM (i_ J) EH ?_));obtain ⟨E3,Fi,F⟩:=ob F;refine aU (wA:=w0) rfl ha1 rfl (dt rfl) rfl Fi (dt rfl) ?_;intro FR FH FS Fj Fk;obtain rfl:=Fj;refine qe (i_ E3) (ac rfl ((ak S.below Fk) 0 _ rfl)) (qe (.bool (decide (E3 < E2))) (bA rfl rfl) (aZ ?_));intro FT Fl;replace S:=S.ext Fl;refine tn Fs ?_;rcases oif F with ⟨EP,F⟩|⟨EP,F⟩
   ·refine ct EP ?_;refine sR fun _ Ft=>?_;refine pa (i_ 1) (en Ft (aj (br EW (tr EV (tr EJ (br EM (tr EK ?_)))))));replace F:=exL F EI;refine aH rfl rfl ?_;exact rI F S
   refine cf EP (aV (bn EW (tn EV (ah (pM (i_ J) EH ?_)))));obtain ⟨EX,Fm,F⟩:=ob F;refine pe (i_ EX) (aD rfl rfl Fm) (pa (i_ EX) (en EJ ?_));replace S:=S.keep 0;exact ⟨EX,Y,Z,rfl,S,F⟩
  refine cf EN (aG (tx EU (tx EJ ?_)));replace F:=exA F EI;refine bS EM (tn EK ?_);refine sg fun _ E4=>?_;refine sR fun _ Fu=>?_;refine pM u0 Y (pe (i_ (a0.length:Int)) (aq rfl ha0) (pM u1 Z (pe (i_ (a1.length:Int)) (aq rfl ha1) (pe (.bool (decide ((a0.length:Int) < (a1.length:Int)))) (aL rfl rfl) (en Fu ?_)))));rcases oif F with ⟨EQ,F⟩|⟨EQ,F⟩
  ·refine ct EQ ?_;refine sR fun _ Fv=>?_;refine pa (i_ (-1)) (en Fv (aj (tr E4 (aH rfl rfl ?_))));exact rI F S
  refine cf EQ (sn E4 ?_);refine sg fun _ E5=>?_;refine sR fun _ Fw=>?_;refine pM u0 Y (pe (i_ (a0.length:Int)) (aq rfl ha0) (pM u1 Z (pe (i_ (a1.length:Int)) (aq rfl ha1) (pe (.bool (decide ((a1.length:Int) < (a0.length:Int)))) (bA rfl rfl) (en Fw ?_)))));rcases oif F with ⟨ER,F⟩|⟨ER,F⟩
  ·refine ct ER ?_;refine sR fun _ Fx=>?_;refine pa (i_ 1) (en Fx (aj (tr E5 (aH rfl rfl ?_))));exact rI F S
  refine cf ER (sn E5 ?_);refine sR fun _ Fy=>?_;refine pa (i_ 0) (en Fy (aj (aH rfl rfl ?_)));exact rI F S
 refine eo U (eo U (eo U (eo U (pe (.bool false) (ax rfl U rfl) (en EY (cf rfl (aG (tx EU (tx EJ ?_)))))))));replace F:=exA F EI;refine bS EM (tn EK ?_);refine sg fun _ E6=>?_;refine sR fun _ Fz=>?_;refine pM u0 Y (pe (i_ (a0.length:Int)) (aq rfl ha0) (pM u1 Z (pe (i_ (a1.length:Int)) (aq rfl ha1) (pe (.bool (decide ((a0.length:Int) < (a1.length:Int)))) (aL rfl rfl) (en Fz ?_)))));rcases oif F with ⟨ES,F⟩|⟨ES,F⟩
 ·refine ct ES ?_;refine sR fun _ FA=>?_;refine pa (i_ (-1)) (en FA (aj (tr E6 (aH rfl rfl ?_))));exact rI F S
 refine cf ES (sn E6 ?_);refine sg fun _ E7=>?_;refine sR fun _ FB=>?_;refine pM u0 Y (pe (i_ (a0.length:Int)) (aq rfl ha0) (pM u1 Z (pe (i_ (a1.length:Int)) (aq rfl ha1) (pe (.bool (decide ((a1.length:Int) < (a0.length:Int)))) (bA rfl rfl) (en FB ?_)))));rcases oif F with ⟨ET,F⟩|⟨ET,F⟩
 ·refine ct ET ?_;refine sR fun _ FC=>?_;refine pa (i_ 1) (en FC (aj (tr E7 (aH rfl rfl ?_))));exact rI F S
 refine cf ET (sn E7 ?_);refine sR fun _ FD=>?_;refine pa (i_ 0) (en FD (aj (aH rfl rfl ?_)));exact rI F S
theorem tA (N:Nat):∀ {w0:World} {u0:Value} {a0:List T0_} (_:R3_.rd w0 [u0] a0) {r:T1_} (_:f5 N a0=some r), Calls Tryz.prog 60 #[u0] w0 fun e w'=>∃ (q0:Value),e=.returned (q0)∧Ext w0 w'∧R3_.rd w' [q0] r := by
 induction N with
 | zero=>intros; exact nomatch (show none=some _ by assumption)
 | succ N ih=>
  intro w0 u0 a0 ha0 r F;refine aJ Tryz.func60 rfl rfl (dt rfl) ?_;have S:=Sat.start w0;refine sR fun _ J5=>?_;refine pa n_ (en J5 ?_);refine sg fun _ G8=>?_;refine sR fun _ J6=>?_;refine pm u0 (pe (i_ (a0.length:Int)) (aq rfl ha0) (pe (.bool (decide ((a0.length:Int) < 2))) (aL rfl rfl) (en J6 ?_)));rcases oif F with ⟨FJ,F⟩|⟨FJ,F⟩
  ·refine ct FJ ?_;refine sR fun _ J7=>?_;refine pm u0 (pa u0 (en J7 (aj (tr G8 (aH rfl rfl ?_)))));have hr:=Option.some.inj F;exact ⟨u0,congrArg (fun (r:T1_)=>Ending.returned (u0)) hr,S.below,Eq.mp (congrArg (fun (r:T1_)=>R3_.rd w0 [u0] r) hr :) (S.up ha0)⟩
  refine cf FJ (sn G8 ?_);refine sR fun _ J8=>?_;refine pm u0 (pe (i_ (a0.length:Int)) (aq rfl ha0) ?_);obtain ⟨FK,H3,F⟩:=ob F;refine pe (i_ FK) (xr rfl rfl H3) (pa (i_ FK) (en J8 ?_));refine sR fun _ J9=>?_;refine pm u0 (pm (i_ FK) ?_);obtain ⟨Mm,H4,F⟩:=ob F;refine dF (wA:=w0) rfl rfl ha0 (.inr ⟨rfl,rfl⟩) (.inl (congrArg some rfl)) H4 (dt rfl) ?_;intro Mn GH;obtain ⟨Ka,H5,F⟩:=ob F;refine aX xg (ih (S.up GH) H5) (ca (ai rfl rfl)) (dt rfl) ?_;rintro _ Gt ⟨G9,rfl,H6,H7⟩;refine ⟨_,rfl,?_⟩;replace S:=S.ext H6;have H8:Ext w0 Gt:=S.below;have FL:=S.up ha0;have LB:=S.up ha0;have LC:=S.up GH;replace S:=Sat.start Gt;refine pa G9 (en J9 ?_);refine sR fun _ Kb=>?_;refine pm u0 (pm (i_ FK) ?_);obtain ⟨Mo,H9,F⟩:=ob F;refine dF (wA:=Gt) rfl rfl FL (.inl (congrArg some rfl)) (.inr ⟨rfl,rfl⟩) H9 (dt rfl) ?_;intro Mp GI;obtain ⟨Kc,Ia,F⟩:=ob F;refine aX xg (ih (S.up GI) Ia) (ca (ai rfl rfl)) (dt rfl) ?_;rintro _ J ⟨Ha,rfl,Ib,Ic⟩;refine ⟨_,rfl,?_⟩;replace S:=S.ext Ib;have Id:Ext w0 J:=(S.rebase H8).below;have LD:=S.up FL;have Ie:=S.up H7;have LE:=S.up FL;have LF:=S.up GI;replace S:=Sat.start J;refine pa Ha (en Kb ?_);refine sR fun _ Kd=>?_;refine aW (roR J R0_) S (dt rfl) ?_;intro Mq Hb S LG;refine pa Hb (en Kd ?_);refine sg fun _ Ke=>?_;refine bg fun _ Kf=>?_;obtain ⟨Kg,hL,If⟩:=ob F;refine aF (fun k e w=>∃ (EM:Value),∃ (EP:List T0_),∃ (EN:Value),∃ (EQ:List T0_),∃ (Y:Value),∃ (Z:List T0_),e 4=EM∧e 5=EN∧e 6=Y∧Sat J w [Own (aB (roR J R0_) 28) [Y] Z]∧R3_.rd J [EM] EP∧R3_.rd J [EN] EQ∧aT (f5 N) N k EP EQ Z=some Kg) N ?_ ?_ ?_
  ·exact ⟨G9,Ka,Ha,Kc,Hb,[],rfl,rfl,rfl,S,Ie,Ic,hL⟩
  ·rintro e w ⟨_,_,_,_,_,_,_,_,_,_,_,_,hz⟩; exact nomatch (show none=some _ from hz)
  rintro k Mr Kh ⟨EM,EP,EN,EQ,Y,Z,EH,EI,U,S,EJ,EK,F⟩;refine gn fun _ EO=>?_;refine sg fun _ Gu=>?_;refine sR fun _ Hc=>?_;refine pM EM EH (pe (i_ (EP.length:Int)) (aq rfl EJ) (pe (.bool (decide (0 < (EP.length:Int)))) (bA rfl rfl) (pm (.bool (decide (0 < (EP.length:Int)))) ?_)));rcases oif F with ⟨E3,F⟩|⟨E3,F⟩
  ·refine eo E3 (eo E3 (eo E3 (pe (.bool true) (aw rfl E3 rfl) (en Hc (ct rfl (sn Gu ?_))))));refine bg fun _ E1=>?_;refine sR fun _ Ki=>?_;refine pa (i_ 0) (en Ki ?_);refine sg fun _ Gv=>?_;refine bg fun _ Gw=>?_;refine sR fun _ Kj=>?_;refine pM EM EH (pe (i_ (EP.length:Int)) (aq rfl EJ) (pe (.bool ((EP.length:Int) == 0)) (bq rfl rfl) (pa (.bool ((EP.length:Int) == 0)) (en Kj ?_))));rcases oif F with ⟨FM,F⟩|⟨FM,F⟩
   ·refine ct FM (ah (pa (i_ 1) (ag (bn Gw (tn Gv ?_)))));refine sR fun _ Kk=>?_;refine aW bZ S (dt rfl) ?_;intro Hd Kl S LH;refine pa Kl (en Kk ?_);refine sg fun _ He=>?_;refine sg fun _ Km=>?_;replace S:=S.r0;refine ah (pm (i_ 1) (pe (.bool (decide (0 < (1:Int)))) (bA rfl rfl) (en Km ?_)));rcases oif F with ⟨FN,F⟩|⟨FN,F⟩
    ·refine ct FN ?_;refine sR fun _ Kn=>?_;refine pM EN EI ?_;obtain ⟨Ms,Ig,F⟩:=ob F;refine aE (wA:=J) rfl EK rfl (dt rfl) rfl Ig (dt rfl) ?_;intro Mu LI Mv E4 Ih;obtain ⟨Fe,rfl⟩:=av E4;refine pe Fe (ac rfl ((ak S.below Ih) 0 _ rfl)) (pa Fe (en Kn (ah (pM EN EI ?_))));obtain ⟨Gx,Ii,F⟩:=ob F;refine dF (wA:=J) rfl rfl EK (.inl (congrArg some rfl)) (.inr ⟨rfl,rfl⟩) Ii (dt rfl) ?_;intro FO FP;refine pa FO (en He ?_);refine sR fun _ Hf=>?_;refine pM Y U (pe (i_ (Z.length:Int)) (aq rfl (S.rdAt (R:=(aB (roR J R0_) 28)) 0 rfl)) (pe (.bool ((Z.length:Int) == 0)) (bq rfl rfl) (pm (.bool ((Z.length:Int) == 0)) ?_)));rcases oif F with ⟨ER,F⟩|⟨ER,F⟩
     ·refine eo ER (eo ER (eo ER (eo ER (eo ER (eo ER (eo ER (eo ER (eo ER (pe (.bool true) (aw rfl ER rfl) (en Hf (ct rfl (ah (pM Y U (pm Fe ?_))))))))))))));refine au [Fe] (aM rfl (oc E4)) (by rfl) (dt rfl) rfl (dt rfl) S (dt rfl) ?_;intro Mw Mx S LJ;obtain ⟨Ko,Ij,F⟩:=ob F;have GN:=S.boxRow 0 rfl;replace S:=S.t1;replace S:=S.roOne (R:=R0_) (W:=J) E4;replace S:=S.one;refine aA rfl (dt rfl) rfl (dt rfl) S rfl rfl rfl (by simp) GN Ij (dt rfl) ?_;intro My Hg S;refine pa Hg (ag (bn E1 (tn EO ?_)));replace S:=S.keep 1;exact ⟨EM,EP,FO,Gx,Hg,Ko,EH,rfl,rfl,S,EJ,FP,F⟩
     refine ei ER (pM Y U (ei ER (pM Y U (ei ER (pe (i_ (Z.length:Int)) (aq rfl (S.rdAt (R:=(aB (roR J R0_) 28)) 0 rfl)) (ei ER ?_))))));obtain ⟨Kp,Ik,F⟩:=ob F;refine pe (i_ Kp) (cg rfl rfl Ik) (ei ER ?_);obtain ⟨Mz,Il,F⟩:=ob F;refine aE (wA:=Hd) rfl (S.rdAt (R:=(aB (roR J R0_) 28)) 0 rfl) rfl (dt rfl) rfl Il (dt rfl) ?_;intro MA LK MB Fy Fo;replace Fy:R0_.rd J _ _:=Fy;obtain ⟨Kq,rfl⟩:=av Fy;refine ei ER (pe Kq (ac rfl (Fo 0 _ rfl)) (ei ER (pm Fe (ei ER ?_))));obtain ⟨Hh,Im,F⟩:=ob F;refine ec0 f6 (bE (S.up Fy) (S.up E4) Im) (ca (ai rfl (ai rfl rfl))) S fun MC In S=>?_;have Fo:=ak In Fo;refine ei ER (pe (.bool (Hh != 0)) (cK rfl rfl) (pe (.bool (Hh != 0)) (ax rfl ER rfl) (en Hf ?_)));rcases oif F with ⟨FQ,F⟩|⟨FQ,F⟩
     ·refine ct FQ (ah (pM Y U (pm Fe ?_)));refine au [Fe] (aM rfl (oc E4)) (by rfl) (dt rfl) rfl (dt rfl) S (dt rfl) ?_;intro MD ME S Io;have Fo:=ak Io Fo;obtain ⟨Kr,Ip,F⟩:=ob F;have GO:=S.boxRow 0 rfl;replace S:=S.t1;replace S:=S.roOne (R:=R0_) (W:=J) E4;replace S:=S.one;refine aA rfl (dt rfl) rfl (dt rfl) S rfl rfl rfl (by simp) GO Ip (dt rfl) ?_;intro MF Hi S;refine pa Hi (ag (bn E1 (tn EO ?_)));replace S:=S.keep 1;exact ⟨EM,EP,FO,Gx,Hi,Kr,EH,rfl,rfl,S,EJ,FP,F⟩
     refine cf FQ (aV (bn E1 (tn EO ?_)));replace S:=S.keep 1;exact ⟨EM,EP,FO,Gx,Y,Z,EH,rfl,U,S,EJ,FP,F⟩
    refine cf FN ?_;refine sR fun _ Ks=>?_;refine pM EM EH ?_;obtain ⟨MG,Iq,F⟩:=ob F;refine aE (wA:=J) rfl EJ rfl (dt rfl) rfl Iq (dt rfl) ?_;intro MH LL MI E5 Ir;obtain ⟨Ff,rfl⟩:=av E5;refine pe Ff (ac rfl ((ak S.below Ir) 0 _ rfl)) (pa Ff (en Ks (ah (pM EM EH ?_))));obtain ⟨Gy,Is,F⟩:=ob F;refine dF (wA:=J) rfl rfl EJ (.inl (congrArg some rfl)) (.inr ⟨rfl,rfl⟩) Is (dt rfl) ?_;intro FR FS;refine pa FR (en He ?_);refine sR fun _ Hj=>?_;refine pM Y U (pe (i_ (Z.length:Int)) (aq rfl (S.rdAt (R:=(aB (roR J R0_) 28)) 0 rfl)) (pe (.bool ((Z.length:Int) == 0)) (bq rfl rfl) (pm (.bool ((Z.length:Int) == 0)) ?_)));rcases oif F with ⟨ES,F⟩|⟨ES,F⟩
    ·refine eo ES (eo ES (eo ES (eo ES (eo ES (eo ES (eo ES (eo ES (eo ES (pe (.bool true) (aw rfl ES rfl) (en Hj (ct rfl (ah (pM Y U (pm Ff ?_))))))))))))));refine au [Ff] (aM rfl (oc E5)) (by rfl) (dt rfl) rfl (dt rfl) S (dt rfl) ?_;intro MJ MK S LM;obtain ⟨Kt,It,F⟩:=ob F;have GP:=S.boxRow 0 rfl;replace S:=S.t1;replace S:=S.roOne (R:=R0_) (W:=J) E5;replace S:=S.one;refine aA rfl (dt rfl) rfl (dt rfl) S rfl rfl rfl (by simp) GP It (dt rfl) ?_;intro ML Hk S;refine pa Hk (ag (bn E1 (tn EO ?_)));replace S:=S.keep 1;exact ⟨FR,Gy,EN,EQ,Hk,Kt,rfl,EI,rfl,S,FS,EK,F⟩
    refine ei ES (pM Y U (ei ES (pM Y U (ei ES (pe (i_ (Z.length:Int)) (aq rfl (S.rdAt (R:=(aB (roR J R0_) 28)) 0 rfl)) (ei ES ?_))))));obtain ⟨Ku,Iu,F⟩:=ob F;refine pe (i_ Ku) (cg rfl rfl Iu) (ei ES ?_);obtain ⟨MM,Iv,F⟩:=ob F;refine aE (wA:=Hd) rfl (S.rdAt (R:=(aB (roR J R0_) 28)) 0 rfl) rfl (dt rfl) rfl Iv (dt rfl) ?_;intro MN LN MO Fz Fp;replace Fz:R0_.rd J _ _:=Fz;obtain ⟨Kv,rfl⟩:=av Fz;refine ei ES (pe Kv (ac rfl (Fp 0 _ rfl)) (ei ES (pm Ff (ei ES ?_))));obtain ⟨Hl,Iw,F⟩:=ob F;refine ec0 f6 (bE (S.up Fz) (S.up E5) Iw) (ca (ai rfl (ai rfl rfl))) S fun MP Ix S=>?_;have Fp:=ak Ix Fp;refine ei ES (pe (.bool (Hl != 0)) (cK rfl rfl) (pe (.bool (Hl != 0)) (ax rfl ES rfl) (en Hj ?_)));rcases oif F with ⟨FT,F⟩|⟨FT,F⟩
    ·refine ct FT (ah (pM Y U (pm Ff ?_)));refine au [Ff] (aM rfl (oc E5)) (by rfl) (dt rfl) rfl (dt rfl) S (dt rfl) ?_;intro MQ MR S Iy;have Fp:=ak Iy Fp;obtain ⟨Kw,Iz,F⟩:=ob F;have GQ:=S.boxRow 0 rfl;replace S:=S.t1;replace S:=S.roOne (R:=R0_) (W:=J) E5;replace S:=S.one;refine aA rfl (dt rfl) rfl (dt rfl) S rfl rfl rfl (by simp) GQ Iz (dt rfl) ?_;intro MS Hm S;refine pa Hm (ag (bn E1 (tn EO ?_)));replace S:=S.keep 1;exact ⟨FR,Gy,EN,EQ,Hm,Kw,rfl,EI,rfl,S,FS,EK,F⟩
    refine cf FT (aV (bn E1 (tn EO ?_)));replace S:=S.keep 1;exact ⟨FR,Gy,EN,EQ,Y,Z,rfl,EI,U,S,FS,EK,F⟩
   refine cf FM ?_;refine sR fun _ Kx=>?_;refine pM EN EI (pe (i_ (EQ.length:Int)) (aq rfl EK) (pe (.bool (decide (0 < (EQ.length:Int)))) (bA rfl rfl) (pa (.bool (decide (0 < (EQ.length:Int)))) (en Kx ?_))));rcases oif F with ⟨FU,F⟩|⟨FU,F⟩
   ·refine ct FU ?_;refine bF (by kernel_rfl) (by kernel_rfl) ?_;refine qM EM EH ?_;obtain ⟨MT,IA,F⟩:=ob F;refine aU (wA:=J) rfl EJ rfl (dt rfl) rfl IA (dt rfl) ?_;intro MU LO MV GJ IB;obtain ⟨Ky,rfl⟩:=av GJ;refine qe Ky (ac rfl ((ak S.below IB) 0 _ rfl)) (qM EN EI ?_);obtain ⟨MW,IC,F⟩:=ob F;refine aU (wA:=J) rfl EK rfl (dt rfl) rfl IC (dt rfl) ?_;intro MX LP MY GK ID;obtain ⟨Kz,rfl⟩:=av GK;refine qe Kz (ac rfl ((ak S.below ID) 0 _ rfl)) ?_;obtain ⟨FV,IE,F⟩:=ob F;refine cc (i_ FV) f6 (fun w' hw'=>bE (bv (S.up GJ) hw') (bv (S.up GK) hw') IE) (ca (ai rfl (ai rfl rfl))) (dt rfl) ?_;refine qe (i_ FV) (cj rfl) (aZ ?_);intro MZ IF;replace S:=S.ext IF;refine bn Gw (tn Gv ?_);refine sR fun _ KA=>?_;refine aW bZ S (dt rfl) ?_;intro Hn KB S LQ;refine pa KB (en KA ?_);refine sg fun _ Ho=>?_;refine sg fun _ KC=>?_;replace S:=S.r0;refine ah (pm (i_ FV) (pe (.bool (decide (0 < FV))) (bA rfl rfl) (en KC ?_)));rcases oif F with ⟨FW,F⟩|⟨FW,F⟩
    ·refine ct FW ?_;refine sR fun _ KD=>?_;refine pM EN EI ?_;obtain ⟨M0,IG,F⟩:=ob F;refine aE (wA:=J) rfl EK rfl (dt rfl) rfl IG (dt rfl) ?_;intro M1 LR M2 E6 IH;obtain ⟨Fg,rfl⟩:=av E6;refine pe Fg (ac rfl ((ak S.below IH) 0 _ rfl)) (pa Fg (en KD (ah (pM EN EI ?_))));obtain ⟨Gz,II,F⟩:=ob F;refine dF (wA:=J) rfl rfl EK (.inl (congrArg some rfl)) (.inr ⟨rfl,rfl⟩) II (dt rfl) ?_;intro FX FY;refine pa FX (en Ho ?_);refine sR fun _ Hp=>?_;refine pM Y U (pe (i_ (Z.length:Int)) (aq rfl (S.rdAt (R:=(aB (roR J R0_) 28)) 0 rfl)) (pe (.bool ((Z.length:Int) == 0)) (bq rfl rfl) (pm (.bool ((Z.length:Int) == 0)) ?_)));rcases oif F with ⟨ET,F⟩|⟨ET,F⟩
     ·refine eo ET (eo ET (eo ET (eo ET (eo ET (eo ET (eo ET (eo ET (eo ET (pe (.bool true) (aw rfl ET rfl) (en Hp (ct rfl (ah (pM Y U (pm Fg ?_))))))))))))));refine au [Fg] (aM rfl (oc E6)) (by rfl) (dt rfl) rfl (dt rfl) S (dt rfl) ?_;intro M3 M4 S LS;obtain ⟨KE,IJ,F⟩:=ob F;have GR:=S.boxRow 0 rfl;replace S:=S.t1;replace S:=S.roOne (R:=R0_) (W:=J) E6;replace S:=S.one;refine aA rfl (dt rfl) rfl (dt rfl) S rfl rfl rfl (by simp) GR IJ (dt rfl) ?_;intro M5 Hq S;refine pa Hq (ag (bn E1 (tn EO ?_)));replace S:=S.keep 1;exact ⟨EM,EP,FX,Gz,Hq,KE,EH,rfl,rfl,S,EJ,FY,F⟩
     refine ei ET (pM Y U (ei ET (pM Y U (ei ET (pe (i_ (Z.length:Int)) (aq rfl (S.rdAt (R:=(aB (roR J R0_) 28)) 0 rfl)) (ei ET ?_))))));obtain ⟨KF,IK,F⟩:=ob F;refine pe (i_ KF) (cg rfl rfl IK) (ei ET ?_);obtain ⟨M6,IL,F⟩:=ob F;refine aE (wA:=Hn) rfl (S.rdAt (R:=(aB (roR J R0_) 28)) 0 rfl) rfl (dt rfl) rfl IL (dt rfl) ?_;intro M7 LT M8 FA Fq;replace FA:R0_.rd J _ _:=FA;obtain ⟨KG,rfl⟩:=av FA;refine ei ET (pe KG (ac rfl (Fq 0 _ rfl)) (ei ET (pm Fg (ei ET ?_))));obtain ⟨Hr,IM,F⟩:=ob F;refine ec0 f6 (bE (S.up FA) (S.up E6) IM) (ca (ai rfl (ai rfl rfl))) S fun M9 IN S=>?_;have Fq:=ak IN Fq;refine ei ET (pe (.bool (Hr != 0)) (cK rfl rfl) (pe (.bool (Hr != 0)) (ax rfl ET rfl) (en Hp ?_)));rcases oif F with ⟨FZ,F⟩|⟨FZ,F⟩
     ·refine ct FZ (ah (pM Y U (pm Fg ?_)));refine au [Fg] (aM rfl (oc E6)) (by rfl) (dt rfl) rfl (dt rfl) S (dt rfl) ?_;intro Na Nb S IP;have Fq:=ak IP Fq;obtain ⟨KH,IQ,F⟩:=ob F;have GS:=S.boxRow 0 rfl;replace S:=S.t1;replace S:=S.roOne (R:=R0_) (W:=J) E6;replace S:=S.one;refine aA rfl (dt rfl) rfl (dt rfl) S rfl rfl rfl (by simp) GS IQ (dt rfl) ?_;intro Nc Hs S;refine pa Hs (ag (bn E1 (tn EO ?_)));replace S:=S.keep 1;exact ⟨EM,EP,FX,Gz,Hs,KH,EH,rfl,rfl,S,EJ,FY,F⟩
     refine cf FZ (aV (bn E1 (tn EO ?_)));replace S:=S.keep 1;exact ⟨EM,EP,FX,Gz,Y,Z,EH,rfl,U,S,EJ,FY,F⟩
    refine cf FW ?_;refine sR fun _ KI=>?_;refine pM EM EH ?_;obtain ⟨Nd,IR,F⟩:=ob F;refine aE (wA:=J) rfl EJ rfl (dt rfl) rfl IR (dt rfl) ?_;intro Nf LU Ng E7 IS;obtain ⟨Fh,rfl⟩:=av E7;refine pe Fh (ac rfl ((ak S.below IS) 0 _ rfl)) (pa Fh (en KI (ah (pM EM EH ?_))));obtain ⟨GA,IT,F⟩:=ob F;refine dF (wA:=J) rfl rfl EJ (.inl (congrArg some rfl)) (.inr ⟨rfl,rfl⟩) IT (dt rfl) ?_;intro F0 F3;refine pa F0 (en Ho ?_);refine sR fun _ Ht=>?_;refine pM Y U (pe (i_ (Z.length:Int)) (aq rfl (S.rdAt (R:=(aB (roR J R0_) 28)) 0 rfl)) (pe (.bool ((Z.length:Int) == 0)) (bq rfl rfl) (pm (.bool ((Z.length:Int) == 0)) ?_)));rcases oif F with ⟨EU,F⟩|⟨EU,F⟩
    ·refine eo EU (eo EU (eo EU (eo EU (eo EU (eo EU (eo EU (eo EU (eo EU (pe (.bool true) (aw rfl EU rfl) (en Ht (ct rfl (ah (pM Y U (pm Fh ?_))))))))))))));refine au [Fh] (aM rfl (oc E7)) (by rfl) (dt rfl) rfl (dt rfl) S (dt rfl) ?_;intro Nh Ni S LV;obtain ⟨KJ,IU,F⟩:=ob F;have GT:=S.boxRow 0 rfl;replace S:=S.t1;replace S:=S.roOne (R:=R0_) (W:=J) E7;replace S:=S.one;refine aA rfl (dt rfl) rfl (dt rfl) S rfl rfl rfl (by simp) GT IU (dt rfl) ?_;intro Nj Hu S;refine pa Hu (ag (bn E1 (tn EO ?_)));replace S:=S.keep 1;exact ⟨F0,GA,EN,EQ,Hu,KJ,rfl,EI,rfl,S,F3,EK,F⟩
    refine ei EU (pM Y U (ei EU (pM Y U (ei EU (pe (i_ (Z.length:Int)) (aq rfl (S.rdAt (R:=(aB (roR J R0_) 28)) 0 rfl)) (ei EU ?_))))));obtain ⟨KK,IV,F⟩:=ob F;refine pe (i_ KK) (cg rfl rfl IV) (ei EU ?_);obtain ⟨Nk,IW,F⟩:=ob F;refine aE (wA:=Hn) rfl (S.rdAt (R:=(aB (roR J R0_) 28)) 0 rfl) rfl (dt rfl) rfl IW (dt rfl) ?_;intro Nl LW Nm FB Fr;replace FB:R0_.rd J _ _:=FB;obtain ⟨KL,rfl⟩:=av FB;refine ei EU (pe KL (ac rfl (Fr 0 _ rfl)) (ei EU (pm Fh (ei EU ?_))));obtain ⟨Hv,IX,F⟩:=ob F;refine ec0 f6 (bE (S.up FB) (S.up E7) IX) (ca (ai rfl (ai rfl rfl))) S fun Nn IY S=>?_;have Fr:=ak IY Fr;refine ei EU (pe (.bool (Hv != 0)) (cK rfl rfl) (pe (.bool (Hv != 0)) (ax rfl EU rfl) (en Ht ?_)));rcases oif F with ⟨F4,F⟩|⟨F4,F⟩
    ·refine ct F4 (ah (pM Y U (pm Fh ?_)));refine au [Fh] (aM rfl (oc E7)) (by rfl) (dt rfl) rfl (dt rfl) S (dt rfl) ?_;intro No Np S IZ;have Fr:=ak IZ Fr;obtain ⟨KM,I0,F⟩:=ob F;have GU:=S.boxRow 0 rfl;replace S:=S.t1;replace S:=S.roOne (R:=R0_) (W:=J) E7;replace S:=S.one;refine aA rfl (dt rfl) rfl (dt rfl) S rfl rfl rfl (by simp) GU I0 (dt rfl) ?_;intro Nq Hw S;refine pa Hw (ag (bn E1 (tn EO ?_)));replace S:=S.keep 1;exact ⟨F0,GA,EN,EQ,Hw,KM,rfl,EI,rfl,S,F3,EK,F⟩
    refine cf F4 (aV (bn E1 (tn EO ?_)));replace S:=S.keep 1;exact ⟨F0,GA,EN,EQ,Y,Z,rfl,EI,U,S,F3,EK,F⟩
   refine cf FU (ah (pa (i_ (-1)) (ag (bn Gw (tn Gv ?_)))));refine sR fun _ KN=>?_;refine aW bZ S (dt rfl) ?_;intro Hx KO S LX;refine pa KO (en KN ?_);refine sg fun _ Hy=>?_;refine sg fun _ KP=>?_;replace S:=S.r0;refine ah (pm (i_ (-1)) (pe (.bool (decide (0 < ((-1):Int)))) (bA rfl rfl) (en KP ?_)));rcases oif F with ⟨F5,F⟩|⟨F5,F⟩
   ·refine ct F5 ?_;refine sR fun _ KR=>?_;refine pM EN EI ?_;obtain ⟨Nr,I1,F⟩:=ob F;refine aE (wA:=J) rfl EK rfl (dt rfl) rfl I1 (dt rfl) ?_;intro Ns LY Nt E8 I2;obtain ⟨Fi,rfl⟩:=av E8;refine pe Fi (ac rfl ((ak S.below I2) 0 _ rfl)) (pa Fi (en KR (ah (pM EN EI ?_))));obtain ⟨GB,I3,F⟩:=ob F;refine dF (wA:=J) rfl rfl EK (.inl (congrArg some rfl)) (.inr ⟨rfl,rfl⟩) I3 (dt rfl) ?_;intro F6 F7;refine pa F6 (en Hy ?_);refine sR fun _ Hz=>?_;refine pM Y U (pe (i_ (Z.length:Int)) (aq rfl (S.rdAt (R:=(aB (roR J R0_) 28)) 0 rfl)) (pe (.bool ((Z.length:Int) == 0)) (bq rfl rfl) (pm (.bool ((Z.length:Int) == 0)) ?_)));rcases oif F with ⟨EV,F⟩|⟨EV,F⟩
    ·refine eo EV (eo EV (eo EV (eo EV (eo EV (eo EV (eo EV (eo EV (eo EV (pe (.bool true) (aw rfl EV rfl) (en Hz (ct rfl (ah (pM Y U (pm Fi ?_))))))))))))));refine au [Fi] (aM rfl (oc E8)) (by rfl) (dt rfl) rfl (dt rfl) S (dt rfl) ?_;intro Nu Nv S LZ;obtain ⟨KS,I4,F⟩:=ob F;have GV:=S.boxRow 0 rfl;replace S:=S.t1;replace S:=S.roOne (R:=R0_) (W:=J) E8;replace S:=S.one;refine aA rfl (dt rfl) rfl (dt rfl) S rfl rfl rfl (by simp) GV I4 (dt rfl) ?_;intro Nw HA S;refine pa HA (ag (bn E1 (tn EO ?_)));replace S:=S.keep 1;exact ⟨EM,EP,F6,GB,HA,KS,EH,rfl,rfl,S,EJ,F7,F⟩
    refine ei EV (pM Y U (ei EV (pM Y U (ei EV (pe (i_ (Z.length:Int)) (aq rfl (S.rdAt (R:=(aB (roR J R0_) 28)) 0 rfl)) (ei EV ?_))))));obtain ⟨KT,I5,F⟩:=ob F;refine pe (i_ KT) (cg rfl rfl I5) (ei EV ?_);obtain ⟨Nx,I6,F⟩:=ob F;refine aE (wA:=Hx) rfl (S.rdAt (R:=(aB (roR J R0_) 28)) 0 rfl) rfl (dt rfl) rfl I6 (dt rfl) ?_;intro Ny L0 Nz FC Fs;replace FC:R0_.rd J _ _:=FC;obtain ⟨KU,rfl⟩:=av FC;refine ei EV (pe KU (ac rfl (Fs 0 _ rfl)) (ei EV (pm Fi (ei EV ?_))));obtain ⟨HB,I7,F⟩:=ob F;refine ec0 f6 (bE (S.up FC) (S.up E8) I7) (ca (ai rfl (ai rfl rfl))) S fun NA I8 S=>?_;have Fs:=ak I8 Fs;refine ei EV (pe (.bool (HB != 0)) (cK rfl rfl) (pe (.bool (HB != 0)) (ax rfl EV rfl) (en Hz ?_)));rcases oif F with ⟨F8,F⟩|⟨F8,F⟩
    ·refine ct F8 (ah (pM Y U (pm Fi ?_)));refine au [Fi] (aM rfl (oc E8)) (by rfl) (dt rfl) rfl (dt rfl) S (dt rfl) ?_;intro NB NC S I9;have Fs:=ak I9 Fs;obtain ⟨KV,Ja,F⟩:=ob F;have GW:=S.boxRow 0 rfl;replace S:=S.t1;replace S:=S.roOne (R:=R0_) (W:=J) E8;replace S:=S.one;refine aA rfl (dt rfl) rfl (dt rfl) S rfl rfl rfl (by simp) GW Ja (dt rfl) ?_;intro ND HC S;refine pa HC (ag (bn E1 (tn EO ?_)));replace S:=S.keep 1;exact ⟨EM,EP,F6,GB,HC,KV,EH,rfl,rfl,S,EJ,F7,F⟩
    refine cf F8 (aV (bn E1 (tn EO ?_)));replace S:=S.keep 1;exact ⟨EM,EP,F6,GB,Y,Z,EH,rfl,U,S,EJ,F7,F⟩
   refine cf F5 ?_;refine sR fun _ KW=>?_;refine pM EM EH ?_;obtain ⟨NE,Jb,F⟩:=ob F;refine aE (wA:=J) rfl EJ rfl (dt rfl) rfl Jb (dt rfl) ?_;intro NF L3 NG E9 Jc;obtain ⟨Fj,rfl⟩:=av E9;refine pe Fj (ac rfl ((ak S.below Jc) 0 _ rfl)) (pa Fj (en KW (ah (pM EM EH ?_))));obtain ⟨GC,Jd,F⟩:=ob F;refine dF (wA:=J) rfl rfl EJ (.inl (congrArg some rfl)) (.inr ⟨rfl,rfl⟩) Jd (dt rfl) ?_;intro F9 Ga;refine pa F9 (en Hy ?_);refine sR fun _ HD=>?_;refine pM Y U (pe (i_ (Z.length:Int)) (aq rfl (S.rdAt (R:=(aB (roR J R0_) 28)) 0 rfl)) (pe (.bool ((Z.length:Int) == 0)) (bq rfl rfl) (pm (.bool ((Z.length:Int) == 0)) ?_)));rcases oif F with ⟨EW,F⟩|⟨EW,F⟩
   ·refine eo EW (eo EW (eo EW (eo EW (eo EW (eo EW (eo EW (eo EW (eo EW (pe (.bool true) (aw rfl EW rfl) (en HD (ct rfl (ah (pM Y U (pm Fj ?_))))))))))))));refine au [Fj] (aM rfl (oc E9)) (by rfl) (dt rfl) rfl (dt rfl) S (dt rfl) ?_;intro NH NI S L4;obtain ⟨KX,Je,F⟩:=ob F;have GX:=S.boxRow 0 rfl;replace S:=S.t1;replace S:=S.roOne (R:=R0_) (W:=J) E9;replace S:=S.one;refine aA rfl (dt rfl) rfl (dt rfl) S rfl rfl rfl (by simp) GX Je (dt rfl) ?_;intro NJ HE S;refine pa HE (ag (bn E1 (tn EO ?_)));replace S:=S.keep 1;exact ⟨F9,GC,EN,EQ,HE,KX,rfl,EI,rfl,S,Ga,EK,F⟩
   refine ei EW (pM Y U (ei EW (pM Y U (ei EW (pe (i_ (Z.length:Int)) (aq rfl (S.rdAt (R:=(aB (roR J R0_) 28)) 0 rfl)) (ei EW ?_))))));obtain ⟨KY,Jf,F⟩:=ob F;refine pe (i_ KY) (cg rfl rfl Jf) (ei EW ?_);obtain ⟨NK,Jg,F⟩:=ob F;refine aE (wA:=Hx) rfl (S.rdAt (R:=(aB (roR J R0_) 28)) 0 rfl) rfl (dt rfl) rfl Jg (dt rfl) ?_;intro NL L5 NM FD Ft;replace FD:R0_.rd J _ _:=FD;obtain ⟨KZ,rfl⟩:=av FD;refine ei EW (pe KZ (ac rfl (Ft 0 _ rfl)) (ei EW (pm Fj (ei EW ?_))));obtain ⟨HF,Jh,F⟩:=ob F;refine ec0 f6 (bE (S.up FD) (S.up E9) Jh) (ca (ai rfl (ai rfl rfl))) S fun NN Ji S=>?_;have Ft:=ak Ji Ft;refine ei EW (pe (.bool (HF != 0)) (cK rfl rfl) (pe (.bool (HF != 0)) (ax rfl EW rfl) (en HD ?_)));rcases oif F with ⟨Gb,F⟩|⟨Gb,F⟩
   ·refine ct Gb (ah (pM Y U (pm Fj ?_)));refine au [Fj] (aM rfl (oc E9)) (by rfl) (dt rfl) rfl (dt rfl) S (dt rfl) ?_;intro NO NP S Jj;have Ft:=ak Jj Ft;obtain ⟨K0,Jk,F⟩:=ob F;have GY:=S.boxRow 0 rfl;replace S:=S.t1;replace S:=S.roOne (R:=R0_) (W:=J) E9;replace S:=S.one;refine aA rfl (dt rfl) rfl (dt rfl) S rfl rfl rfl (by simp) GY Jk (dt rfl) ?_;intro NQ HG S;refine pa HG (ag (bn E1 (tn EO ?_)));replace S:=S.keep 1;exact ⟨F9,GC,EN,EQ,HG,K0,rfl,EI,rfl,S,Ga,EK,F⟩
   refine cf Gb (aV (bn E1 (tn EO ?_)));replace S:=S.keep 1;exact ⟨F9,GC,EN,EQ,Y,Z,rfl,EI,U,S,Ga,EK,F⟩
  refine ei E3 (pM EN EI (ei E3 (pe (i_ (EQ.length:Int)) (aq rfl EK) (ei E3 (pe (.bool (decide (0 < (EQ.length:Int)))) (bA rfl rfl) (pe (.bool (decide (0 < (EQ.length:Int)))) (ax rfl E3 rfl) (en Hc ?_)))))));rcases oif F with ⟨FE,F⟩|⟨FE,F⟩
  ·refine ct FE (sn Gu ?_);refine bg fun _ E2=>?_;refine sR fun _ K3=>?_;refine pa (i_ 0) (en K3 ?_);refine sg fun _ HH=>?_;refine bg fun _ HI=>?_;refine sR fun _ K4=>?_;refine pM EM EH (pe (i_ (EP.length:Int)) (aq rfl EJ) (pe (.bool ((EP.length:Int) == 0)) (bq rfl rfl) (pa (.bool ((EP.length:Int) == 0)) (en K4 ?_))));rcases oif F with ⟨Gc,F⟩|⟨Gc,F⟩
   ·refine ct Gc (ah (pa (i_ 1) (ag (bn HI (tn HH ?_)))));refine sR fun _ K5=>?_;refine aW bZ S (dt rfl) ?_;intro HJ K6 S L6;refine pa K6 (en K5 ?_);refine sg fun _ HK=>?_;refine sg fun _ K7=>?_;replace S:=S.r0;refine ah (pm (i_ 1) (pe (.bool (decide (0 < (1:Int)))) (bA rfl rfl) (en K7 ?_)));rcases oif F with ⟨Gd,F⟩|⟨Gd,F⟩
    ·refine ct Gd ?_;refine sR fun _ K8=>?_;refine pM EN EI ?_;obtain ⟨NR,Jl,F⟩:=ob F;refine aE (wA:=J) rfl EK rfl (dt rfl) rfl Jl (dt rfl) ?_;intro NS L7 NT Fa Jm;obtain ⟨Fk,rfl⟩:=av Fa;refine pe Fk (ac rfl ((ak S.below Jm) 0 _ rfl)) (pa Fk (en K8 (ah (pM EN EI ?_))));obtain ⟨GD,Jn,F⟩:=ob F;refine dF (wA:=J) rfl rfl EK (.inl (congrArg some rfl)) (.inr ⟨rfl,rfl⟩) Jn (dt rfl) ?_;intro Ge Gf;refine pa Ge (en HK ?_);refine sR fun _ HL=>?_;refine pM Y U (pe (i_ (Z.length:Int)) (aq rfl (S.rdAt (R:=(aB (roR J R0_) 28)) 0 rfl)) (pe (.bool ((Z.length:Int) == 0)) (bq rfl rfl) (pm (.bool ((Z.length:Int) == 0)) ?_)));rcases oif F with ⟨EX,F⟩|⟨EX,F⟩
     ·refine eo EX (eo EX (eo EX (eo EX (eo EX (eo EX (eo EX (eo EX (eo EX (pe (.bool true) (aw rfl EX rfl) (en HL (ct rfl (ah (pM Y U (pm Fk ?_))))))))))))));refine au [Fk] (aM rfl (oc Fa)) (by rfl) (dt rfl) rfl (dt rfl) S (dt rfl) ?_;intro NU NV S L8;obtain ⟨K9,Jo,F⟩:=ob F;have GZ:=S.boxRow 0 rfl;replace S:=S.t1;replace S:=S.roOne (R:=R0_) (W:=J) Fa;replace S:=S.one;refine aA rfl (dt rfl) rfl (dt rfl) S rfl rfl rfl (by simp) GZ Jo (dt rfl) ?_;intro NW HM S;refine pa HM (ag (bn E2 (tn EO ?_)));replace S:=S.keep 1;exact ⟨EM,EP,Ge,GD,HM,K9,EH,rfl,rfl,S,EJ,Gf,F⟩
     refine ei EX (pM Y U (ei EX (pM Y U (ei EX (pe (i_ (Z.length:Int)) (aq rfl (S.rdAt (R:=(aB (roR J R0_) 28)) 0 rfl)) (ei EX ?_))))));obtain ⟨La,Jp,F⟩:=ob F;refine pe (i_ La) (cg rfl rfl Jp) (ei EX ?_);obtain ⟨NX,Jq,F⟩:=ob F;refine aE (wA:=HJ) rfl (S.rdAt (R:=(aB (roR J R0_) 28)) 0 rfl) rfl (dt rfl) rfl Jq (dt rfl) ?_;intro NY L9 NZ FF Fu;replace FF:R0_.rd J _ _:=FF;obtain ⟨Lb,rfl⟩:=av FF;refine ei EX (pe Lb (ac rfl (Fu 0 _ rfl)) (ei EX (pm Fk (ei EX ?_))));obtain ⟨HN,Jr,F⟩:=ob F;refine ec0 f6 (bE (S.up FF) (S.up Fa) Jr) (ca (ai rfl (ai rfl rfl))) S fun N0 Js S=>?_;have Fu:=ak Js Fu;refine ei EX (pe (.bool (HN != 0)) (cK rfl rfl) (pe (.bool (HN != 0)) (ax rfl EX rfl) (en HL ?_)));rcases oif F with ⟨Gg,F⟩|⟨Gg,F⟩
     ·refine ct Gg (ah (pM Y U (pm Fk ?_)));refine au [Fk] (aM rfl (oc Fa)) (by rfl) (dt rfl) rfl (dt rfl) S (dt rfl) ?_;intro N1 N3 S Jt;have Fu:=ak Jt Fu;obtain ⟨Lc,Ju,F⟩:=ob F;have G1:=S.boxRow 0 rfl;replace S:=S.t1;replace S:=S.roOne (R:=R0_) (W:=J) Fa;replace S:=S.one;refine aA rfl (dt rfl) rfl (dt rfl) S rfl rfl rfl (by simp) G1 Ju (dt rfl) ?_;intro N4 HO S;refine pa HO (ag (bn E2 (tn EO ?_)));replace S:=S.keep 1;exact ⟨EM,EP,Ge,GD,HO,Lc,EH,rfl,rfl,S,EJ,Gf,F⟩
     refine cf Gg (aV (bn E2 (tn EO ?_)));replace S:=S.keep 1;exact ⟨EM,EP,Ge,GD,Y,Z,EH,rfl,U,S,EJ,Gf,F⟩
    refine cf Gd ?_;refine sR fun _ Ld=>?_;refine pM EM EH ?_;obtain ⟨N5,Jv,F⟩:=ob F;refine aE (wA:=J) rfl EJ rfl (dt rfl) rfl Jv (dt rfl) ?_;intro N6 Ma N7 Fb Jw;obtain ⟨Fl,rfl⟩:=av Fb;refine pe Fl (ac rfl ((ak S.below Jw) 0 _ rfl)) (pa Fl (en Ld (ah (pM EM EH ?_))));obtain ⟨GE,Jx,F⟩:=ob F;refine dF (wA:=J) rfl rfl EJ (.inl (congrArg some rfl)) (.inr ⟨rfl,rfl⟩) Jx (dt rfl) ?_;intro Gh Gi;refine pa Gh (en HK ?_);refine sR fun _ HP=>?_;refine pM Y U (pe (i_ (Z.length:Int)) (aq rfl (S.rdAt (R:=(aB (roR J R0_) 28)) 0 rfl)) (pe (.bool ((Z.length:Int) == 0)) (bq rfl rfl) (pm (.bool ((Z.length:Int) == 0)) ?_)));rcases oif F with ⟨EY,F⟩|⟨EY,F⟩
    ·refine eo EY (eo EY (eo EY (eo EY (eo EY (eo EY (eo EY (eo EY (eo EY (pe (.bool true) (aw rfl EY rfl) (en HP (ct rfl (ah (pM Y U (pm Fl ?_))))))))))))));refine au [Fl] (aM rfl (oc Fb)) (by rfl) (dt rfl) rfl (dt rfl) S (dt rfl) ?_;intro N8 N9 S Mb;obtain ⟨Le,Jy,F⟩:=ob F;have G2:=S.boxRow 0 rfl;replace S:=S.t1;replace S:=S.roOne (R:=R0_) (W:=J) Fb;replace S:=S.one;refine aA rfl (dt rfl) rfl (dt rfl) S rfl rfl rfl (by simp) G2 Jy (dt rfl) ?_;intro Oa HQ S;refine pa HQ (ag (bn E2 (tn EO ?_)));replace S:=S.keep 1;exact ⟨Gh,GE,EN,EQ,HQ,Le,rfl,EI,rfl,S,Gi,EK,F⟩
    refine ei EY (pM Y U (ei EY (pM Y U (ei EY (pe (i_ (Z.length:Int)) (aq rfl (S.rdAt (R:=(aB (roR J R0_) 28)) 0 rfl)) (ei EY ?_))))));obtain ⟨Lg,Jz,F⟩:=ob F;refine pe (i_ Lg) (cg rfl rfl Jz) (ei EY ?_);obtain ⟨Ob,JA,F⟩:=ob F;refine aE (wA:=HJ) rfl (S.rdAt (R:=(aB (roR J R0_) 28)) 0 rfl) rfl (dt rfl) rfl JA (dt rfl) ?_;intro Oc Mc Od FG Fv;replace FG:R0_.rd J _ _:=FG;obtain ⟨Lh,rfl⟩:=av FG;refine ei EY (pe Lh (ac rfl (Fv 0 _ rfl)) (ei EY (pm Fl (ei EY ?_))));obtain ⟨HR,JB,F⟩:=ob F;refine ec0 f6 (bE (S.up FG) (S.up Fb) JB) (ca (ai rfl (ai rfl rfl))) S fun Oe JC S=>?_;have Fv:=ak JC Fv;refine ei EY (pe (.bool (HR != 0)) (cK rfl rfl) (pe (.bool (HR != 0)) (ax rfl EY rfl) (en HP ?_)));rcases oif F with ⟨Gj,F⟩|⟨Gj,F⟩
    ·refine ct Gj (ah (pM Y U (pm Fl ?_)));refine au [Fl] (aM rfl (oc Fb)) (by rfl) (dt rfl) rfl (dt rfl) S (dt rfl) ?_;intro Of Og S JD;have Fv:=ak JD Fv;obtain ⟨Li,JE,F⟩:=ob F;have G3:=S.boxRow 0 rfl;replace S:=S.t1;replace S:=S.roOne (R:=R0_) (W:=J) Fb;replace S:=S.one;refine aA rfl (dt rfl) rfl (dt rfl) S rfl rfl rfl (by simp) G3 JE (dt rfl) ?_;intro Oh HS S;refine pa HS (ag (bn E2 (tn EO ?_)));replace S:=S.keep 1;exact ⟨Gh,GE,EN,EQ,HS,Li,rfl,EI,rfl,S,Gi,EK,F⟩
    refine cf Gj (aV (bn E2 (tn EO ?_)));replace S:=S.keep 1;exact ⟨Gh,GE,EN,EQ,Y,Z,rfl,EI,U,S,Gi,EK,F⟩
   refine cf Gc ?_;refine sR fun _ Lj=>?_;refine pM EN EI (pe (i_ (EQ.length:Int)) (aq rfl EK) (pe (.bool (decide (0 < (EQ.length:Int)))) (bA rfl rfl) (pa (.bool (decide (0 < (EQ.length:Int)))) (en Lj (ct FE ?_)))));refine bF (by kernel_rfl) (by kernel_rfl) ?_;refine qM EM EH ?_;obtain ⟨Oi,JF,F⟩:=ob F;refine aU (wA:=J) rfl EJ rfl (dt rfl) rfl JF (dt rfl) ?_;intro Oj Md Ok GL JG;obtain ⟨Lk,rfl⟩:=av GL;refine qe Lk (ac rfl ((ak S.below JG) 0 _ rfl)) (qM EN EI ?_);obtain ⟨Ol,JH,F⟩:=ob F;refine aU (wA:=J) rfl EK rfl (dt rfl) rfl JH (dt rfl) ?_;intro Om Me On GM JI;obtain ⟨Ll,rfl⟩:=av GM;refine qe Ll (ac rfl ((ak S.below JI) 0 _ rfl)) ?_;obtain ⟨Gk,JJ,F⟩:=ob F;refine cc (i_ Gk) f6 (fun w' hw'=>bE (bv (S.up GL) hw') (bv (S.up GM) hw') JJ) (ca (ai rfl (ai rfl rfl))) (dt rfl) ?_;refine qe (i_ Gk) (cj rfl) (aZ ?_);intro Oo JK;replace S:=S.ext JK;refine bn HI (tn HH ?_);refine sR fun _ Lm=>?_;refine aW bZ S (dt rfl) ?_;intro HT Ln S Mf;refine pa Ln (en Lm ?_);refine sg fun _ HU=>?_;refine sg fun _ Lo=>?_;replace S:=S.r0;refine ah (pm (i_ Gk) (pe (.bool (decide (0 < Gk))) (bA rfl rfl) (en Lo ?_)));rcases oif F with ⟨Gl,F⟩|⟨Gl,F⟩
   ·refine ct Gl ?_;refine sR fun _ Lp=>?_;refine pM EN EI ?_;obtain ⟨Oq,JL,F⟩:=ob F;refine aE (wA:=J) rfl EK rfl (dt rfl) rfl JL (dt rfl) ?_;intro Or Mg Ot Fc JM;obtain ⟨Fm,rfl⟩:=av Fc;refine pe Fm (ac rfl ((ak S.below JM) 0 _ rfl)) (pa Fm (en Lp (ah (pM EN EI ?_))));obtain ⟨GF,JN,F⟩:=ob F;refine dF (wA:=J) rfl rfl EK (.inl (congrArg some rfl)) (.inr ⟨rfl,rfl⟩) JN (dt rfl) ?_;intro Gm Gn;refine pa Gm (en HU ?_);refine sR fun _ HV=>?_;refine pM Y U (pe (i_ (Z.length:Int)) (aq rfl (S.rdAt (R:=(aB (roR J R0_) 28)) 0 rfl)) (pe (.bool ((Z.length:Int) == 0)) (bq rfl rfl) (pm (.bool ((Z.length:Int) == 0)) ?_)));rcases oif F with ⟨EZ,F⟩|⟨EZ,F⟩
    ·refine eo EZ (eo EZ (eo EZ (eo EZ (eo EZ (eo EZ (eo EZ (eo EZ (eo EZ (pe (.bool true) (aw rfl EZ rfl) (en HV (ct rfl (ah (pM Y U (pm Fm ?_))))))))))))));refine au [Fm] (aM rfl (oc Fc)) (by rfl) (dt rfl) rfl (dt rfl) S (dt rfl) ?_;intro Ou Ov S Mh;obtain ⟨Lq,JO,F⟩:=ob F;have G4:=S.boxRow 0 rfl;replace S:=S.t1;replace S:=S.roOne (R:=R0_) (W:=J) Fc;replace S:=S.one;refine aA rfl (dt rfl) rfl (dt rfl) S rfl rfl rfl (by simp) G4 JO (dt rfl) ?_;intro Ow HW S;refine pa HW (ag (bn E2 (tn EO ?_)));replace S:=S.keep 1;exact ⟨EM,EP,Gm,GF,HW,Lq,EH,rfl,rfl,S,EJ,Gn,F⟩
    refine ei EZ (pM Y U (ei EZ (pM Y U (ei EZ (pe (i_ (Z.length:Int)) (aq rfl (S.rdAt (R:=(aB (roR J R0_) 28)) 0 rfl)) (ei EZ ?_))))));obtain ⟨Lr,JP,F⟩:=ob F;refine pe (i_ Lr) (cg rfl rfl JP) (ei EZ ?_);obtain ⟨Ox,JQ,F⟩:=ob F;refine aE (wA:=HT) rfl (S.rdAt (R:=(aB (roR J R0_) 28)) 0 rfl) rfl (dt rfl) rfl JQ (dt rfl) ?_;intro Oy Mi Oz FH Fw;replace FH:R0_.rd J _ _:=FH;obtain ⟨Lt,rfl⟩:=av FH;refine ei EZ (pe Lt (ac rfl (Fw 0 _ rfl)) (ei EZ (pm Fm (ei EZ ?_))));obtain ⟨HX,JR,F⟩:=ob F;refine ec0 f6 (bE (S.up FH) (S.up Fc) JR) (ca (ai rfl (ai rfl rfl))) S fun OA JS S=>?_;have Fw:=ak JS Fw;refine ei EZ (pe (.bool (HX != 0)) (cK rfl rfl) (pe (.bool (HX != 0)) (ax rfl EZ rfl) (en HV ?_)));rcases oif F with ⟨Gp,F⟩|⟨Gp,F⟩
    ·refine ct Gp (ah (pM Y U (pm Fm ?_)));refine au [Fm] (aM rfl (oc Fc)) (by rfl) (dt rfl) rfl (dt rfl) S (dt rfl) ?_;intro OB OC S JT;have Fw:=ak JT Fw;obtain ⟨Lu,JU,F⟩:=ob F;have G5:=S.boxRow 0 rfl;replace S:=S.t1;replace S:=S.roOne (R:=R0_) (W:=J) Fc;replace S:=S.one;refine aA rfl (dt rfl) rfl (dt rfl) S rfl rfl rfl (by simp) G5 JU (dt rfl) ?_;intro OD HY S;refine pa HY (ag (bn E2 (tn EO ?_)));replace S:=S.keep 1;exact ⟨EM,EP,Gm,GF,HY,Lu,EH,rfl,rfl,S,EJ,Gn,F⟩
    refine cf Gp (aV (bn E2 (tn EO ?_)));replace S:=S.keep 1;exact ⟨EM,EP,Gm,GF,Y,Z,EH,rfl,U,S,EJ,Gn,F⟩
   refine cf Gl ?_;refine sR fun _ Lv=>?_;refine pM EM EH ?_;obtain ⟨OE,JV,F⟩:=ob F;refine aE (wA:=J) rfl EJ rfl (dt rfl) rfl JV (dt rfl) ?_;intro OF Mj OG Fd JW;obtain ⟨Fn,rfl⟩:=av Fd;refine pe Fn (ac rfl ((ak S.below JW) 0 _ rfl)) (pa Fn (en Lv (ah (pM EM EH ?_))));obtain ⟨GG,JX,F⟩:=ob F;refine dF (wA:=J) rfl rfl EJ (.inl (congrArg some rfl)) (.inr ⟨rfl,rfl⟩) JX (dt rfl) ?_;intro Gq Gr;refine pa Gq (en HU ?_);refine sR fun _ HZ=>?_;refine pM Y U (pe (i_ (Z.length:Int)) (aq rfl (S.rdAt (R:=(aB (roR J R0_) 28)) 0 rfl)) (pe (.bool ((Z.length:Int) == 0)) (bq rfl rfl) (pm (.bool ((Z.length:Int) == 0)) ?_)));rcases oif F with ⟨E0,F⟩|⟨E0,F⟩
   ·refine eo E0 (eo E0 (eo E0 (eo E0 (eo E0 (eo E0 (eo E0 (eo E0 (eo E0 (pe (.bool true) (aw rfl E0 rfl) (en HZ (ct rfl (ah (pM Y U (pm Fn ?_))))))))))))));refine au [Fn] (aM rfl (oc Fd)) (by rfl) (dt rfl) rfl (dt rfl) S (dt rfl) ?_;intro OH OI S Mk;obtain ⟨Lw,JY,F⟩:=ob F;have G6:=S.boxRow 0 rfl;replace S:=S.t1;replace S:=S.roOne (R:=R0_) (W:=J) Fd;replace S:=S.one;refine aA rfl (dt rfl) rfl (dt rfl) S rfl rfl rfl (by simp) G6 JY (dt rfl) ?_;intro OJ H0 S;refine pa H0 (ag (bn E2 (tn EO ?_)));replace S:=S.keep 1;exact ⟨Gq,GG,EN,EQ,H0,Lw,rfl,EI,rfl,S,Gr,EK,F⟩
   refine ei E0 (pM Y U (ei E0 (pM Y U (ei E0 (pe (i_ (Z.length:Int)) (aq rfl (S.rdAt (R:=(aB (roR J R0_) 28)) 0 rfl)) (ei E0 ?_))))));obtain ⟨Lx,JZ,F⟩:=ob F;refine pe (i_ Lx) (cg rfl rfl JZ) (ei E0 ?_);obtain ⟨OK,J0,F⟩:=ob F;refine aE (wA:=HT) rfl (S.rdAt (R:=(aB (roR J R0_) 28)) 0 rfl) rfl (dt rfl) rfl J0 (dt rfl) ?_;intro OL Ml OM FI Fx;replace FI:R0_.rd J _ _:=FI;obtain ⟨Ly,rfl⟩:=av FI;refine ei E0 (pe Ly (ac rfl (Fx 0 _ rfl)) (ei E0 (pm Fn (ei E0 ?_))));obtain ⟨H1,J1,F⟩:=ob F;refine ec0 f6 (bE (S.up FI) (S.up Fd) J1) (ca (ai rfl (ai rfl rfl))) S fun ON J2 S=>?_;have Fx:=ak J2 Fx;refine ei E0 (pe (.bool (H1 != 0)) (cK rfl rfl) (pe (.bool (H1 != 0)) (ax rfl E0 rfl) (en HZ ?_)));rcases oif F with ⟨Gs,F⟩|⟨Gs,F⟩
   ·refine ct Gs (ah (pM Y U (pm Fn ?_)));refine au [Fn] (aM rfl (oc Fd)) (by rfl) (dt rfl) rfl (dt rfl) S (dt rfl) ?_;intro OO OP S J3;have Fx:=ak J3 Fx;obtain ⟨Lz,J4,F⟩:=ob F;have G7:=S.boxRow 0 rfl;replace S:=S.t1;replace S:=S.roOne (R:=R0_) (W:=J) Fd;replace S:=S.one;refine aA rfl (dt rfl) rfl (dt rfl) S rfl rfl rfl (by simp) G7 J4 (dt rfl) ?_;intro OQ H2 S;refine pa H2 (ag (bn E2 (tn EO ?_)));replace S:=S.keep 1;exact ⟨Gq,GG,EN,EQ,H2,Lz,rfl,EI,rfl,S,Gr,EK,F⟩
   refine cf Gs (aV (bn E2 (tn EO ?_)));replace S:=S.keep 1;exact ⟨Gq,GG,EN,EQ,Y,Z,rfl,EI,U,S,Gr,EK,F⟩
  refine cf FE (aG (tx Gu (tx EO ?_)));replace F:=exB F If;refine bS Kf (tn Ke ?_);refine sR fun _ LA=>?_;refine pM Y U (pa Y (en LA (aj (aH rfl rfl ?_))));have hr:=Option.some.inj F;exact ⟨Y,congrArg (fun (r:T1_)=>Ending.returned (Y)) hr,(S.rebase Id).below,Eq.mp (congrArg (fun (r:T1_)=>R3_.rd Kh [Y] r) hr :) (Ev S.below (S.rdAt (R:=(aB (roR J R0_) 28)) 0 rfl))⟩
theorem uZ {w0 : World} {u0 : Value} {a0 : List T0_} (ha0 : R3_.rd w0 [u0] a0) {N : Nat} {r : T1_} (hF : f5 N a0 = some r) :
    Calls Tryz.prog 60 #[u0] w0 fun e w' => ∃ (q0 : Value), e = .returned (q0) ∧ Ext w0 w' ∧ R3_.rd w' [q0] r := tA N ha0 hF
theorem fj {w0:World} {a0:Int} {u1:Value} {a1:List T0_} (ha1:R3_.rd w0 [u1] a1) {N:Nat} {r:Bool} (F:cV N a0 a1=some r): Calls Tryz.prog 61 #[.agg #[i_ a0,u1]] w0 fun e w'=>e=.returned (.bool r)∧Ext w0 w' := by
 unfold cV at F;refine aJ Tryz.func61 rfl rfl (dt rfl) ?_;have S:=Sat.start w0;refine sR fun _ Fr=>?_;refine bo [i_ a0,u1] rfl S (dt rfl) ?_;intro FM EK S FG;refine pa (.bool false) (en Fr ?_);refine sg fun _ EY=>?_;refine sR fun _ E6=>?_;refine pe (.pointer (some ⟨EK,0 + 0,none⟩)) (ae rfl) (pe (i_ a0) (ac rfl ((S.boxAt 0 rfl) 0 _ rfl)) ?_);obtain ⟨E7,E9,F⟩:=ob F;refine ec0 j4 (eg E9) (ca (ai rfl (ai rfl (ai rfl rfl)))) S fun FN FH S=>?_;refine pe (.bool (!E7)) (bc rfl) (pm (.bool (!E7)) ?_);rcases oif F with ⟨Z,F⟩|⟨Z,F⟩
 ·refine ei (am Z) (pe (.pointer (some ⟨EK,0 + 1,none⟩)) (ae rfl) (ei (am Z) (pe u1 (ac rfl ((S.boxAt 0 rfl) 1 _ rfl)) (ei (am Z) (pe (i_ (a1.length:Int)) (aq rfl ha1) (ei (am Z) (pe (.bool (decide (4000 < (a1.length:Int)))) (bA rfl rfl) (pe (.bool (decide (4000 < (a1.length:Int)))) (ax rfl (am Z) rfl) (en E6 ?_)))))))));rcases oif F with ⟨EQ,F⟩|⟨EQ,F⟩
  ·refine ct EQ ?_;refine sg fun _ Fs=>?_;replace S:=S.r0;refine ah (pa (.bool false) (en Fs (aj (tr EY (aH rfl rfl ?_)))));exact rB F S
  refine cf EQ (sn EY ?_);refine sg fun _ ER=>?_;refine sR fun _ Ft=>?_;refine pa (i_ 0) (en Ft ?_);refine bg fun _ ES=>?_;obtain ⟨Fu,hL,EN⟩:=ob F;refine aF (fun k e w=>∃ (EH:Int),e 1=.pointer (some ⟨EK,0,none⟩)∧e 3=i_ EH∧Sat w0 w [Box EK 39 [i_ a0,u1]]∧cH N k a0 a1 EH=some Fu) N ?_ ?_ ?_
  ·exact ⟨0,rfl,rfl,S,hL⟩
  ·rintro e w ⟨_,_,_,_,hz⟩; exact nomatch (show none=some _ from hz)
  rintro k FO FP ⟨EH,EI,EJ,S,F⟩;refine gn fun _ EM=>?_;refine sg fun _ E8=>?_;refine sR fun _ Fv=>?_;refine pM (i_ EH) EJ (pe (.pointer (some ⟨EK,0 + 1,none⟩)) (ae EI) (pe u1 (ac rfl ((S.boxAt 0 rfl) 1 _ rfl)) (pe (i_ (a1.length:Int)) (aq rfl ha1) (pe (.bool (decide (EH < (a1.length:Int)))) (aL rfl rfl) (en Fv ?_)))));rcases oif F with ⟨ET,F⟩|⟨ET,F⟩
  ·refine ct ET (sn E8 ?_);refine sg fun _ EO=>?_;refine bg fun _ EP=>?_;refine sg fun _ EU=>?_;refine bF (by kernel_rfl) (by kernel_rfl) ?_;refine qe (.pointer (some ⟨EK,0 + 1,none⟩)) (ae EI) (qe u1 (ac rfl ((S.boxAt 0 rfl) 1 _ rfl)) (qM (i_ EH) EJ ?_));obtain ⟨EZ,Fa,F⟩:=ob F;refine aU (wA:=w0) rfl ha1 rfl (dt rfl) rfl Fa (dt rfl) ?_;intro FQ FI FR E2 Fb;obtain ⟨Fw,rfl⟩:=av E2;refine qe Fw (ac rfl ((ak S.below Fb) 0 _ rfl)) (qe (i_ (EZ.length:Int)) (aq rfl E2) (qe (.pointer (some ⟨EK,0 + 0,none⟩)) (ae EI) (qe (i_ a0) (ac rfl ((S.boxAt 0 rfl) 0 _ rfl)) (qe (.bool ((EZ.length:Int) != a0)) (cK rfl rfl) (qm (.bool ((EZ.length:Int) != a0)) ?_)))));rcases oif F with ⟨U,F⟩|⟨U,F⟩
   ·refine qo U (qo U (qo U (qo U (qo U (qo U (qo U (qe (.bool true) (aw rfl U rfl) (qm (.bool true) (qo rfl (qo rfl (qo rfl ?_)))))))))));refine bL rfl (dt rfl) ?_;refine bL rfl (dt rfl) ?_;refine bL rfl (dt rfl) ?_;refine bL rfl (dt rfl) ?_;refine bL rfl (dt rfl) ?_;refine bL rfl (dt rfl) ?_;refine bL rfl (dt rfl) ?_;refine bL rfl (dt rfl) ?_;refine bL rfl (dt rfl) ?_;refine bL rfl (dt rfl) ?_;refine bL rfl (dt rfl) ?_;refine bL rfl (dt rfl) ?_;refine bL rfl (dt rfl) ?_;refine qo rfl (qe (.bool true) (aw rfl rfl rfl) (aZ ?_));intro FS Fc;replace S:=S.ext Fc;refine tn EU (ct rfl ?_);refine sg fun _ Fx=>?_;replace S:=S.r0;refine ah (pa (.bool false) (en Fx (aj (br EP (tr EO (tr EM (br ES (tr ER ?_))))))));replace F:=exL F EN;refine aH rfl rfl ?_;exact rB F S
   refine qi U (qe (.pointer (some ⟨EK,0 + 1,none⟩)) (ae EI) (qi U (qe u1 (ac rfl ((S.boxAt 0 rfl) 1 _ rfl)) (qi U (qM (i_ EH) EJ (qi U ?_))))));obtain ⟨FT,Fd,F⟩:=ob F;refine aU (wA:=w0) rfl ha1 rfl (dt rfl) rfl Fd (dt rfl) ?_;intro FU FJ FV E3 Fe;obtain ⟨Fy,rfl⟩:=av E3;refine qi U (qe Fy (ac rfl ((ak S.below Fe) 0 _ rfl)) (qi U ?_));obtain ⟨EV,Ff,F⟩:=ob F;refine cc (.bool EV) xm (fun w' hw'=>jo (bv (S.up E3) hw') Ff) (ca (ai rfl rfl)) (dt rfl) ?_;refine qi U (qe (.bool (!EV)) (bc rfl) (qe (.bool (!EV)) (ax rfl U rfl) (qm (.bool (!EV)) ?_)));rcases oif F with ⟨Y,F⟩|⟨Y,F⟩
   ·refine qi (am Y) (qM (i_ EH) EJ (qi (am Y) (qe (.bool (decide (0 < EH))) (bA rfl rfl) (qi (am Y) (qm (.bool (decide (0 < EH))) ?_)))));rcases oif F with ⟨J,F⟩|⟨J,F⟩
    ·refine qi J (qe (.pointer (some ⟨EK,0 + 1,none⟩)) (ae EI) (qi J (qe u1 (ac rfl ((S.boxAt 0 rfl) 1 _ rfl)) (qi J (qM (i_ EH) EJ (qi J ?_))))));obtain ⟨Fz,Fg,F⟩:=ob F;refine qe (i_ Fz) (cg rfl rfl Fg) (qi J ?_);obtain ⟨FW,Fh,F⟩:=ob F;refine aU (wA:=w0) rfl ha1 rfl (dt rfl) rfl Fh (dt rfl) ?_;intro FX FK FY E4 Fi;obtain ⟨FA,rfl⟩:=av E4;refine qi J (qe FA (ac rfl ((ak S.below Fi) 0 _ rfl)) (qi J (qe (.pointer (some ⟨EK,0 + 1,none⟩)) (ae EI) (qi J (qe u1 (ac rfl ((S.boxAt 0 rfl) 1 _ rfl)) (qi J (qM (i_ EH) EJ (qi J ?_))))))));obtain ⟨FZ,Fj,F⟩:=ob F;refine aU (wA:=w0) rfl ha1 rfl (dt rfl) rfl Fj (dt rfl) ?_;intro F0 FL F3 E5 Fk;obtain ⟨FB,rfl⟩:=av E5;refine qi J (qe FB (ac rfl ((ak S.below Fk) 0 _ rfl)) (qi J ?_));obtain ⟨EW,Fl,F⟩:=ob F;refine cc (i_ EW) f6 (fun w' hw'=>bE (bv (S.up E4) hw') (bv (S.up E5) hw') Fl) (ca (ai rfl (ai rfl rfl))) (dt rfl) ?_;refine qi J (qe (.bool (decide (0 ≤ EW))) (eD rfl rfl) (qi (am Y) (qe (.bool (decide (0 ≤ EW))) (aw rfl J rfl) (qe (.bool (decide (0 ≤ EW))) (ax rfl (am Y) rfl) (aZ ?_)))));intro F4 Fm;replace S:=S.ext Fm;refine tn EU ?_;rcases oif F with ⟨EX,F⟩|⟨EX,F⟩
     ·refine ct EX ?_;refine sg fun _ FC=>?_;replace S:=S.r0;refine ah (pa (.bool false) (en FC (aj (br EP (tr EO (tr EM (br ES (tr ER ?_))))))));replace F:=exL F EN;refine aH rfl rfl ?_;exact rB F S
     refine cf EX (aV (bn EP (tn EO (ah (pM (i_ EH) EJ ?_)))));obtain ⟨E0,Fn,F⟩:=ob F;refine pe (i_ E0) (aD rfl rfl Fn) (pa (i_ E0) (en EM ?_));replace S:=S.keep 1;exact ⟨E0,EI,rfl,S,F⟩
    refine qo J (qo J (qo J (qo J (qo J (qo J (qo J (qo J (qo J (qo J (qo J (qo J (qo J (qi (am Y) (qe (.bool false) (ax rfl J rfl) (qe (.bool false) (ax rfl (am Y) rfl) (aZ ?_))))))))))))))));intro F5 Fo;replace S:=S.ext Fo;refine tn EU (cf rfl (aV (bn EP (tn EO (ah (pM (i_ EH) EJ ?_))))));obtain ⟨E1,Fp,F⟩:=ob F;refine pe (i_ E1) (aD rfl rfl Fp) (pa (i_ E1) (en EM ?_));replace S:=S.keep 1;exact ⟨E1,EI,rfl,S,F⟩
   refine qo (an Y) (qo (an Y) (qo (an Y) ?_));refine bL rfl (dt rfl) ?_;refine bL rfl (dt rfl) ?_;refine bL rfl (dt rfl) ?_;refine bL rfl (dt rfl) ?_;refine bL rfl (dt rfl) ?_;refine bL rfl (dt rfl) ?_;refine bL rfl (dt rfl) ?_;refine bL rfl (dt rfl) ?_;refine bL rfl (dt rfl) ?_;refine bL rfl (dt rfl) ?_;refine bL rfl (dt rfl) ?_;refine bL rfl (dt rfl) ?_;refine bL rfl (dt rfl) ?_;refine qo (an Y) (qe (.bool true) (aw rfl (an Y) rfl) (aZ ?_));intro F6 Fq;replace S:=S.ext Fq;refine tn EU (ct rfl ?_);refine sg fun _ FD=>?_;replace S:=S.r0;refine ah (pa (.bool false) (en FD (aj (br EP (tr EO (tr EM (br ES (tr ER ?_))))))));replace F:=exL F EN;refine aH rfl rfl ?_;exact rB F S
  refine cf ET (aG (tx E8 (tx EM ?_)));replace F:=exA F EN;refine bS ES (tn ER ?_);refine sg fun _ FE=>?_;replace S:=S.r0;refine ah (pa (.bool true) (en FE (aj (aH rfl rfl ?_))));exact rB F S
 refine eo (an Z) (eo (an Z) (eo (an Z) (eo (an Z) (pe (.bool true) (aw rfl (an Z) rfl) (en E6 (ct rfl ?_))))));refine sg fun _ FF=>?_;replace S:=S.r0;refine ah (pa (.bool false) (en FF (aj (tr EY (aH rfl rfl ?_)))));exact rB F S

end Go.Proofs.YtnipkopfefkojaaGreat
