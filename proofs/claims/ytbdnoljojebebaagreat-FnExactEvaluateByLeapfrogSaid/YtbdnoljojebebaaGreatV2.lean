/- Plain laws: LeapfrogIntersect: what the program and the reference come to. -/
import Derived.Test.YtbdnoljojebebaaGreatV1
namespace Go.Proofs.YtbdnoljojebebaaGreat
open Go.RowKit

def headV (l:List Int):Int:=l.getD 0 0
def posK (hs:List Int) (h:Int):Nat→Nat
 | 0=>0
 | k+1=>if h<hs.getD k 0 then posK hs h k else k+1
theorem posK_le (hs:List Int) (h:Int):∀ k,posK hs h k≤k
 | 0=>Nat.le_refl _
 | k+1=>by
  unfold posK;split
  ·have:=posK_le hs h k;omega
  ·exact Nat.le_refl _
theorem posK_hi (hs:List Int) (h:Int):∀ k j,posK hs h k≤j→j<k→h<hs.getD j 0
 | 0,j,_,h2=>absurd h2 (by omega)
 | k+1,j,h1,h2=>by
  unfold posK at h1
  split at h1
  ·rename_i hh
   by_cases e:j=k
   ·rw [e];exact hh
   ·exact posK_hi hs h k j h1 (by omega)
  ·omega
theorem posK_lo (hs:List Int) (h:Int):∀ k,posK hs h k=0∨hs.getD (posK hs h k-1) 0≤h
 | 0=>.inl rfl
 | k+1=>by
  unfold posK;split
  ·exact posK_lo hs h k
  ·rename_i hh;exact .inr (by rw [Nat.add_sub_cancel];omega)
def hdI (ls:RowL) (j:Int):Int:=headV (ls.getD j.toNat [])
def posO (ls:RowL) (O:List Int) (i:Nat):Nat:=posK (O.map (hdI ls)) (hdI ls (i:Int)) O.length
def insO (ls:RowL) (O:List Int) (i:Nat):List Int:=O.take (posO ls O i)++[(i:Int)]++O.drop (posO ls O i)
def ordT (ls:RowL) (i:Nat):List Int:=(List.range' 0 i).foldl (insO ls) []
def lsO (ls:RowL) (O:List Int):RowL:=O.map fun j=>ls.getD j.toNat []
theorem ordT_succ (ls:RowL) (i:Nat):ordT ls (i+1)=insO ls (ordT ls i) i:=by unfold ordT;rw [List.range'_concat,List.foldl_append];simp
theorem posO_le (ls:RowL) (O:List Int) (i:Nat):posO ls O i≤O.length:=posK_le _ _ _
theorem insO_perm (ls:RowL) (O:List Int) (i:Nat):(insO ls O i).Perm ((i:Int) :: O):=by
 unfold insO
 rw [List.append_assoc,List.singleton_append]
 have h:=List.perm_middle (a:=(i:Int)) (l₁:=O.take (posO ls O i)) (l₂:=O.drop (posO ls O i))
 rwa [List.take_append_drop] at h
theorem insO_len (ls:RowL) (O:List Int) (i:Nat):(insO ls O i).length=O.length+1:=by rw [(insO_perm ls O i).length_eq,List.length_cons]
def leI (a b:Int):Prop:=a≤b
theorem insO_sorted {ls:RowL} {O:List Int} {i:Nat} (h:(O.map (hdI ls)).Pairwise leI):((insO ls O i).map (hdI ls)).Pairwise leI:=by
 have hk:=posO_le ls O i
 have hat:∀ j (hj:j<O.length),hdI ls O[j]=(O.map (hdI ls)).getD j 0:=fun j hj=>by rw [getD_at (by rw [List.length_map];exact hj),List.getElem_map]
 unfold insO
 rw [List.map_append,List.map_append,List.append_assoc]
 have h1:(O.map (hdI ls))=(O.take (posO ls O i)).map (hdI ls)++(O.drop (posO ls O i)).map (hdI ls):=by rw [← List.map_append,List.take_append_drop]
 rw [h1] at h
 obtain ⟨p1,p2,p3⟩:=List.pairwise_append.1 h
 refine List.pairwise_append.2 ⟨p1,?_,?_⟩
 ·rw [List.map_cons,List.map_nil,List.singleton_append]
  refine List.pairwise_cons.2 ⟨fun y hy=>?_,p2⟩
  obtain ⟨x,hx,rfl⟩:=List.mem_map.1 hy
  obtain ⟨j,hj,rfl⟩:=List.getElem_of_mem hx
  rw [List.length_drop] at hj
  rw [List.getElem_drop]
  have:=posK_hi (O.map (hdI ls)) (hdI ls (i:Int)) O.length (posO ls O i+j) (by unfold posO;omega) (by omega)
  rw [← hat _ (by omega)] at this
  exact Int.le_of_lt this
 ·intro x hx y hy
  have hx':leI x (hdI ls (i:Int)):=by
   obtain ⟨z,hz,rfl⟩:=List.mem_map.1 hx
   obtain ⟨j,hj,rfl⟩:=List.getElem_of_mem hz
   rw [List.length_take] at hj
   rw [List.getElem_take]
   have hj1:j<posO ls O i:=by omega
   rcases posK_lo (O.map (hdI ls)) (hdI ls (i:Int)) O.length with h0 | h0
   ·have:posO ls O i=0:=h0
    omega
   ·have h0':(O.map (hdI ls)).getD (posO ls O i-1) 0≤hdI ls (i:Int):=h0
    by_cases e:j=posO ls O i-1
    ·unfold leI;rw [hat j (by omega),e];exact h0'
    ·have hp:=List.pairwise_iff_getElem.1 p1 j (posO ls O i-1) (by rw [List.length_map,List.length_take];omega) (by rw [List.length_map,List.length_take];omega) (by omega)
     rw [List.getElem_map,List.getElem_map,List.getElem_take,List.getElem_take] at hp
     unfold leI at hp ⊢
     rw [hat (posO ls O i-1) (by omega)] at hp
     omega
  rw [List.map_cons,List.map_nil,List.singleton_append] at hy
  rcases List.mem_cons.1 hy with rfl | hy
  ·exact hx'
  ·exact p3 x hx y hy
structure OrdOk (ls:RowL) (O:List Int) (i:Nat):Prop where
 len:O.length=i
 nd:O.Nodup
 bd:∀ j∈O,0≤j∧j<i
 so:(O.map (hdI ls)).Pairwise leI
theorem ordT_ok (ls:RowL):∀ i,OrdOk ls (ordT ls i) i
 | 0=>⟨rfl,List.nodup_nil,fun j h=>absurd h (List.not_mem_nil),List.Pairwise.nil⟩
 | i+1=>by
  have h:=ordT_ok ls i
  rw [ordT_succ]
  have hp:=insO_perm ls (ordT ls i) i
  refine ⟨by rw [insO_len,h.len],hp.nodup_iff.2 (List.nodup_cons.2 ⟨fun hm=>by have:=h.bd _ hm;omega,h.nd⟩),fun j hj=>?_,insO_sorted h.so⟩
  rcases List.mem_cons.1 (hp.mem_iff.1 hj) with rfl | hj
  ·omega
  ·have:=h.bd j hj;omega
def shS (ls:RowL) (i:Nat) (s:Int):Int:=bif Nat.beq i 0||decide (((ls.getD i []).length:Int)<s) then ((ls.getD i []).length:Int) else s
def shT (ls:RowL) (i:Nat):Int:=(List.range' 0 i).foldl (fun s i=>shS ls i s) 0
theorem shT_succ (ls:RowL) (i:Nat):shT ls (i+1)=shS ls i (shT ls i):=by unfold shT;rw [List.range'_concat,List.foldl_append];simp
theorem shT_le (ls:RowL):∀ i,0≤shT ls i∧∀ j,j<i→shT ls i≤((ls.getD j []).length:Int)
 | 0=>⟨Int.le_refl _,fun j h=>absurd h (by omega)⟩
 | i+1=>by
  obtain ⟨h1,h2⟩:=shT_le ls i
  rw [shT_succ]
  unfold shS
  cases i with
  | zero=>exact ⟨by rw [show (Nat.beq 0 0)=true from rfl,Bool.true_or,cond_true];omega,fun j hj=>by rw [show (Nat.beq 0 0)=true from rfl,Bool.true_or,cond_true,show j=0 by omega];exact Int.le_refl _⟩
  | succ i =>
   rw [show Nat.beq (i+1) 0=false from rfl,Bool.false_or]
   by_cases h:((ls.getD (i+1) []).length:Int)<shT ls (i+1)
   ·rw [decide_eq_true h,cond_true]
    refine ⟨by omega,fun j hj=>?_⟩
    by_cases e:j=i+1
    ·rw [e];exact Int.le_refl _
    ·have:=h2 j (by omega);omega
   ·rw [decide_eq_false h,cond_false]
    refine ⟨h1,fun j hj=>?_⟩
    by_cases e:j=i+1
    ·rw [e];omega
    ·exact h2 j (by omega)
def zerosN (n:Nat):List Nat:=List.replicate n 0
def leapR (ls:RowL):List Int × Nat:=leapGo (lsO ls (ordT ls ls.length)) (remN (lsO ls (ordT ls ls.length)) (zerosN ls.length)+1) (zerosN ls.length) (headV ((lsO ls (ordT ls ls.length)).getD (ls.length-1) [])) [] 0
def leapV (ls:RowL):List Int × Int:=bif allAsc ls&&!(shT ls ls.length == 0) then ((leapR ls).1,((leapR ls).2:Int)) else ([],0)
theorem asc_ascI:∀ {xs:List Int},asc xs=true→ascI xs
 | [],_=>List.Pairwise.nil
 | [_],_=>List.pairwise_singleton _ _
 | x :: y :: t,h=>by
  unfold asc at h
  rw [Bool.and_eq_true,decide_eq_true_eq] at h
  have ih:=asc_ascI h.2
  refine List.pairwise_cons.2 ⟨fun z hz=>?_,ih⟩
  rcases List.mem_cons.1 hz with rfl | hz
  ·exact h.1
  ·have:=(List.pairwise_cons.1 ih).1 z hz;omega
theorem lsO_len (ls:RowL):(lsO ls (ordT ls ls.length)).length=ls.length:=by unfold lsO;rw [List.length_map,(ordT_ok ls ls.length).len]
theorem lsO_mem {ls:RowL} {l:List Int}:l∈lsO ls (ordT ls ls.length)↔l∈ls:=by
 have h:=ordT_ok ls ls.length
 unfold lsO
 rw [List.mem_map]
 constructor
 ·rintro ⟨j,hj,rfl⟩
  have:=h.bd j hj
  exact getL_mem (by omega)
 ·intro hl
  obtain ⟨i,hi,rfl⟩:=List.getElem_of_mem hl
  refine ⟨(i:Int),nodup_full h.nd h.len h.bd (i:Int) (by omega) (by omega),?_⟩
  rw [show ((i:Nat):Int).toNat=i from rfl,getL_at hi]
theorem lsO_at {ls:RowL} {O:List Int} {i:Nat} (h:i<O.length):(lsO ls O).getD i []=ls.getD O[i].toNat []:=by unfold lsO;simp [h]
theorem zeros_at (n k:Nat):(zerosN n).getD k 0=0:=by
 unfold zerosN
 by_cases h:k<n <;> simp [h]
theorem leap_begin {ls:RowL} (h:(allAsc ls&&!(shT ls ls.length == 0))=true) :
  LInv (lsO ls (ordT ls ls.length)) (zerosN ls.length) (headV ((lsO ls (ordT ls ls.length)).getD (ls.length-1) [])) [] 0∧∀ l∈ls,0<l.length:=by
 rw [Bool.and_eq_true,Bool.not_eq_true',beq_eq_false_iff_ne] at h
 obtain ⟨h1,h2⟩:=h
 unfold allAsc at h1
 rw [Bool.and_eq_true,List.all_eq_true,decide_eq_true_eq] at h1
 obtain ⟨h3,h4⟩:=shT_le ls ls.length
 have hne:∀ l∈ls,0<l.length:=fun l hl=>by
  obtain ⟨i,hi,rfl⟩:=List.getElem_of_mem hl
  have:=h4 i hi
  rw [getL_at hi] at this;omega
 have ho:=ordT_ok ls ls.length
 have hlen:=lsO_len ls
 have hkey:∀ k,keyK (lsO ls (ordT ls ls.length)) (zerosN ls.length) k=headV ((lsO ls (ordT ls ls.length)).getD k []):=fun k=>by unfold keyK headV;rw [zeros_at]
 refine ⟨⟨by omega,by rw [hlen];simp [zerosN],fun l hl=>asc_ascI (h1.1 l (lsO_mem.1 hl)),fun k hk=>?_,fun i j hij hj=>?_,?_,List.Pairwise.nil,by simp,by simp,fun x hx=>.inr fun k hk=>?_⟩,hne⟩
 ·rw [zeros_at];exact hne _ (lsO_mem.1 (getL_mem hk))
 ·rw [Nat.zero_add,Nat.zero_add,Nat.mod_eq_of_lt hj,Nat.mod_eq_of_lt (by omega),hkey,hkey]
  by_cases e:i=j
  ·rw [e];exact Int.le_refl _
  ·have hs:=List.pairwise_iff_getElem.1 ho.so i j (by rw [List.length_map,ho.len];omega) (by rw [List.length_map,ho.len];omega) (by omega)
   rw [List.getElem_map,List.getElem_map] at hs
   rw [lsO_at (by rw [ho.len];omega),lsO_at (by rw [ho.len];omega)]
   exact hs
 ·rw [Nat.zero_add,Nat.mod_eq_of_lt (by omega),hkey,hlen]
 ·rw [hkey]
  have hl:=lsO_mem.1 (getL_mem hk)
  obtain ⟨j,hj,e⟩:=mem_at (hx _ (getL_mem hk))
  have hp:=hne _ hl
  unfold headV
  rw [getD_at hp,← e]
  rcases Nat.eq_zero_or_pos j with h0 | h0
  ·subst h0;exact Int.le_refl _
  ·exact Int.le_of_lt (ascI_at (asc_ascI (h1.1 _ hl)) h0 hj)
theorem remN_zero:∀ (Ls:RowL) (B n:Nat),(∀ l∈Ls,l.length≤B)→remN Ls (zerosN n)≤Ls.length*B
 | [],B,n,_=>by simp [remN]
 | l :: Ls,B,0,_=>by simp [remN,zerosN]
 | l :: Ls,B,n+1,h=>by
  have ih:=remN_zero Ls B n fun x hx=>h x (List.mem_cons_of_mem _ hx)
  have hl:=h l List.mem_cons_self
  unfold remN zerosN at ih ⊢
  rw [List.replicate_succ,List.zipWith_cons_cons,List.sum_cons,List.length_cons,Nat.succ_mul]
  omega
theorem leapV_spec {ls:RowL} {B:Nat} (h:∀ l∈ls,l.length≤B):ascI (leapV ls).1∧(∀ x∈(leapV ls).1,∀ l∈ls,x∈l)∧0≤(leapV ls).2∧(leapV ls).2≤(ls.length*B+1:Nat)∧(allAsc ls=true→∀ x,(∀ l∈ls,x∈l)→x∈(leapV ls).1):=by
 unfold leapV
 cases hc:allAsc ls&&!(shT ls ls.length == 0) with
 | false =>
  refine ⟨List.Pairwise.nil,by simp,Int.le_refl _,by rw [cond_false];omega,fun ha x hx=>?_⟩
  rw [ha,Bool.true_and,Bool.not_eq_false',beq_iff_eq] at hc
  exfalso
  -- some list is empty
  have hex:∀ i,i≤ls.length→0<i→shT ls i=0→∃ j,j<i∧(ls.getD j []).length=0:=by
   intro i
   induction i with
   | zero=>intro _ h;omega
   | succ i ih =>
    intro hi _ hz
    rw [shT_succ] at hz
    unfold shS at hz
    cases i with
    | zero =>
     rw [show (Nat.beq 0 0)=true from rfl,Bool.true_or,cond_true] at hz
     exact ⟨0,by omega,by omega⟩
    | succ i =>
     rw [show Nat.beq (i+1) 0=false from rfl,Bool.false_or] at hz
     by_cases hlt:((ls.getD (i+1) []).length:Int)<shT ls (i+1)
     ·rw [decide_eq_true hlt,cond_true] at hz
      exact ⟨i+1,by omega,by omega⟩
     ·rw [decide_eq_false hlt,cond_false] at hz
      obtain ⟨j,hj,e⟩:=ih (by omega) (by omega) hz
      exact ⟨j,by omega,e⟩
  unfold allAsc at ha
  rw [Bool.and_eq_true,decide_eq_true_eq] at ha
  obtain ⟨j,hj,e⟩:=hex ls.length (Nat.le_refl _) ha.2 hc
  have hm:=hx _ (getL_mem hj)
  rw [List.length_eq_zero_iff.1 e] at hm
  simp at hm
 | true =>
  rw [cond_true]
  obtain ⟨I,_⟩:=leap_begin hc
  obtain ⟨g1,g2,g3⟩:=leapGo_spec (remN (lsO ls (ordT ls ls.length)) (zerosN ls.length)+1) _ _ _ _ I (by omega)
  have hr:=remN_zero (lsO ls (ordT ls ls.length)) B ls.length fun l hl=>h l (lsO_mem.1 hl)
  rw [lsO_len] at hr
  refine ⟨g1,fun x hx l hl=>(g2 x).1 hx l (lsO_mem.2 hl),Int.natCast_nonneg _,?_,fun _ x hx=>(g2 x).2 fun l hl=>hx l (lsO_mem.1 hl)⟩
  have g4:(leapR ls).2≤ls.length*B+1:=by
   have:(leapR ls).2≤0+(remN (lsO ls (ordT ls ls.length)) (zerosN ls.length)+1):=g3
   omega
  exact Int.ofNat_le.2 g4
end Go.Proofs.YtbdnoljojebebaaGreat
namespace Go.Proofs.YtbdnoljojebebaaGreat
open Go.RowKit

theorem ixR {ls:RowL} {k:Nat} (h:k<ls.length):ix ls (k:Int)=some (ls.getD k []):=by rw [ix_nat h,getL_at h]
theorem ixD {xs:List Int} {k:Nat} (h:k<xs.length):ix xs (k:Int)=some (xs.getD k 0):=by rw [ix_nat h,getD_at h]
theorem ixH {xs:List Int} (h:0<xs.length):ix xs 0=some (headV xs):=ixD h
def cz (A:List Nat):List Int:=A.map fun (a:Nat)=>((a:Nat):Int)
theorem cz_ix {A:List Nat} {k:Nat} (h:k<A.length):ix (cz A) (k:Int)=some ((A.getD k 0:Nat):Int):=by
 unfold cz
 rw [ix_nat (by rw [List.length_map];exact h),List.getElem_map]
 simp [h]
theorem cz_sto {A:List Nat} {k a:Nat} (h:k<A.length):sto (cz A) (k:Int) (a:Int)=some (cz (A.set k a)):=by
 unfold cz
 rw [sto_nat (by rw [List.length_map];exact h),List.map_set]
theorem rm_nat {a b:Nat} (h:0<b):rm (a:Int) (b:Int)=some ((a % b:Nat):Int):=by
 rw [rm_ok (by omega),← Int.ofNat_tmod]
theorem hd_map (ls:RowL) (O:List Int):(lsO ls O).map headV=O.map (hdI ls):=by unfold lsO;rw [List.map_map];rfl
theorem lsO_ins (ls:RowL) (O:List Int) (i:Nat):lsO ls (insO ls O i)=(lsO ls O).take (posO ls O i)++[ls.getD i []]++(lsO ls O).drop (posO ls O i):=by
 unfold lsO insO
 rw [List.map_append,List.map_append,List.map_take,List.map_drop];rfl
section
variable {N:Nat}
theorem ordI_L2 {order ls:RowL} {l:List Int} {b c:Int} (hne:∀ x∈order,0<x.length) (hl:0<l.length) (hlen:order.length≤1000):∀ k f,k≤order.length→k<f →
  impl_LeapfrogIntersect_L2 N f order l (k:Int) ls b c=some ((posK (order.map headV) (headV l) k:Nat):Int):=by
 intro k
 induction k with
 | zero =>
  intro f _ hf
  obtain ⟨f,rfl⟩:∃ g,f=g+1:=⟨f-1,by omega⟩
  rw [impl_LeapfrogIntersect_L2,decide_eq_false (by omega),cond_false];rfl
 | succ k ih =>
  intro f hk hf
  obtain ⟨f,rfl⟩:∃ g,f=g+1:=⟨f-1,by omega⟩
  have hk':k<order.length:=by omega
  rw [impl_LeapfrogIntersect_L2,decide_eq_true (by omega),cond_true,sb_ok (by omega) (by omega),bs,show (((k+1:Nat):Int)-1)=(k:Int) by omega,ix_nat hk',bs,ixH (hne _ (List.getElem_mem hk')),bs,ixH hl,bs,bs,posK]
  have e:(order.map headV).getD k 0=headV order[k]:=by simp [hk']
  rw [e]
  by_cases h:headV l<headV order[k]
  ·rw [decide_eq_true h,cond_true,if_pos h,ih f (by omega) (by omega)]
  ·rw [decide_eq_false h,cond_false,if_neg h]
theorem ordI_L1 (hN:1073741824≤N) {ls:RowL} (hne:∀ x∈ls,0<x.length) (hlen:ls.length≤1000):impl_LeapfrogIntersect_L1 N N [] ls (ls.length:Int) 0=some (lsO ls (ordT ls ls.length),(ls.length:Int)) :=
 loopI (fun k (o:RowL) i=>impl_LeapfrogIntersect_L1 N k o ls (ls.length:Int) i) ls.length (fun i=>lsO ls (ordT ls i)) (lsO ls (ordT ls ls.length),(ls.length:Int))
  (fun k i h=>by
   have ho:=ordT_ok ls i
   have hol:(lsO ls (ordT ls i)).length=i:=by unfold lsO;rw [List.length_map,ho.len]
   have hp:=posO_le ls (ordT ls i) i
   rw [ho.len] at hp
   have hne':∀ x∈lsO ls (ordT ls i),0<x.length:=fun x hx=>by
    obtain ⟨j,hj,rfl⟩:=List.mem_map.1 hx
    have:=ho.bd j hj
    exact hne _ (getL_mem (by omega))
   have e:posK ((lsO ls (ordT ls i)).map headV) (headV ls[i]) (lsO ls (ordT ls i)).length=posO ls (ordT ls i) i:=by
    unfold posO hdI
    rw [hd_map,hol,ho.len,show ((i:Nat):Int).toNat=i from rfl,getL_at h];rfl
   show impl_LeapfrogIntersect_L1 N (k+1) (lsO ls (ordT ls i)) ls (ls.length:Int) (i:Int)=impl_LeapfrogIntersect_L1 N k (lsO ls (ordT ls (i+1))) ls (ls.length:Int) ((i+1:Nat):Int)
   rw [impl_LeapfrogIntersect_L1,dlt h,cond_true,ix_nat h,bs,ordI_L2 hne' (hne _ (List.getElem_mem h)) (by omega) _ N (Nat.le_refl _) (by omega),bs,lpB,e,slc0 (by omega),bs,slc_ok (by omega) (Nat.le_refl _),bs,List.take_length,apd_ok' (by decide) (by simp;omega),bs,apd_ok' (by decide) (by simp;omega),bs,apd_ok' (by decide) (by simp;omega),bs,ad1 (by omega),bs,ordT_succ,lsO_ins,getL_at h]
   rfl)
  (fun k=>by
   show impl_LeapfrogIntersect_L1 N (k+1) (lsO ls (ordT ls ls.length)) ls (ls.length:Int) (ls.length:Int)=_
   rw [impl_LeapfrogIntersect_L1,dge (by omega),cond_false]) N 0 (by omega) (by omega)
theorem ordS_L2 {ls:RowL} {O:List Int} {i:Nat} (hi:i<ls.length) (hO:∀ j∈O,0≤j∧j<ls.length) (hne:∀ x∈ls,0<x.length) (hlen:O.length≤1000):∀ k f,k≤O.length→k<f →
  spec_l18Order_L2 N f ls O (i:Int) (k:Int)=some ((posK (O.map (hdI ls)) (hdI ls (i:Int)) k:Nat):Int):=by
 intro k
 induction k with
 | zero =>
  intro f _ hf
  obtain ⟨f,rfl⟩:∃ g,f=g+1:=⟨f-1,by omega⟩
  rw [spec_l18Order_L2,decide_eq_false (by omega),cond_false];rfl
 | succ k ih =>
  intro f hk hf
  obtain ⟨f,rfl⟩:∃ g,f=g+1:=⟨f-1,by omega⟩
  have hk':k<O.length:=by omega
  have hj:=hO _ (List.getElem_mem hk')
  have hji:O[k].toNat<ls.length:=by omega
  rw [spec_l18Order_L2,decide_eq_true (by omega),cond_true,sb_ok (by omega) (by omega),bs,show (((k+1:Nat):Int)-1)=(k:Int) by omega,ix_nat hk',bs,ixL hj,bs,ixH (hne _ (getL_mem hji)),bs,ixR hi,bs,ixH (hne _ (getL_mem hi)),bs,bs,posK]
  have e:(O.map (hdI ls)).getD k 0=headV (ls.getD O[k].toNat []):=by simp [hk',hdI]
  rw [e]
  show (bif decide (headV (ls.getD i [])<headV (ls.getD O[k].toNat [])) then _ else _)=some (((if headV (ls.getD i [])<headV (ls.getD O[k].toNat []) then _ else _:Nat)):Int)
  by_cases h:headV (ls.getD i [])<headV (ls.getD O[k].toNat [])
  ·rw [decide_eq_true h,cond_true,if_pos h,ih f (by omega) (by omega)]
  ·rw [decide_eq_false h,cond_false,if_neg h]
theorem l18Order_eq (hN:1073741824≤N) {ls:RowL} (hne:∀ x∈ls,0<x.length) (hlen:ls.length≤1000):spec_l18Order N ls=some (ordT ls ls.length):=by
 have h:=loopI (fun k (o:List Int) i=>spec_l18Order_L1 N k ls o i) ls.length (fun i=>ordT ls i) (ordT ls ls.length,(ls.length:Int))
  (fun k i h=>by
   have ho:=ordT_ok ls i
   have hp:=posO_le ls (ordT ls i) i
   rw [ho.len] at hp
   have hlo:=ho.len
   show spec_l18Order_L1 N (k+1) ls (ordT ls i) (i:Int)=spec_l18Order_L1 N k ls (ordT ls (i+1)) ((i+1:Nat):Int)
   rw [spec_l18Order_L1,dlt h,cond_true,ordS_L2 h (fun j hj=>by have:=ho.bd j hj;omega) hne (by omega) _ N (Nat.le_refl _) (by omega),bs,lpB]
   show (slc (ordT ls i) 0 ((posO ls (ordT ls i) i:Nat):Int)).bind _=_
   rw [slc0 (by omega),bs]
   show (slc (ordT ls i) ((posO ls (ordT ls i) i:Nat):Int) _).bind _=_
   rw [slc_ok (by omega) (Nat.le_refl _),bs,List.take_length,apd_ok' (by decide) (by simp;omega),bs,apd_ok' (by decide) (by simp;omega),bs,apd_ok' (by decide) (by simp;omega),bs,ad1 (by omega),bs,ordT_succ]
   rfl)
  (fun k=>by
   show spec_l18Order_L1 N (k+1) ls (ordT ls ls.length) (ls.length:Int)=_
   rw [spec_l18Order_L1,dge (by omega),cond_false]) N 0 (by omega) (by omega)
 have h':spec_l18Order_L1 N N ls [] 0=_:=h
 unfold spec_l18Order
 rw [h',bs,lpB]
theorem SeekIndex_impl_eq (hN:1073741824≤N) {l:List Int} {a:Nat} {v:Int} (ha:a≤l.length) (hl:l.length≤1048576):impl_SeekIndex N l (a:Int) v=some ((seekN l a v:Nat):Int):=by
 have key:∀ k i,i≤l.length→l.length-i<k→impl_SeekIndex_L1 N k l v (i:Int)=some (if seekN l i v<l.length then .inl ((seekN l i v:Nat):Int) else .inr (l.length:Int)):=by
  intro k
  induction k with
  | zero=>intro i _ h;omega
  | succ k ih =>
   intro i h1 h2
   rw [impl_SeekIndex_L1]
   by_cases h:i<l.length
   ·rw [dlt h,cond_true,ix_nat h,bs]
    have e:seekN l i v=if l[i]<v then seekN l (i+1) v else i:=by
     unfold seekN
     rw [drop_cons h,List.takeWhile_cons]
     by_cases hv:l[i]<v
     ·rw [if_pos (by simpa using hv),if_pos hv,List.length_cons];omega
     ·rw [if_neg (by simpa using hv),if_neg hv];rfl
    by_cases hv:v≤l[i]
    ·have e2:seekN l i v=i:=by rw [e,if_neg (by omega)]
     rw [decide_eq_true hv,cond_true,e2,if_pos h]
    ·have e2:seekN l i v=seekN l (i+1) v:=by rw [e,if_pos (by omega)]
     rw [decide_eq_false hv,cond_false,ad1 (by omega),bs,ih (i+1) (by omega) (by omega),e2]
   ·rw [dge h,cond_false]
    have hi:i=l.length:=by omega
    have e:seekN l i v=l.length:=by unfold seekN;rw [List.drop_of_length_le (by omega),hi];rfl
    rw [e,if_neg (by omega),hi]
 unfold impl_SeekIndex
 have hm:imx 0 (a:Int)=(a:Int):=by unfold imx;split <;> omega
 rw [hm,key N a ha (by omega),bs]
 have hle:=seekN_le (v:=v) ha
 by_cases h:seekN l a v<l.length
 ·rw [if_pos h,lpSl]
 ·rw [if_neg h,lpSr,show seekN l a v=l.length by omega]
theorem SeekIndex_spec_eq (hN:1073741824≤N) {l:List Int} {a:Nat} {v:Int} (ha:a≤l.length) (hl:l.length≤1048576):spec_SeekIndex N l (a:Int) v=some ((seekN l a v:Nat):Int):=by
 have h:=whileL (fun k i=>spec_SeekIndex_L1 N k l v i) l (fun x=>decide (x<v))
  (fun k i h=>by
   show spec_SeekIndex_L1 N (k+1) l v (i:Int)=_
   rw [spec_SeekIndex_L1,dlt h,cond_true,ix_nat h,bs,ad1 (by omega),bs])
  (fun k=>by
   show spec_SeekIndex_L1 N (k+1) l v (l.length:Int)=_
   rw [spec_SeekIndex_L1,dge (by omega),cond_false]) N a ha (by omega)
 have hm:imx 0 (a:Int)=(a:Int):=by unfold imx;split <;> omega
 have hle:=seekN_le (v:=v) ha
 have h':spec_SeekIndex_L1 N N l v (a:Int)=some ((seekN l a v:Nat):Int):=h
 unfold spec_SeekIndex
 rw [hm,h',bs,lpB]
 congr 1
 unfold imn imx
 (repeat' split) <;> omega
theorem ShortestLength_impl_eq (hN:1073741824≤N) {ls:RowL} (hl:ls.length≤1048576):impl_ShortestLength N ls=some (shT ls ls.length):=by
 have h:=loopI (fun k (s:Int) i=>impl_ShortestLength_L1 N k s ls (ls.length:Int) i) ls.length (fun i=>shT ls i) (shT ls ls.length,(ls.length:Int))
  (fun k i h=>by
   show impl_ShortestLength_L1 N (k+1) (shT ls i) ls (ls.length:Int) (i:Int)=impl_ShortestLength_L1 N k (shT ls (i+1)) ls (ls.length:Int) ((i+1:Nat):Int)
   rw [impl_ShortestLength_L1,dlt h,cond_true,ix_nat h,bs,ad1 (by omega),bs,bs,shT_succ]
   unfold shS
   rw [getL_at h]
   cases i with
   | zero=>rfl
   | succ i =>
    rw [show (((i+1:Nat):Int) == 0)=false by simp;omega,cond_false,show Nat.beq (i+1) 0=false from rfl,Bool.false_or]
    cases decide ((ls[i+1].length:Int)<shT ls (i+1)) <;> rfl)
  (fun k=>by
   show impl_ShortestLength_L1 N (k+1) (shT ls ls.length) ls (ls.length:Int) (ls.length:Int)=_
   rw [impl_ShortestLength_L1,dge (by omega),cond_false]) N 0 (by omega) (by omega)
 have h':impl_ShortestLength_L1 N N 0 ls (ls.length:Int) 0=_:=h
 unfold impl_ShortestLength
 rw [h',bs,lpB]
theorem ShortestLength_spec_eq (hN:1073741824≤N) {ls:RowL} (hl:ls.length≤1048576):spec_ShortestLength N ls=some (shT ls ls.length):=by
 have h:=loopI (fun k (s:Int) i=>spec_ShortestLength_L1 N k ls s i) ls.length (fun i=>shT ls i) (shT ls ls.length,(ls.length:Int))
  (fun k i h=>by
   show spec_ShortestLength_L1 N (k+1) ls (shT ls i) (i:Int)=spec_ShortestLength_L1 N k ls (shT ls (i+1)) ((i+1:Nat):Int)
   rw [spec_ShortestLength_L1,dlt h,cond_true,ix_nat h,bs,ad1 (by omega),bs,bs,bs,shT_succ]
   unfold shS
   rw [getL_at h]
   cases i with
   | zero=>rfl
   | succ i =>
    rw [show (((i+1:Nat):Int) == 0)=false by simp;omega,cond_false,show Nat.beq (i+1) 0=false from rfl,Bool.false_or]
    cases decide ((ls[i+1].length:Int)<shT ls (i+1)) <;> rfl)
  (fun k=>by
   show spec_ShortestLength_L1 N (k+1) ls (shT ls ls.length) (ls.length:Int)=_
   rw [spec_ShortestLength_L1,dge (by omega),cond_false]) N 0 (by omega) (by omega)
 have h':spec_ShortestLength_L1 N N ls 0 0=_:=h
 unfold spec_ShortestLength
 rw [h',bs,lpB]
end
end Go.Proofs.YtbdnoljojebebaaGreat
namespace Go.Proofs.YtbdnoljojebebaaGreat
open Go.RowKit

theorem lkO_len (Ls:RowL) (A:List Nat) (most:Int) (out:List Int) (s:Nat):(lkO Ls A most out s).length≤out.length+1:=by
 unfold lkO;split
 ·simp
 ·omega
theorem cz_len (A:List Nat):(cz A).length=A.length:=by simp [cz]
theorem beq_nat (a b:Nat):((a:Int) == (b:Int))=decide (a=b):=by
 by_cases h:a=b
 ·rw [decide_eq_true h,h];simp
 ·rw [decide_eq_false h];simp;omega
section
variable {N:Nat}
theorem leapI (hN:1073741824≤N) {Ls:RowL} (hb:∀ l∈Ls,l.length≤1000000):∀ (m:Nat) (A:List Nat) (most:Int) (out:List Int) (s k:Nat),LInv Ls A most out s→remN Ls A<m→m≤k→out.length+m≤1073741824→s+m≤1073741824 →
  impl_LeapfrogIntersect_L3 N k Ls (cz A) most out ((s+1:Nat):Int)=some ((leapGo Ls m A most out s).1,((leapGo Ls m A most out s).2:Int)):=by
 intro m
 induction m with
 | zero=>intro A most out s k _ h;omega
 | succ m ih =>
  intro A most out s k I h hmk h1 h2
  obtain ⟨k,rfl⟩:∃ g,k=g+1:=⟨k-1,by omega⟩
  obtain ⟨hk,ha,hgt,hle,_,hstep⟩:=leap_step I
  have hkA:s % Ls.length<A.length:=by rw [I.len];exact hk
  have ha':lkP Ls A s<(lkL Ls s).length:=ha
  have hle':lkA Ls A most s≤(lkL Ls s).length:=hle
  have hlb:=hb _ (getL_mem hk)
  have hlb':(lkL Ls s).length≤1000000:=hlb
  have hset:s % Ls.length<(A.set (s % Ls.length) (lkA Ls A most s)).length:=by rw [List.length_set];exact hkA
  have hrec:¬ lkA Ls A most s=(lkL Ls s).length→impl_LeapfrogIntersect_L3 N k Ls (cz (A.set (s % Ls.length) (lkA Ls A most s))) ((lkL Ls s).getD (lkA Ls A most s) 0) (lkO Ls A most out s) ((s+1+1:Nat):Int)=some ((leapGo Ls (m+1) A most out s).1,((leapGo Ls (m+1) A most out s).2:Int)):=fun hne=>by
   have hr:=remN_set Ls A (s % Ls.length) (lkA Ls A most s) hk I.len (by
    have h4:lkP Ls A s<lkA Ls A most s:=hgt
    show (lkL Ls s).length-lkA Ls A most s<(lkL Ls s).length-lkP Ls A s
    omega)
   have hol:=lkO_len Ls A most out s
   rw [ih _ _ _ (s+1) k (hstep hne) (by omega) (by omega) (by omega) (by omega),leapGo,if_neg hne]
  have hend:lkA Ls A most s=(lkL Ls s).length→(leapGo Ls (m+1) A most out s)=(lkO Ls A most out s,s+1):=fun he=>by rw [leapGo,if_pos he]
  rw [impl_LeapfrogIntersect_L3,sb_ok (by omega) (by omega),bs,show (((s+1:Nat):Int)-1)=(s:Int) by omega,rm_nat I.pos,bs,ixR hk,bs]
  show ((ix (cz A) ((s % Ls.length:Nat):Int)).bind fun x854=>(ix (lkL Ls s) x854).bind _)=_
  rw [cz_ix hkA,bs]
  show ((ix (lkL Ls s) ((lkP Ls A s:Nat):Int)).bind _)=_
  rw [ixD ha',bs]
  by_cases e:(lkL Ls s).getD (lkP Ls A s) 0=most
  ·have eA:lkA Ls A most s=lkP Ls A s+1:=if_pos e
   have eO:lkO Ls A most out s=out++[most]:=if_pos e
   rw [show ((lkL Ls s).getD (lkP Ls A s) 0 == most)=true by rw [e];simp,cond_true,apd_ok' (by decide) (by simp;omega),bs,bs,ad1 (show A.getD (s % Ls.length) 0<1099511627776 by have:lkP Ls A s=A.getD (s % Ls.length) 0:=rfl;omega),bs,bs]
   show ((sto (cz A) ((s % Ls.length:Nat):Int) ((lkP Ls A s+1:Nat):Int)).bind _)=_
   rw [cz_sto hkA,bs,← eA,← eO,cz_ix hset,bs,setD hkA]
   show (bif (((lkA Ls A most s:Nat):Int) == ((lkL Ls s).length:Int)) then _ else _)=_
   rw [beq_nat]
   by_cases he:lkA Ls A most s=(lkL Ls s).length
   ·rw [decide_eq_true he,cond_true,hend he]
   ·rw [decide_eq_false he,cond_false,bs]
    show ((ix (lkL Ls s) ((lkA Ls A most s:Nat):Int)).bind _)=_
    rw [ixD (show lkA Ls A most s<(lkL Ls s).length by omega),bs,ad1 (by omega),bs]
    exact hrec he
  ·have eA:lkA Ls A most s=seekN (lkL Ls s) (lkP Ls A s) most:=if_neg e
   have eO:lkO Ls A most out s=out:=if_neg e
   rw [show ((lkL Ls s).getD (lkP Ls A s) 0 == most)=false by simpa using e,cond_false,bs]
   show ((impl_SeekIndex N (lkL Ls s) ((lkP Ls A s:Nat):Int) most).bind _)=_
   rw [SeekIndex_impl_eq hN (by omega) (by omega),bs,bs,← eA]
   show ((sto (cz A) ((s % Ls.length:Nat):Int) ((lkA Ls A most s:Nat):Int)).bind _)=_
   rw [cz_sto hkA,bs,cz_ix hset,bs,setD hkA]
   show (bif (((lkA Ls A most s:Nat):Int) == ((lkL Ls s).length:Int)) then _ else _)=_
   rw [beq_nat]
   by_cases he:lkA Ls A most s=(lkL Ls s).length
   ·rw [decide_eq_true he,cond_true,hend he,eO]
   ·rw [decide_eq_false he,cond_false,bs]
    show ((ix (lkL Ls s) ((lkA Ls A most s:Nat):Int)).bind _)=_
    rw [ixD (show lkA Ls A most s<(lkL Ls s).length by omega),bs,ad1 (by omega),bs]
    have:=hrec he
    rw [eO] at this
    exact this
def atO (O:List Int) (B:List Nat):List Nat:=O.map fun j=>B.getD j.toNat 0
theorem atO_at {O:List Int} {B:List Nat} {k:Nat} (h:k<O.length):(atO O B).getD k 0=B.getD O[k].toNat 0:=by unfold atO;simp [h]
theorem atO_set {O:List Int} {B:List Nat} {k a n:Nat} (hn:O.Nodup) (hO:∀ j∈O,0≤j∧j<n) (hB:B.length=n) (h:k<O.length):atO O (B.set O[k].toNat a)=(atO O B).set k a:=by
 unfold atO
 refine List.ext_getElem (by simp) fun i h1 h2=>?_
 rw [List.length_map] at h1
 rw [List.getElem_map,List.getElem_set,List.getElem_map]
 have hj:=hO _ (List.getElem_mem h)
 have hi:=hO _ (List.getElem_mem h1)
 by_cases e:k=i
 ·subst e
  rw [if_pos rfl,setD (by omega)]
 ·rw [if_neg e,setD_ne]
  intro e2
  exact e (nodup_inj hn h h1 (by omega))
theorem leapS (hN:1073741824≤N) {ls:RowL} {O:List Int} (hO:OrdOk ls O ls.length) (hb:∀ l∈ls,l.length≤1000000):∀ (m:Nat) (B:List Nat) (most:Int) (out:List Int) (s k:Nat),B.length=ls.length→LInv (lsO ls O) (atO O B) most out s→remN (lsO ls O) (atO O B)<m→m≤k→out.length+m≤1073741824→s+m≤1073741824 →
  spec_LeapfrogIntersect_L1 N k ls out O (cz B) ((s % (lsO ls O).length:Nat):Int) most (s:Int)=some ((leapGo (lsO ls O) m (atO O B) most out s).1,((leapGo (lsO ls O) m (atO O B) most out s).2:Int)):=by
 have hLO:(lsO ls O).length=O.length:=by unfold lsO;rw [List.length_map]
 intro m
 induction m with
 | zero=>intro B most out s k _ _ h;omega
 | succ m ih =>
  intro B most out s k hB I h hmk h1 h2
  obtain ⟨k,rfl⟩:∃ g,k=g+1:=⟨k-1,by omega⟩
  obtain ⟨hk,ha,hgt,hle,_,hstep⟩:=leap_step I
  have hkO:s % (lsO ls O).length<O.length:=by rw [← hLO];exact hk
  have hj:=hO.bd _ (List.getElem_mem hkO)
  have hjB:O[s % (lsO ls O).length].toNat<B.length:=by omega
  have hjl:O[s % (lsO ls O).length].toNat<ls.length:=by omega
  have ej:(O[s % (lsO ls O).length]:Int)=((O[s % (lsO ls O).length].toNat:Nat):Int):=by omega
  have eL:ls.getD O[s % (lsO ls O).length].toNat []=lkL (lsO ls O) s:=(lsO_at hkO).symm
  have eP:B.getD O[s % (lsO ls O).length].toNat 0=lkP (lsO ls O) (atO O B) s:=(atO_at hkO).symm
  have hkA:s % (lsO ls O).length<(atO O B).length:=by rw [I.len];exact hk
  have ha':lkP (lsO ls O) (atO O B) s<(lkL (lsO ls O) s).length:=ha
  have hle':lkA (lsO ls O) (atO O B) most s≤(lkL (lsO ls O) s).length:=hle
  have hlb':(lkL (lsO ls O) s).length≤1000000:=by rw [← eL];exact hb _ (getL_mem hjl)
  have hset:O[s % (lsO ls O).length].toNat<(B.set O[s % (lsO ls O).length].toNat (lkA (lsO ls O) (atO O B) most s)).length:=by rw [List.length_set];exact hjB
  have eset:=atO_set (a:=lkA (lsO ls O) (atO O B) most s) hO.nd hO.bd hB hkO
  have hmod:((s % (lsO ls O).length+1:Nat):Int).tmod (O.length:Int)=((s+1) % (lsO ls O).length:Nat):=by
   rw [← hLO,← Int.ofNat_tmod]
   congr 1
   rw [Nat.add_mod s 1]
   simp
  have hrec:¬ lkA (lsO ls O) (atO O B) most s=(lkL (lsO ls O) s).length→spec_LeapfrogIntersect_L1 N k ls (lkO (lsO ls O) (atO O B) most out s) O (cz (B.set O[s % (lsO ls O).length].toNat (lkA (lsO ls O) (atO O B) most s))) (((s+1) % (lsO ls O).length:Nat):Int) ((lkL (lsO ls O) s).getD (lkA (lsO ls O) (atO O B) most s) 0) ((s+1:Nat):Int)=some ((leapGo (lsO ls O) (m+1) (atO O B) most out s).1,((leapGo (lsO ls O) (m+1) (atO O B) most out s).2:Int)):=fun hne=>by
   have hr:=remN_set (lsO ls O) (atO O B) (s % (lsO ls O).length) (lkA (lsO ls O) (atO O B) most s) hk I.len (by
    have h4:lkP (lsO ls O) (atO O B) s<lkA (lsO ls O) (atO O B) most s:=hgt
    show (lkL (lsO ls O) s).length-lkA (lsO ls O) (atO O B) most s<(lkL (lsO ls O) s).length-lkP (lsO ls O) (atO O B) s
    omega)
   have hol:=lkO_len (lsO ls O) (atO O B) most out s
   have hI:=hstep hne
   rw [ih (B.set O[s % (lsO ls O).length].toNat (lkA (lsO ls O) (atO O B) most s)) _ _ (s+1) k (by rw [List.length_set];exact hB) (by rw [eset];exact hI) (by rw [eset];omega) (by omega) (by omega) (by omega),eset,leapGo,if_neg hne]
  have hend:lkA (lsO ls O) (atO O B) most s=(lkL (lsO ls O) s).length→(leapGo (lsO ls O) (m+1) (atO O B) most out s)=(lkO (lsO ls O) (atO O B) most out s,s+1):=fun he=>by rw [leapGo,if_pos he]
  have hOp:0<O.length:=by omega
  have hms:s % (lsO ls O).length≤s:=Nat.mod_le _ _
  rw [spec_LeapfrogIntersect_L1,ix_nat hkO,bs,ej,ixR hjl,bs,cz_ix hjB,bs,eL,eP,ixD ha',bs,ad1 (by omega),bs]
  by_cases e:(lkL (lsO ls O) s).getD (lkP (lsO ls O) (atO O B) s) 0=most
  ·have eA:lkA (lsO ls O) (atO O B) most s=lkP (lsO ls O) (atO O B) s+1:=if_pos e
   have eO:lkO (lsO ls O) (atO O B) most out s=out++[most]:=if_pos e
   rw [e,show (most == most)=true by simp,cond_true,apd_ok' (by decide) (by simp;omega),bs,bs,ad1 (by omega),bs,bs,cz_sto hjB,bs,← eA,← eO,cz_ix hset,bs,setD hjB,bs,beq_nat]
   by_cases he:lkA (lsO ls O) (atO O B) most s=(lkL (lsO ls O) s).length
   ·rw [decide_eq_true he,cond_true,hend he]
   ·rw [decide_eq_false he,cond_false,bs,bs,ixD (show lkA (lsO ls O) (atO O B) most s<(lkL (lsO ls O) s).length by omega),bs,ad1 (by omega),bs,rm_ok (by omega),bs,hmod]
    exact hrec he
  ·have eA:lkA (lsO ls O) (atO O B) most s=seekN (lkL (lsO ls O) s) (lkP (lsO ls O) (atO O B) s) most:=if_neg e
   have eO:lkO (lsO ls O) (atO O B) most out s=out:=if_neg e
   rw [show ((lkL (lsO ls O) s).getD (lkP (lsO ls O) (atO O B) s) 0 == most)=false by simpa using e,cond_false,bs,bs,SeekIndex_spec_eq hN (by omega) (by omega),bs,bs,← eA,cz_sto hjB,bs,cz_ix hset,bs,setD hjB,bs,beq_nat]
   by_cases he:lkA (lsO ls O) (atO O B) most s=(lkL (lsO ls O) s).length
   ·rw [decide_eq_true he,cond_true,hend he,eO]
   ·rw [decide_eq_false he,cond_false,bs,bs,ixD (show lkA (lsO ls O) (atO O B) most s<(lkL (lsO ls O) s).length by omega),bs,ad1 (by omega),bs,rm_ok (by omega),bs,hmod]
    have:=hrec he
    rw [eO] at this
    exact this
theorem zeros_cz (n:Nat):List.replicate n (0:Int)=cz (zerosN n):=by unfold cz zerosN;rw [List.map_replicate];rfl
theorem atO_zeros {O:List Int} {n:Nat} (h:O.length=n):atO O (zerosN n)=zerosN n:=by
 unfold atO zerosN
 refine List.ext_getElem (by simp [h]) fun i h1 h2=>?_
 rw [List.getElem_map,List.getElem_replicate]
 exact zeros_at n _
theorem LeapfrogIntersect_impl_eq (hN:1073741824≤N) {ls:RowL} (hl:ls.length≤1000) (hb:∀ l∈ls,l.length≤1000000):impl_LeapfrogIntersect N ls=some (leapV ls):=by
 have hok:okII ls:=⟨by omega,fun l h=>⟨by have:=hb l h;omega,fun _ _=>trivial⟩⟩
 unfold impl_LeapfrogIntersect leapV
 rw [ascendingLists_eq hN hok,bs]
 cases h1:allAsc ls with
 | false=>rfl
 | true =>
  rw [cond_true,ShortestLength_impl_eq hN (by omega),bs,Bool.true_and]
  cases h2:(shT ls ls.length == 0) with
  | true=>rfl
  | false =>
   obtain ⟨I,hne⟩:=leap_begin (ls:=ls) (by rw [h1,h2];rfl)
   have hpos:=I.pos
   have hlen:=lsO_len ls
   have hrem:=remN_zero (lsO ls (ordT ls ls.length)) 1000000 ls.length fun l hl=>hb l (lsO_mem.1 hl)
   rw [hlen] at hrem
   have hmul:=Nat.mul_le_mul_right 1000000 hl
   have h1p:0<((lsO ls (ordT ls ls.length)).getD (ls.length-1) []).length:=hne _ (lsO_mem.1 (getL_mem (by omega)))
   rw [cond_false,Bool.not_false,cond_true,ordI_L1 hN hne hl,bs,lpB]
   show ((mk 8 (0:Int) ((lsO ls (ordT ls ls.length)).length:Int)).bind _)=_
   rw [hlen,mk_ok (by decide) (by omega),bs,zeros_cz,sb_ok (by omega) (by omega),bs,show ((ls.length:Int)-1)=((ls.length-1:Nat):Int) by omega,ixR (by omega),bs,ixH h1p,bs]
   have:=leapI hN (Ls:=lsO ls (ordT ls ls.length)) (fun l h=>hb l (lsO_mem.1 h)) (remN (lsO ls (ordT ls ls.length)) (zerosN ls.length)+1) (zerosN ls.length) _ [] 0 N I (by omega) (by omega) (by simp;omega) (by omega)
   exact this
theorem LeapfrogIntersect_spec_eq (hN:1073741824≤N) {ls:RowL} (hl:ls.length≤1000) (hb:∀ l∈ls,l.length≤1000000):spec_LeapfrogIntersect N ls=some (leapV ls):=by
 have hok:okII ls:=⟨by omega,fun l h=>⟨by have:=hb l h;omega,fun _ _=>trivial⟩⟩
 unfold spec_LeapfrogIntersect leapV
 rw [l18All_eq hN hok,bs]
 cases h1:allAsc ls with
 | false=>rfl
 | true =>
  rw [cond_true,ShortestLength_spec_eq hN (by omega),bs,Bool.true_and]
  cases h2:(shT ls ls.length == 0) with
  | true=>rfl
  | false =>
   obtain ⟨I,hne⟩:=leap_begin (ls:=ls) (by rw [h1,h2];rfl)
   have hpos:=I.pos
   have hlen:=lsO_len ls
   have ho:=ordT_ok ls ls.length
   have hol:=ho.len
   have hrem:=remN_zero (lsO ls (ordT ls ls.length)) 1000000 ls.length fun l hl=>hb l (lsO_mem.1 hl)
   rw [hlen] at hrem
   have hmul:=Nat.mul_le_mul_right 1000000 hl
   have hlast:ls.length-1<(ordT ls ls.length).length:=by omega
   have hj:=ho.bd _ (List.getElem_mem hlast)
   have eL:ls.getD (ordT ls ls.length)[ls.length-1].toNat []=(lsO ls (ordT ls ls.length)).getD (ls.length-1) []:=(lsO_at hlast).symm
   have h1p:0<((lsO ls (ordT ls ls.length)).getD (ls.length-1) []).length:=hne _ (lsO_mem.1 (getL_mem (by omega)))
   rw [cond_false,Bool.not_false,cond_true,l18Order_eq hN hne hl,bs,mk_ok (by decide) (by omega),bs,zeros_cz,hol,sb_ok (by omega) (by omega),bs,show ((ls.length:Int)-1)=((ls.length-1:Nat):Int) by omega,ix_nat hlast,bs,ixL hj,bs,eL,ixH h1p,bs]
   have hI:LInv (lsO ls (ordT ls ls.length)) (atO (ordT ls ls.length) (zerosN ls.length)) (headV ((lsO ls (ordT ls ls.length)).getD (ls.length-1) [])) [] 0:=by rw [atO_zeros hol];exact I
   have:=leapS hN ho hb (remN (lsO ls (ordT ls ls.length)) (zerosN ls.length)+1) (zerosN ls.length) _ [] 0 N (by simp [zerosN]) hI (by rw [atO_zeros hol];omega) (by omega) (by simp;omega) (by omega)
   rw [atO_zeros hol,Nat.zero_mod] at this
   exact this
end
end Go.Proofs.YtbdnoljojebebaaGreat
namespace Go.Proofs.YtbdnoljojebebaaGreat
open Go.RowKit

theorem natD_at {A:List Nat} {k:Nat} (h:k<A.length):A.getD k 0=A[k]:=by simp [h]
def atomAt (atoms:List QAtom) (i:Nat):QAtom:=atoms.getD i (ByteArray.empty,[])
theorem atomAt_eq {atoms:List QAtom} {i:Nat} (h:i<atoms.length):atomAt atoms i=atoms[i]:=by unfold atomAt;simp [h]
def idxT (atoms:List QAtom) (v:Int) (n:Nat):List Nat:=(List.range' 0 n).filter fun i=>decide (v∈(atomAt atoms i).2)
def idxV (atoms:List QAtom) (v:Int):List Nat:=idxT atoms v atoms.length
def ownT (vs order p:List Int) (n:Nat):List Int:=((List.range' 0 n).filter fun k=>decide (order.getD k 0∈vs)).map fun k=>p.getD k 0
def ownV (vs order p:List Int):List Int:=ownT vs order p p.length
def atV (ts:List DTable) (order:List Int) (atoms:List QAtom) (p:List Int) (i:Nat):List Int :=
 kidsT (trieA ts order (atomAt atoms i)).1 (trieA ts order (atomAt atoms i)).2 (ownV (atomAt atoms i).2 order p)
def listsV (ts:List DTable) (order:List Int) (atoms:List QAtom) (p:List Int):RowL:=(idxV atoms (order.getD p.length 0)).map (atV ts order atoms p)
theorem idxT_succ (atoms:List QAtom) (v:Int) (n:Nat):idxT atoms v (n+1)=bif decide (v∈(atomAt atoms n).2) then idxT atoms v n++[n] else idxT atoms v n:=by
 unfold idxT
 rw [List.range'_concat,List.filter_append]
 simp only [Nat.zero_add,Nat.one_mul,List.filter_cons,List.filter_nil]
 cases decide (v∈(atomAt atoms n).2) <;> simp
theorem idxT_len (atoms:List QAtom) (v:Int) (n:Nat):(idxT atoms v n).length≤n:=by
 unfold idxT
 refine Nat.le_trans (List.length_filter_le _ _) ?_
 simp
theorem idxV_mem {atoms:List QAtom} {v:Int} {i:Nat}:i∈idxV atoms v↔i<atoms.length∧v∈(atomAt atoms i).2:=by
 unfold idxV idxT
 rw [List.mem_filter,decide_eq_true_eq]
 simp
theorem ownT_succ (vs order p:List Int) (n:Nat):ownT vs order p (n+1)=bif decide (order.getD n 0∈vs) then ownT vs order p n++[p.getD n 0] else ownT vs order p n:=by
 unfold ownT
 rw [List.range'_concat,List.filter_append,List.map_append]
 simp only [Nat.zero_add,Nat.one_mul,List.filter_cons,List.filter_nil]
 cases decide (order.getD n 0∈vs) <;> simp
theorem ownT_len (vs order p:List Int) (n:Nat):(ownT vs order p n).length≤n:=by
 unfold ownT
 rw [List.length_map]
 refine Nat.le_trans (List.length_filter_le _ _) ?_
 simp
theorem triesV_at {ts:List DTable} {order:List Int} {atoms:List QAtom} {i:Nat} (h:i<atoms.length):ix (triesV ts order atoms) (i:Int)=some (trieA ts order (atomAt atoms i)):=by
 rw [ix_nat (by rw [triesV_len];exact h)]
 unfold triesV
 rw [List.getElem_map,atomAt_eq h]
theorem atom_mem {atoms:List QAtom} {i:Nat} (h:i<atoms.length):atomAt atoms i∈atoms:=by rw [atomAt_eq h];exact List.getElem_mem h
theorem atomAt_ok {atoms:List QAtom} (ha:okAtoms atoms) {i:Nat} (h:i<atoms.length):okI (atomAt atoms i).2:=by rw [atomAt_eq h];exact atoms_ok ha h
theorem atoms_ix {atoms:List QAtom} {i:Nat} (h:i<atoms.length):ix atoms (i:Int)=some (atomAt atoms i):=by rw [ix_nat h,atomAt_eq h]
theorem listsV_len (ts:List DTable) (order:List Int) (atoms:List QAtom) (p:List Int):(listsV ts order atoms p).length≤atoms.length:=by
 unfold listsV;rw [List.length_map];exact idxT_len _ _ _
theorem listsV_ok {ts:List DTable} {n:Nat} {atoms:List QAtom} {order p:List Int} (q:QFor ts n atoms order):∀ l∈listsV ts order atoms p,l.length≤16∧ascI l∧∀ v∈l,0≤v∧v≤99:=by
 intro l hl
 obtain ⟨i,hi,rfl⟩:=List.mem_map.1 hl
 have hm:=atom_mem (idxV_mem.1 hi).1
 obtain ⟨_,_,g3,g4,_⟩:=trieA_ok q hm
 unfold atV
 exact ⟨Nat.le_trans (kidsT_len _ _ _) g4,kidsT_asc g3,kidsT_vals g3⟩
section
variable {N:Nat}
theorem nlI_L2 (hN:1073741824≤N) {t1:List LTrie} {order p vs:List Int} {s:ByteArray} {b1:RowL} {b2 b5 b6:Int} {b4:List QAtom} (hv:okI vs) (hp:p.length≤1000) (ho:p.length≤order.length) :
  impl_nextLists_L2 N N t1 order p b1 b2 s vs [] b4 b5 b6 p (p.length:Int) 0=some (ownV vs order p,(p.length:Int)) :=
 loopI (fun k (o:List Int) i=>impl_nextLists_L2 N k t1 order p b1 b2 s vs o b4 b5 b6 p (p.length:Int) i) p.length (ownT vs order p) (ownV vs order p,(p.length:Int))
  (fun k i h=>by
   have hl:=ownT_len vs order p i
   show impl_nextLists_L2 N (k+1) t1 order p b1 b2 s vs (ownT vs order p i) b4 b5 b6 p (p.length:Int) (i:Int)=impl_nextLists_L2 N k t1 order p b1 b2 s vs (ownT vs order p (i+1)) b4 b5 b6 p (p.length:Int) ((i+1:Nat):Int)
   rw [impl_nextLists_L2,dlt h,cond_true,ixD h,bs,ixD (show i<order.length by omega),bs,ContainsVariable_impl_eq hN hv,bs,ad1 (by omega),ownT_succ]
   cases decide (order.getD i 0∈vs) with
   | true=>rw [cond_true,cond_true,apd_ok' (by decide) (by simp;omega),bs,bs]
   | false=>rw [cond_false,cond_false,bs])
  (fun k=>by
   show impl_nextLists_L2 N (k+1) t1 order p b1 b2 s vs (ownT vs order p p.length) b4 b5 b6 p (p.length:Int) (p.length:Int)=_
   rw [impl_nextLists_L2,dge (by omega),cond_false];rfl) N 0 (by omega) (by omega)
theorem nextLists_eq (hN:1073741824≤N) {ts:List DTable} {n:Nat} {m:Int} {atoms:List QAtom} {out order p:List Int} (q:QFor ts n atoms order) (ha:okAtoms atoms) (hp:p.length<n) :
  impl_nextLists N m atoms out (triesV ts order atoms) order p=some (listsV ts order atoms p):=by
 have hn5:=q.n5
 have hol:=q.ol
 have h4:=q.a4
 have h:=loopI (fun k (o:RowL) i=>impl_nextLists_L1 N k (triesV ts order atoms) order p o atoms (atoms.length:Int) i) atoms.length (fun i=>(idxT atoms (order.getD p.length 0) i).map (atV ts order atoms p)) (listsV ts order atoms p,(atoms.length:Int))
  (fun k i h=>by
   have hl:=idxT_len atoms (order.getD p.length 0) i
   have hm:=List.getElem_mem h
   obtain ⟨_,_,g3,_,_⟩:=trieA_ok q (atom_mem h)
   show impl_nextLists_L1 N (k+1) (triesV ts order atoms) order p ((idxT atoms (order.getD p.length 0) i).map (atV ts order atoms p)) atoms (atoms.length:Int) (i:Int)=impl_nextLists_L1 N k (triesV ts order atoms) order p ((idxT atoms (order.getD p.length 0) (i+1)).map (atV ts order atoms p)) atoms (atoms.length:Int) ((i+1:Nat):Int)
   rw [impl_nextLists_L1,dlt h,cond_true,atoms_ix h,bs,ixD (show p.length<order.length by omega),bs,ContainsVariable_impl_eq hN (atomAt_ok ha h),bs,ad1 (by omega),idxT_succ]
   cases decide (order.getD p.length 0∈(atomAt atoms i).2) with
   | true =>
    rw [cond_true,cond_true,nlI_L2 hN (atomAt_ok ha h) (by omega) (by omega),bs,lpB]
    show ((ix (triesV ts order atoms) (i:Int)).bind _)=_
    rw [triesV_at h,bs,TrieChildren_impl_eq hN g3,bs,apd_ok' (by decide) (by rw [List.length_map,List.length_singleton];omega),bs,bs,List.map_append];rfl
   | false=>rw [cond_false,cond_false,bs])
  (fun k=>by
   show impl_nextLists_L1 N (k+1) (triesV ts order atoms) order p ((idxT atoms (order.getD p.length 0) atoms.length).map (atV ts order atoms p)) atoms (atoms.length:Int) (atoms.length:Int)=_
   rw [impl_nextLists_L1,dge (by omega),cond_false];rfl) N 0 (by omega) (by omega)
 have h':impl_nextLists_L1 N N (triesV ts order atoms) order p [] atoms (atoms.length:Int) 0=_:=h
 unfold impl_nextLists
 rw [h',bs,lpB]
theorem AtomsWithVariable_eq (hN:1073741824≤N) {n:Int} {atoms:List QAtom} {out:List Int} {v:Int} (ha:okAtoms atoms) (ho:okI out) (hq:queryOk n atoms out=true) :
  spec_AtomsWithVariable N n atoms out v=some (cz (idxV atoms v)):=by
 have h4:=(queryOk_n hq).2.2.2
 have h:=loopI (fun k (o:List Int) i=>spec_AtomsWithVariable_L1 N k v n atoms out o i) atoms.length (fun i=>cz (idxT atoms v i)) (cz (idxV atoms v),(atoms.length:Int))
  (fun k i h=>by
   have hl:=idxT_len atoms v i
   have hcl:=cz_len (idxT atoms v i)
   show spec_AtomsWithVariable_L1 N (k+1) v n atoms out (cz (idxT atoms v i)) (i:Int)=spec_AtomsWithVariable_L1 N k v n atoms out (cz (idxT atoms v (i+1))) ((i+1:Nat):Int)
   rw [spec_AtomsWithVariable_L1,dlt h,cond_true,IsValidQuery_spec_eq hN ha ho,bs,hq,cond_true,ix_nat h,bs,ContainsVariable_spec_eq hN (atoms_ok ha h),bs,ad1 (by omega),idxT_succ,atomAt_eq h]
   cases decide (v∈atoms[i].2) with
   | true =>
    rw [cond_true,cond_true,apd_ok' (by decide) (by simp;omega),bs,bs]
    unfold cz
    rw [List.map_append];rfl
   | false=>rw [cond_false,cond_false,bs])
  (fun k=>by
   show spec_AtomsWithVariable_L1 N (k+1) v n atoms out (cz (idxT atoms v atoms.length)) (atoms.length:Int)=_
   rw [spec_AtomsWithVariable_L1,dge (by omega),cond_false];rfl) N 0 (by omega) (by omega)
 have h':spec_AtomsWithVariable_L1 N N v n atoms out [] 0=_:=h
 unfold spec_AtomsWithVariable
 rw [h',bs,lpB]
theorem l20Prefix_eq (hN:1073741824≤N) {order p vs:List Int} {s:ByteArray} (hv:okI vs) (hp:p.length≤1000) (ho:p.length≤order.length):spec_l20Prefix N s vs order p=some (ownV vs order p):=by
 have h:=loopI (fun k (o:List Int) i=>spec_l20Prefix_L1 N k order p s vs o i) p.length (ownT vs order p) (ownV vs order p,(p.length:Int))
  (fun k i h=>by
   have hl:=ownT_len vs order p i
   show spec_l20Prefix_L1 N (k+1) order p s vs (ownT vs order p i) (i:Int)=spec_l20Prefix_L1 N k order p s vs (ownT vs order p (i+1)) ((i+1:Nat):Int)
   rw [spec_l20Prefix_L1,dlt h,cond_true,ixD (show i<order.length by omega),bs,ContainsVariable_spec_eq hN hv,bs,ad1 (by omega),ixD h,ownT_succ]
   cases decide (order.getD i 0∈vs) with
   | true=>rw [cond_true,cond_true,bs,apd_ok' (by decide) (by simp;omega),bs,bs]
   | false=>rw [cond_false,cond_false,bs])
  (fun k=>by
   show spec_l20Prefix_L1 N (k+1) order p s vs (ownT vs order p p.length) (p.length:Int)=_
   rw [spec_l20Prefix_L1,dge (by omega),cond_false];rfl) N 0 (by omega) (by omega)
 have h':spec_l20Prefix_L1 N N order p s vs [] 0=_:=h
 unfold spec_l20Prefix
 rw [h',bs,lpB]
theorem refOne (hN:1073741824≤N) {ts:List DTable} {n:Nat} {atoms:List QAtom} {order p:List Int} (q:QFor ts n atoms order) (ha:okAtoms atoms) (hp:p.length<n) {i:Nat} (h:i<atoms.length) :
  spec_l20Prefix N (atomAt atoms i).1 (atomAt atoms i).2 order p=some (ownV (atomAt atoms i).2 order p)∧spec_TrieChildren N (trieA ts order (atomAt atoms i)).1 (trieA ts order (atomAt atoms i)).2 (ownV (atomAt atoms i).2 order p)=some (atV ts order atoms p i):=by
 have hn5:=q.n5
 have hol:=q.ol
 obtain ⟨_,_,g3,_,_⟩:=trieA_ok q (atom_mem h)
 refine ⟨l20Prefix_eq hN ?_ (by omega) (by omega),TrieChildren_spec_eq hN g3⟩
 rw [atomAt_eq h];exact atoms_ok ha h
theorem take_map_s {α β:Type} {xs:List α} {f:α→β} {i:Nat} (h:i<xs.length):(xs.take (i+1)).map f=(xs.take i).map f++[f xs[i]]:=by
 rw [List.take_succ_eq_append_getElem h,List.map_append];rfl
theorem l20Keys_eq (hN:1073741824≤N) {ts:List DTable} {n:Nat} {atoms:List QAtom} {out order p:List Int} (q:QFor ts n atoms order) (ha:okAtoms atoms) (ho:okI out) (hq:queryOk (n:Int) atoms out=true) (hp:p.length<n) :
  spec_l20Keys N (triesV ts order atoms) (n:Int) atoms out order p=some (leapV (listsV ts order atoms p)):=by
 have hol:=q.ol
 have h4:=q.a4
 have hil:=idxT_len atoms (order.getD p.length 0) atoms.length
 have hcl:=cz_len (idxV atoms (order.getD p.length 0))
 have hil':(idxV atoms (order.getD p.length 0)).length≤atoms.length:=hil
 have h:=loopI (fun k (o:RowL) i=>spec_l20Keys_L1 N k (triesV ts order atoms) order p (n:Int) atoms out (cz (idxV atoms (order.getD p.length 0))) o i) (idxV atoms (order.getD p.length 0)).length (fun i=>((idxV atoms (order.getD p.length 0)).take i).map (atV ts order atoms p)) (listsV ts order atoms p,((idxV atoms (order.getD p.length 0)).length:Int))
  (fun k i h=>by
   have hc:=cz_ix h
   rw [natD_at h] at hc
   have hi:=(idxV_mem.1 (List.getElem_mem h)).1
   obtain ⟨o1,o2⟩:=refOne hN q ha hp hi
   show spec_l20Keys_L1 N (k+1) (triesV ts order atoms) order p (n:Int) atoms out (cz (idxV atoms (order.getD p.length 0))) (((idxV atoms (order.getD p.length 0)).take i).map (atV ts order atoms p)) (i:Int)=spec_l20Keys_L1 N k (triesV ts order atoms) order p (n:Int) atoms out (cz (idxV atoms (order.getD p.length 0))) (((idxV atoms (order.getD p.length 0)).take (i+1)).map (atV ts order atoms p)) ((i+1:Nat):Int)
   rw [spec_l20Keys_L1,hcl,dlt h,cond_true,hc,bs,triesV_at hi,bs,bs,atoms_ix hi,bs,o1,bs,o2,bs,apd_ok' (by decide) (by rw [List.length_map,List.length_take,List.length_singleton];omega),bs,ad1 (by omega),bs,take_map_s h])
  (fun k=>by
   show spec_l20Keys_L1 N (k+1) (triesV ts order atoms) order p (n:Int) atoms out (cz (idxV atoms (order.getD p.length 0))) (((idxV atoms (order.getD p.length 0)).take (idxV atoms (order.getD p.length 0)).length).map (atV ts order atoms p)) ((idxV atoms (order.getD p.length 0)).length:Int)=_
   rw [spec_l20Keys_L1,hcl,dge (by omega),cond_false,List.take_length];rfl) N 0 (by omega) (by omega)
 have h':spec_l20Keys_L1 N N (triesV ts order atoms) order p (n:Int) atoms out (cz (idxV atoms (order.getD p.length 0))) [] 0=_:=h
 have hll:=listsV_len ts order atoms p
 unfold spec_l20Keys
 rw [ixD (show p.length<order.length by omega),bs,AtomsWithVariable_eq hN ha ho hq,bs,h',bs,lpB]
 show ((spec_LeapfrogIntersect N (listsV ts order atoms p)).bind _)=_
 rw [LeapfrogIntersect_spec_eq hN (by omega) (fun l hl=>by have:=(listsV_ok q l hl).1;omega),bs]
end
end Go.Proofs.YtbdnoljojebebaaGreat
namespace Go.Proofs.YtbdnoljojebebaaGreat
open Go.RowKit

def fLeap (ts:List DTable) (order:List Int) (atoms:List QAtom):Nxt:=fun p=>leapV (listsV ts order atoms p)
theorem ascI_nodup {xs:List Int} (h:ascI xs):xs.Nodup:=List.Pairwise.imp (fun {a b} (hab:a<b) (e:a=b)=>by omega) h
theorem common_ok {ls:RowL} {xs:List Int} (h:∀ l∈ls,l.length≤16∧ascI l∧∀ v∈l,0≤v∧v≤99) (ha:ascI xs) (hx:∀ x∈xs,∀ l∈ls,x∈l) (he:ls=[]→xs=[]):xs.length≤16∧∀ v∈xs,0≤v∧v≤99:=by
 cases ls with
 | nil=>rw [he rfl];simp
 | cons l ls =>
  obtain ⟨h1,_,h3⟩:=h l List.mem_cons_self
  refine ⟨Nat.le_trans (subset_len xs l (ascI_nodup ha) fun x hx'=>hx x hx' l List.mem_cons_self) h1,fun v hv=>h3 v (hx v hv l List.mem_cons_self)⟩
theorem leapV_nil:(leapV []).1=[]:=rfl
theorem fLeap_ok {ts:List DTable} {n:Nat} {atoms:List QAtom} {order:List Int} (q:QFor ts n atoms order):NxtOk (fLeap ts order atoms):=by
 have h4:=q.a4
 have key:=fun p=>leapV_spec (ls:=listsV ts order atoms p) (B:=16) fun l hl=>(listsV_ok q l hl).1
 have com:=fun p=>common_ok (fun l hl=>listsV_ok q (p:=p) l hl) (key p).1 (key p).2.1 fun e=>by rw [e];exact leapV_nil
 have hll:=fun p=>listsV_len ts order atoms p
 refine ⟨fun p=>(com p).1,fun p=>(key p).1,fun p=>(com p).2,fun p=>(key p).2.2.1,fun p=>?_⟩
 have h1:=(key p).2.2.2.1
 have h2:=hll p
 show (leapV (listsV ts order atoms p)).2≤1000
 omega
end Go.Proofs.YtbdnoljojebebaaGreat
namespace Go.Proofs.YtbdnoljojebebaaGreat
open Go.RowKit

theorem flat_take_s {α β:Type} {xs:List α} {g:α→List β} {i:Nat} (h:i<xs.length):(xs.take (i+1)).flatMap g=(xs.take i).flatMap g++g xs[i]:=by
 rw [List.take_succ_eq_append_getElem h,List.flatMap_append];simp
theorem sum_take_s {α:Type} {xs:List α} {g:α→Int} {i:Nat} (h:i<xs.length):((xs.take (i+1)).map g).sum=((xs.take i).map g).sum+g xs[i]:=by
 rw [take_map_s h,List.sum_append];simp
theorem steps_take_s {f:Nxt} {rows:RowL} {i:Nat} (h:i<rows.length):stepsV f (rows.take (i+1))=stepsV f (rows.take i)+(f rows[i]).2:=sum_take_s h
theorem levV_succ (f:Nxt):∀ (m:Nat) (L:RowL) (c:Int),levV f (m+1) L c=((levV f m L c).1.flatMap (extV f),(levV f m L c).2+stepsV f (levV f m L c).1)
 | 0,_,_=>rfl
 | m+1,L,c=>by
  rw [levV,levV_succ f m];rfl
theorem stepB_le:∀ {i:Nat},i≤5→stepB i≤1000000000
 | 0,_=>by decide
 | 1,_=>by decide
 | 2,_=>by decide
 | 3,_=>by decide
 | 4,_=>by decide
 | 5,_=>by decide
section
variable {N:Nat}
theorem copyInts_eq {xs:List Int} (h:xs.length≤1048576):impl_copyInts N xs=some xs:=by
 unfold impl_copyInts
 rw [apd_nil (by decide) (by omega),bs]
theorem reachLeap_L3 (hN:1073741824≤N) {t1:List LTrie} {order out p vs:List Int} {b1 b2 b3 b4 b5 b6:Int} {atoms:List QAtom} {next rows:RowL} (hp:p.length≤1000) (hv:vs.length≤1000) (hn:next.length≤1073741824) :
  impl_reach__impl_LeapfrogIntersect_L3 N N t1 order b1 b2 atoms out b3 b4 next p rows b5 b6 vs (vs.length:Int) 0=some (next++vs.map (fun v=>p++[v]),(vs.length:Int)):=by
 have h:=loopI (fun k (o:RowL) i=>impl_reach__impl_LeapfrogIntersect_L3 N k t1 order b1 b2 atoms out b3 b4 o p rows b5 b6 vs (vs.length:Int) i) vs.length (fun i=>next++(vs.take i).map (fun v=>p++[v])) (next++vs.map (fun v=>p++[v]),(vs.length:Int))
  (fun k i h=>by
   show impl_reach__impl_LeapfrogIntersect_L3 N (k+1) t1 order b1 b2 atoms out b3 b4 (next++(vs.take i).map (fun v=>p++[v])) p rows b5 b6 vs (vs.length:Int) (i:Int)=impl_reach__impl_LeapfrogIntersect_L3 N k t1 order b1 b2 atoms out b3 b4 (next++(vs.take (i+1)).map (fun v=>p++[v])) p rows b5 b6 vs (vs.length:Int) ((i+1:Nat):Int)
   rw [impl_reach__impl_LeapfrogIntersect_L3,dlt h,cond_true,ix_nat h,bs,copyInts_eq (by omega),bs,apd_ok' (by decide) (by simp;omega),bs,apd_ok' (by decide) (by rw [List.length_append,List.length_map,List.length_take,List.length_singleton];omega),bs,ad1 (by omega),bs,take_map_s h,List.append_assoc])
  (fun k=>by
   show impl_reach__impl_LeapfrogIntersect_L3 N (k+1) t1 order b1 b2 atoms out b3 b4 (next++(vs.take vs.length).map (fun v=>p++[v])) p rows b5 b6 vs (vs.length:Int) (vs.length:Int)=_
   rw [impl_reach__impl_LeapfrogIntersect_L3,dge (by omega),cond_false,List.take_length]) N 0 (by omega) (by omega)
 rw [List.take_zero,List.map_nil,List.append_nil] at h
 exact h
theorem reachLeap_L2 (hN:1073741824≤N) {ts:List DTable} {n:Nat} {m b1 b4 c:Int} {atoms:List QAtom} {out order:List Int} (q:QFor ts n atoms order) (ha:okAtoms atoms) {rows:RowL} {lv:Nat} (hlv:lv<n) (hrow:∀ r∈rows,r.length=lv) (hl:rows.length≤1048576) (hc:0≤c∧c≤1073741824) :
  impl_reach__impl_LeapfrogIntersect_L2 N N (triesV ts order atoms) order b1 m atoms out c b4 [] rows (rows.length:Int) 0=some (c+stepsV (fLeap ts order atoms) rows,rows.flatMap (extV (fLeap ts order atoms)),(rows.length:Int)):=by
 have hf:=fLeap_ok q
 have hn5:=q.n5
 have h4:=q.a4
 have h:=loopI (fun k (s:Int × RowL) i=>impl_reach__impl_LeapfrogIntersect_L2 N k (triesV ts order atoms) order b1 m atoms out s.1 b4 s.2 rows (rows.length:Int) i) rows.length (fun i=>(c+stepsV (fLeap ts order atoms) (rows.take i),(rows.take i).flatMap (extV (fLeap ts order atoms)))) (c+stepsV (fLeap ts order atoms) rows,rows.flatMap (extV (fLeap ts order atoms)),(rows.length:Int))
  (fun k i h=>by
   have hr:=hrow _ (List.getElem_mem h)
   have hll:=listsV_len ts order atoms rows[i]
   have hk:=hf.len rows[i];have h0:=hf.st0 rows[i];have h1:=hf.st1 rows[i]
   have hsb:=sum_bd (g:=fun p=>((fLeap ts order atoms) p).2) hf.st0 hf.st1 (rows.take i)
   have hsb2:0≤stepsV (fLeap ts order atoms) (rows.take i)∧stepsV (fLeap ts order atoms) (rows.take i)≤(((rows.take i).length:Nat):Int)*1000:=hsb
   have hfl:=len_flatMap (extV_len hf) (rows.take i)
   rw [List.length_take] at hsb2 hfl
   show impl_reach__impl_LeapfrogIntersect_L2 N (k+1) (triesV ts order atoms) order b1 m atoms out (c+stepsV (fLeap ts order atoms) (rows.take i)) b4 ((rows.take i).flatMap (extV (fLeap ts order atoms))) rows (rows.length:Int) (i:Int)=impl_reach__impl_LeapfrogIntersect_L2 N k (triesV ts order atoms) order b1 m atoms out (c+stepsV (fLeap ts order atoms) (rows.take (i+1))) b4 ((rows.take (i+1)).flatMap (extV (fLeap ts order atoms))) rows (rows.length:Int) ((i+1:Nat):Int)
   rw [impl_reach__impl_LeapfrogIntersect_L2,dlt h,cond_true,ix_nat h,bs,nextLists_eq hN q ha (by omega),bs,LeapfrogIntersect_impl_eq hN (by omega) (fun l hl=>by have:=(listsV_ok q l hl).1;omega),bs]
   show ((ad _ ((fLeap ts order atoms) rows[i]).2).bind fun x501=>(impl_reach__impl_LeapfrogIntersect_L3 N N (triesV ts order atoms) order b1 m atoms out x501 b4 _ rows[i] rows (rows.length:Int) (i:Int) ((fLeap ts order atoms) rows[i]).1 (((fLeap ts order atoms) rows[i]).1.length:Int) 0).bind _)=_
   rw [ad_ok (by omega) (by omega),bs,reachLeap_L3 hN (by omega) (by omega) (by omega),bs,lpB,flat_take_s h,steps_take_s h,← Int.add_assoc,ad1 (by omega)];rfl)
  (fun k=>by
   show impl_reach__impl_LeapfrogIntersect_L2 N (k+1) (triesV ts order atoms) order b1 m atoms out (c+stepsV (fLeap ts order atoms) (rows.take rows.length)) b4 ((rows.take rows.length).flatMap (extV (fLeap ts order atoms))) rows (rows.length:Int) (rows.length:Int)=_
   rw [impl_reach__impl_LeapfrogIntersect_L2,dge (by omega),cond_false,List.take_length]) N 0 (by omega) (by omega)
 have h':impl_reach__impl_LeapfrogIntersect_L2 N N (triesV ts order atoms) order b1 m atoms out (c+0) b4 [] rows (rows.length:Int) 0=_:=h
 rw [Int.add_zero] at h'
 exact h'
theorem reachLeap_eq (hN:1073741824≤N) {ts:List DTable} {n:Nat} {m:Int} {atoms:List QAtom} {out order:List Int} (q:QFor ts n atoms order) (ha:okAtoms atoms) {len:Nat} (hlen:len≤n) :
  impl_reach__impl_LeapfrogIntersect N m atoms out (triesV ts order atoms) order (len:Int)=some ((walkV (fLeap ts order atoms) len []).1,(walkV (fLeap ts order atoms) len []).2,decide (((walkV (fLeap ts order atoms) len []).1.length:Int)≤4000)):=by
 have hf:=fLeap_ok q
 have hn5:=q.n5
 have h:=loopI (fun k (s:RowL × Int) i=>impl_reach__impl_LeapfrogIntersect_L1 N k (triesV ts order atoms) order (len:Int) m atoms out s.1 s.2 i) len (fun i=>levV (fLeap ts order atoms) i [[]] 0) ((levV (fLeap ts order atoms) len [[]] 0).1,(levV (fLeap ts order atoms) len [[]] 0).2,(len:Int))
  (fun k i h=>by
   have hw:=walk_lev (fLeap ts order atoms) i
   have hl:=walkV_len hf i []
   have hs:=walkV_st hf i []
   have hp:16 ^ i≤16 ^ 5:=Nat.pow_le_pow_right (by decide) (by omega)
   have hb:=stepB_le (show i≤5 by omega)
   show impl_reach__impl_LeapfrogIntersect_L1 N (k+1) (triesV ts order atoms) order (len:Int) m atoms out (levV (fLeap ts order atoms) i [[]] 0).1 (levV (fLeap ts order atoms) i [[]] 0).2 (i:Int)=impl_reach__impl_LeapfrogIntersect_L1 N k (triesV ts order atoms) order (len:Int) m atoms out (levV (fLeap ts order atoms) (i+1) [[]] 0).1 (levV (fLeap ts order atoms) (i+1) [[]] 0).2 ((i+1:Nat):Int)
   rw [levV_succ,hw,impl_reach__impl_LeapfrogIntersect_L1,dlt h,cond_true,reachLeap_L2 hN q ha (show i<n by omega) (fun r hr=>by obtain ⟨s,e1,e⟩:=walkV_mem hr;rw [e1];exact e) (by omega) (by omega),bs,lpB,ad1 (by omega)];rfl)
  (fun k=>by
   show impl_reach__impl_LeapfrogIntersect_L1 N (k+1) (triesV ts order atoms) order (len:Int) m atoms out (levV (fLeap ts order atoms) len [[]] 0).1 (levV (fLeap ts order atoms) len [[]] 0).2 (len:Int)=_
   rw [impl_reach__impl_LeapfrogIntersect_L1,dge (by omega),cond_false]) N 0 (by omega) (by omega)
 have h':impl_reach__impl_LeapfrogIntersect_L1 N N (triesV ts order atoms) order (len:Int) m atoms out [[]] 0 0=_:=h
 unfold impl_reach__impl_LeapfrogIntersect
 rw [h',walk_lev,bs,lpB]
theorem l20Walk_eq {ts:List DTable} {n:Nat} {atoms:List QAtom} {out order:List Int} (q:QFor ts n atoms order) (ha:okAtoms atoms) (ho:okI out) (hq:queryOk (n:Int) atoms out=true) :
  ∀ (m:Nat) (M:Nat) (p:List Int),p.length+m=n→1073741824+m+1≤M→spec_l20Walk M (triesV ts order atoms) (n:Int) atoms out order p=some (walkV (fLeap ts order atoms) m p):=by
 have hf:=fLeap_ok q
 have hn5:=q.n5
 have hol:=q.ol
 intro m
 induction m with
 | zero =>
  intro M p hp hM
  obtain ⟨M,rfl⟩:∃ K,M=K+1:=⟨M-1,by omega⟩
  rw [spec_l20Walk,show ((p.length:Int) == (order.length:Int))=true by simp;omega,cond_true,apd_nil (by decide) (by omega),bs];rfl
 | succ m ih =>
  intro M p hp hM
  obtain ⟨M,rfl⟩:∃ K,M=K+1:=⟨M-1,by omega⟩
  have h0:=hf.st0 p;have h1:=hf.st1 p;have hk:=hf.len p
  rw [spec_l20Walk,show ((p.length:Int) == (order.length:Int))=false by simp;omega,cond_false,l20Keys_eq (by omega) q ha ho hq (by omega),bs]
  show ((spec_l20Walk_L1 (spec_l20Walk M) M M (triesV ts order atoms) order p (n:Int) atoms out [] ((fLeap ts order atoms) p).1 ((fLeap ts order atoms) p).2 0).bind _)=_
  have h:=loopI (fun k (s:RowL × Int) i=>spec_l20Walk_L1 (spec_l20Walk M) M k (triesV ts order atoms) order p (n:Int) atoms out s.1 ((fLeap ts order atoms) p).1 s.2 i) ((fLeap ts order atoms) p).1.length (fun i=>((((fLeap ts order atoms) p).1.take i).flatMap (fun v=>(walkV (fLeap ts order atoms) m (p++[v])).1),((fLeap ts order atoms) p).2+((((fLeap ts order atoms) p).1.take i).map fun v=>(walkV (fLeap ts order atoms) m (p++[v])).2).sum)) ((walkV (fLeap ts order atoms) (m+1) p).1,(walkV (fLeap ts order atoms) (m+1) p).2,(((fLeap ts order atoms) p).1.length:Int))
   (fun k i h=>by
    have hp16:16 ^ m≤16 ^ 5:=Nat.pow_le_pow_right (by decide) (by omega)
    have hw:=walkV_len hf m (p++[((fLeap ts order atoms) p).1[i]])
    have hfl:=len_flatMap (g:=fun v=>(walkV (fLeap ts order atoms) m (p++[v])).1) (fun v=>walkV_len hf m _) (((fLeap ts order atoms) p).1.take i)
    have hst:=walkV_st hf m (p++[((fLeap ts order atoms) p).1[i]])
    have hsb:=sum_bd (g:=fun v=>(walkV (fLeap ts order atoms) m (p++[v])).2) (fun v=>(walkV_st hf m _).1) (fun v=>(walkV_st hf m _).2) (((fLeap ts order atoms) p).1.take i)
    have hb:=stepB_le (show m≤5 by omega)
    have hb0:=stepB_0 m
    rw [List.length_take] at hfl hsb
    have hmul:=Nat.mul_le_mul (show min i ((fLeap ts order atoms) p).1.length≤16 by omega) hp16
    have hmul2:((min i ((fLeap ts order atoms) p).1.length:Nat):Int)*stepB m≤16*stepB m:=Int.mul_le_mul_of_nonneg_right (by omega) hb0
    show spec_l20Walk_L1 (spec_l20Walk M) M (k+1) (triesV ts order atoms) order p (n:Int) atoms out ((((fLeap ts order atoms) p).1.take i).flatMap (fun v=>(walkV (fLeap ts order atoms) m (p++[v])).1)) ((fLeap ts order atoms) p).1 (((fLeap ts order atoms) p).2+((((fLeap ts order atoms) p).1.take i).map fun v=>(walkV (fLeap ts order atoms) m (p++[v])).2).sum) (i:Int)=spec_l20Walk_L1 (spec_l20Walk M) M k (triesV ts order atoms) order p (n:Int) atoms out ((((fLeap ts order atoms) p).1.take (i+1)).flatMap (fun v=>(walkV (fLeap ts order atoms) m (p++[v])).1)) ((fLeap ts order atoms) p).1 (((fLeap ts order atoms) p).2+((((fLeap ts order atoms) p).1.take (i+1)).map fun v=>(walkV (fLeap ts order atoms) m (p++[v])).2).sum) ((i+1:Nat):Int)
    rw [spec_l20Walk_L1,dlt h,cond_true,ix_nat h,bs,apd_nil (by decide) (by omega),bs,apd_ok' (by decide) (by simp;omega),bs,ih M (p++[((fLeap ts order atoms) p).1[i]]) (by rw [List.length_append,List.length_singleton];omega) (by omega),bs,apd_ok' (by decide) (by omega),bs,ad_ok (by omega) (by omega),bs,ad1 (by omega),bs,flat_take_s h,sum_take_s h,Int.add_assoc])
   (fun k=>by
    show spec_l20Walk_L1 (spec_l20Walk M) M (k+1) (triesV ts order atoms) order p (n:Int) atoms out ((((fLeap ts order atoms) p).1.take ((fLeap ts order atoms) p).1.length).flatMap (fun v=>(walkV (fLeap ts order atoms) m (p++[v])).1)) ((fLeap ts order atoms) p).1 (((fLeap ts order atoms) p).2+((((fLeap ts order atoms) p).1.take ((fLeap ts order atoms) p).1.length).map fun v=>(walkV (fLeap ts order atoms) m (p++[v])).2).sum) (((fLeap ts order atoms) p).1.length:Int)=_
    rw [spec_l20Walk_L1,dge (by omega),cond_false,List.take_length];rfl) M 0 (by omega) (by omega)
  have h':spec_l20Walk_L1 (spec_l20Walk M) M M (triesV ts order atoms) order p (n:Int) atoms out [] ((fLeap ts order atoms) p).1 (((fLeap ts order atoms) p).2+0) 0=_:=h
  rw [Int.add_zero] at h'
  rw [h',bs,lpB]
end
end Go.Proofs.YtbdnoljojebebaaGreat
namespace Go.Proofs.YtbdnoljojebebaaGreat
open Go.RowKit

def emptyV (ts:List LTrie):Bool:=ts.any fun t=>decide (t.2.length=0)
def okQ (ts:List DTable) (n:Int) (atoms:List QAtom) (out order:List Int):Bool:=queryFor ts n atoms out&&orderOk n atoms out order
abbrev JoinR:=(Int × RowL) × Int × Bool
def noJoin:JoinR:=((0,[]),0,false)
def foundV (k:Int) (w:RowL × Int):JoinR:=bif decide ((w.1.length:Int)≤4000) then ((k,w.1),w.2,true) else noJoin
def lpJoinV (ts:List DTable) (n:Int) (atoms:List QAtom) (out order:List Int):JoinR :=
 bif okQ ts n atoms out order then (bif emptyV (triesV ts order atoms) then ((n,[]),0,true) else foundV n (walkV (fLeap ts order atoms) n.toNat [])) else noJoin
def placesV (out order:List Int):List Int:=out.map (findI order)
def evalV (j:JoinR) (out order:List Int):(Int × RowL) × Bool:=bif j.2.2 then projV j.1.1 j.1.2 (placesV out order) else noRel
theorem walk_rows {f:Nxt} (hf:NxtOk f) {k:Nat} (hk:k≤5):okII (walkV f k []).1∧(∀ r∈(walkV f k []).1,r.length=k∧validVals r=true)∧ascP (walkV f k []).1:=by
 have h1:=walkV_len hf k []
 have hp:16 ^ k≤16 ^ 5:=Nat.pow_le_pow_right (by decide) (by omega)
 have h2:∀ r∈(walkV f k []).1,r.length=k∧validVals r=true:=fun r hr=>by
  obtain ⟨s,e1,e⟩:=walkV_mem hr
  exact ⟨by rw [e1];exact e,walkV_vals hf rfl hr⟩
 exact ⟨⟨by omega,fun r hr=>⟨by have:=(h2 r hr).1;omega,fun _ _=>trivial⟩⟩,h2,walkV_asc hf k []⟩
theorem walk_rel {f:Nxt} (hf:NxtOk f) {k:Nat} (hk:k≤5):newRelV (k:Int) (walkV f k []).1=((foundV k (walkV f k [])).1,(foundV k (walkV f k [])).2.2):=by
 obtain ⟨h1,h2,h3⟩:=walk_rows hf hk
 rw [newRelV_asc (by omega) h1.1 (fun r hr=>by have:=h2 r hr;exact ⟨by omega,this.2⟩) h3]
 unfold foundV
 cases decide (((walkV f k []).1.length:Int)≤4000) <;> rfl
theorem foundV_ok {f:Nxt} (hf:NxtOk f) {k:Nat} (hk:k≤5):okII (foundV k (walkV f k [])).1.2:=by
 unfold foundV
 cases decide (((walkV f k []).1.length:Int)≤4000)
 ·exact ⟨by simp [noJoin],by simp [noJoin]⟩
 ·exact (walk_rows hf hk).1
theorem okQ_q {ts:List DTable} {n:Int} {atoms:List QAtom} {out order:List Int} (h:okQ ts n atoms out order=true):∃ m:Nat,n=(m:Int)∧QFor ts m atoms order∧queryOk n atoms out=true:=by
 unfold okQ at h
 rw [Bool.and_eq_true] at h
 obtain ⟨m,e,q⟩:=tryV_q h.1 h.2
 refine ⟨m,e,q,?_⟩
 have:=h.1
 unfold queryFor at this
 rw [Bool.and_eq_true] at this
 exact this.1
theorem lpJoinV_ok {ts:List DTable} {n:Int} {atoms:List QAtom} {out order:List Int}:okII (lpJoinV ts n atoms out order).1.2:=by
 unfold lpJoinV
 cases h:okQ ts n atoms out order with
 | false=>exact ⟨by simp [noJoin],by simp [noJoin]⟩
 | true =>
  obtain ⟨m,rfl,q,_⟩:=okQ_q h
  cases emptyV (triesV ts order atoms)
  ·exact foundV_ok (fLeap_ok q) q.n5
  ·exact ⟨by simp,by simp⟩
theorem projV_ok {n:Int} {rows:RowL} {cols:List Int} (h:okII rows) (hc:cols.length≤1048576):okII (projV n rows cols).1.2:=by
 unfold projV
 cases validRows n rows&&(decide ((cols.length:Int)≤5)&&colsFit n cols)
 ·exact ⟨by simp [noRel],by simp [noRel]⟩
 ·refine newRelV_ok ⟨by rw [List.length_map];exact h.1,fun r hr=>?_⟩
  obtain ⟨x,_,rfl⟩:=List.mem_map.1 hr
  exact ⟨by rw [pickV_len];exact hc,fun _ _=>trivial⟩
theorem evalV_ok {j:JoinR} {out order:List Int} (h:okII j.1.2) (ho:okI out):okII (evalV j out order).1.2:=by
 unfold evalV
 cases j.2.2
 ·exact ⟨by simp [noRel],by simp [noRel]⟩
 ·exact projV_ok h (by unfold placesV;rw [List.length_map];exact ho.1)
theorem any_not_all {α:Type} (p:α→Bool):∀ xs:List α,(xs.all fun x=>!p x)=!xs.any p
 | []=>rfl
 | x :: xs=>by rw [List.all_cons,List.any_cons,any_not_all p xs,Bool.not_or]
section
variable {N:Nat}
theorem someEmpty_eq (hN:1073741824≤N) {ts:List LTrie} (hl:ts.length≤1048576):impl_someEmpty N ts=some (emptyV ts):=by
 have h:=loopA (L:=fun k i=>impl_someEmpty_L1 N k ts (ts.length:Int) i) ts.length (by omega) true (fun i=>if h:i<ts.length then !decide (ts[i].2.length=0) else true) (ts.length:Int)
  (fun k i h=>by
   show impl_someEmpty_L1 N (k+1) ts (ts.length:Int) (i:Int)=_
   rw [impl_someEmpty_L1,dlt h,cond_true,ix_nat h,bs,show ((ts[i].2.length:Int) == 0)=decide (ts[i].2.length=0) from beq_nat _ 0,ad1 (by omega),bs]
   simp only [dif_pos h]
   cases decide (ts[i].2.length=0) <;> rfl)
  (fun k=>by
   show impl_someEmpty_L1 N (k+1) ts (ts.length:Int) (ts.length:Int)=_
   rw [impl_someEmpty_L1,dge (by omega),cond_false]) N 0 (by omega) (by omega)
 rw [Nat.sub_zero,range_all ts (fun t=>!decide (t.2.length=0)) _ (fun i hi=>by rw [dif_pos hi]),any_not_all] at h
 have h':impl_someEmpty_L1 N N ts (ts.length:Int) 0=some (bif !emptyV ts then .inr (ts.length:Int) else .inl true):=h
 unfold impl_someEmpty
 rw [h',bs]
 cases emptyV ts <;> rfl
theorem l20Empty_eq (hN:1073741824≤N) {ts:List LTrie} (hl:ts.length≤1048576):spec_l20Empty N ts=some (emptyV ts):=by
 have h:=loopA (L:=fun k i=>spec_l20Empty_L1 N k ts i) ts.length (by omega) true (fun i=>if h:i<ts.length then !decide (ts[i].2.length=0) else true) (ts.length:Int)
  (fun k i h=>by
   show spec_l20Empty_L1 N (k+1) ts (i:Int)=_
   rw [spec_l20Empty_L1,dlt h,cond_true,ix_nat h,bs,show ((ts[i].2.length:Int) == 0)=decide (ts[i].2.length=0) from beq_nat _ 0,ad1 (by omega),bs]
   simp only [dif_pos h]
   cases decide (ts[i].2.length=0) <;> rfl)
  (fun k=>by
   show spec_l20Empty_L1 N (k+1) ts (ts.length:Int)=_
   rw [spec_l20Empty_L1,dge (by omega),cond_false]) N 0 (by omega) (by omega)
 rw [Nat.sub_zero,range_all ts (fun t=>!decide (t.2.length=0)) _ (fun i hi=>by rw [dif_pos hi]),any_not_all] at h
 have h':spec_l20Empty_L1 N N ts 0=some (bif !emptyV ts then .inr (ts.length:Int) else .inl true):=h
 unfold spec_l20Empty
 rw [h',bs]
 cases emptyV ts <;> rfl
theorem tryV_okQ (ts:List DTable) (n:Int) (atoms:List QAtom) (out order:List Int):tryV ts n atoms out order=bif okQ ts n atoms out order then (triesV ts order atoms,true) else ([],false):=rfl
theorem LeapfrogJoin_impl_eq (hM:1073742848≤N) {ts:List DTable} {n:Int} {atoms:List QAtom} {out order:List Int} (ht:okDb ts) (ha:okAtoms atoms) (ho:okI out) (hr:okI order):impl_LeapfrogJoin N ts n atoms out order=some (lpJoinV ts n atoms out order):=by
 unfold impl_LeapfrogJoin lpJoinV
 rw [BuildTries_impl_eq hM ht ha ho hr,bs,tryV_okQ]
 cases h:okQ ts n atoms out order with
 | false=>rfl
 | true =>
  obtain ⟨m,rfl,q,_⟩:=okQ_q h
  have h4:=q.a4
  rw [cond_true,cond_true]
  show ((impl_someEmpty N (triesV ts order atoms)).bind _)=_
  rw [someEmpty_eq (by omega) (by rw [triesV_len];omega),bs]
  cases emptyV (triesV ts order atoms) with
  | true=>rfl
  | false =>
   rw [cond_false,cond_false]
   show ((impl_reach__impl_LeapfrogIntersect N (m:Int) atoms out (triesV ts order atoms) order (m:Int)).bind _)=_
   rw [reachLeap_eq (by omega) q ha (Nat.le_refl _),bs]
   unfold foundV
   rw [show ((m:Nat):Int).toNat=m from rfl]
   show (bif decide (((walkV (fLeap ts order atoms) m []).1.length:Int)≤4000) then _ else _)=_
   cases decide (((walkV (fLeap ts order atoms) m []).1.length:Int)≤4000) <;> rfl
theorem LeapfrogJoin_spec_eq (hM:1073742848≤N) {ts:List DTable} {n:Int} {atoms:List QAtom} {out order:List Int} (ht:okDb ts) (ha:okAtoms atoms) (ho:okI out) (hr:okI order):spec_LeapfrogJoin N ts n atoms out order=some (lpJoinV ts n atoms out order):=by
 unfold spec_LeapfrogJoin lpJoinV
 rw [BuildTries_spec_eq hM ht ha ho hr,bs,tryV_okQ]
 cases h:okQ ts n atoms out order with
 | false=>rfl
 | true =>
  obtain ⟨m,rfl,q,hq⟩:=okQ_q h
  have h4:=q.a4
  have h5:=q.n5
  have hol:=q.ol
  rw [cond_true,cond_true]
  show ((spec_l20Empty N (triesV ts order atoms)).bind _)=_
  rw [l20Empty_eq (by omega) (by rw [triesV_len];omega),bs,hol]
  cases emptyV (triesV ts order atoms) with
  | true=>rfl
  | false =>
   obtain ⟨w1,_,_⟩:=walk_rows (fLeap_ok q) h5
   rw [cond_false,cond_false]
   show ((spec_l20Walk N (triesV ts order atoms) (m:Int) atoms out order []).bind _)=_
   rw [l20Walk_eq q ha ho hq m N [] (by simp) (by omega),bs,NewRelation_spec_eq hM w1,bs,walk_rel (fLeap_ok q) h5]
   unfold foundV
   rw [show ((m:Nat):Int).toNat=m from rfl]
   cases decide (((walkV (fLeap ts order atoms) m []).1.length:Int)≤4000) <;> rfl
theorem places_eq (hN:1073741824≤N) {n:Int} {atoms:List QAtom} {out order:List Int} (ho:okI out) (hr:okI order):impl_places N n atoms out order=some (placesV out order):=by
 have hol:=ho.1
 have h:=loopI (fun k (o:List Int) i=>impl_places_L1 N k order o out (out.length:Int) i) out.length (fun i=>placesV (out.take i) order) (placesV out order,(out.length:Int))
  (fun k i h=>by
   show impl_places_L1 N (k+1) order (placesV (out.take i) order) out (out.length:Int) (i:Int)=impl_places_L1 N k order (placesV (out.take (i+1)) order) out (out.length:Int) ((i+1:Nat):Int)
   unfold placesV
   rw [impl_places_L1,dlt h,cond_true,ix_nat h,bs,indexOf_eq hN hr.1,bs,apd_ok' (by decide) (by rw [List.length_map,List.length_take,List.length_singleton];omega),bs,ad1 (by omega),bs,take_map_s h])
  (fun k=>by
   show impl_places_L1 N (k+1) order (placesV (out.take out.length) order) out (out.length:Int) (out.length:Int)=_
   rw [impl_places_L1,dge (by omega),cond_false,List.take_length]) N 0 (by omega) (by omega)
 have h':impl_places_L1 N N order [] out (out.length:Int) 0=_:=h
 unfold impl_places
 rw [h',bs,lpB]
theorem foundV_n {k:Nat} {w:RowL × Int} (h:k≤5):0≤(foundV k w).1.1∧(foundV k w).1.1≤5:=by
 unfold foundV
 cases decide ((w.1.length:Int)≤4000)
 ·exact ⟨Int.le_refl _,by show (0:Int)≤5;decide⟩
 ·show 0≤(k:Int)∧(k:Int)≤5
  omega
theorem lpJoinV_n {ts:List DTable} {n:Int} {atoms:List QAtom} {out order:List Int}:0≤(lpJoinV ts n atoms out order).1.1∧(lpJoinV ts n atoms out order).1.1≤5:=by
 unfold lpJoinV
 cases h:okQ ts n atoms out order with
 | false=>exact ⟨Int.le_refl _,by show (0:Int)≤5;decide⟩
 | true =>
  obtain ⟨m,rfl,q,_⟩:=okQ_q h
  have:=q.n5
  cases emptyV (triesV ts order atoms)
  ·exact foundV_n this
  ·show 0≤(m:Int)∧(m:Int)≤5
   omega
theorem evSLeapfrog_L1 (hN:1073741824≤N) {n b1 b3:Int} {atoms:List QAtom} {out order:List Int} {b2 b4:RowL} (ho:okI out) (hr:okI order):spec_EvaluateByLeapfrog_L1 N N order n atoms out b1 b2 b3 b4 [] 0=some (placesV out order,(out.length:Int)):=by
 have hol:=ho.1
 exact loopI (fun k (o:List Int) i=>spec_EvaluateByLeapfrog_L1 N k order n atoms out b1 b2 b3 b4 o i) out.length (fun i=>placesV (out.take i) order) (placesV out order,(out.length:Int))
  (fun k i h=>by
   show spec_EvaluateByLeapfrog_L1 N (k+1) order n atoms out b1 b2 b3 b4 (placesV (out.take i) order) (i:Int)=spec_EvaluateByLeapfrog_L1 N k order n atoms out b1 b2 b3 b4 (placesV (out.take (i+1)) order) ((i+1:Nat):Int)
   unfold placesV
   rw [spec_EvaluateByLeapfrog_L1,dlt h,cond_true,ix_nat h,bs,l7Find_eq hN hr.1,bs,apd_ok' (by decide) (by rw [List.length_map,List.length_take,List.length_singleton];omega),bs,ad1 (by omega),bs,take_map_s h])
  (fun k=>by
   show spec_EvaluateByLeapfrog_L1 N (k+1) order n atoms out b1 b2 b3 b4 (placesV (out.take out.length) order) (out.length:Int)=_
   rw [spec_EvaluateByLeapfrog_L1,dge (by omega),cond_false,List.take_length]) N 0 (by omega) (by omega)
theorem EvaluateByLeapfrog_impl_eq (hM:1073742848≤N) {ts:List DTable} {n:Int} {atoms:List QAtom} {out order:List Int} (ht:okDb ts) (ha:okAtoms atoms) (ho:okI out) (hr:okI order):impl_EvaluateByLeapfrog N ts n atoms out order=some (evalV (lpJoinV ts n atoms out order) out order):=by
 have hok:=lpJoinV_ok (ts:=ts) (n:=n) (atoms:=atoms) (out:=out) (order:=order)
 unfold impl_EvaluateByLeapfrog evalV
 rw [LeapfrogJoin_impl_eq hM ht ha ho hr,bs]
 cases h:(lpJoinV ts n atoms out order).2.2 with
 | false=>rfl
 | true =>
  rw [cond_true,places_eq (by omega) ho hr,bs,Project_impl_eq hM hok (by unfold placesV;rw [List.length_map];exact ho.1),bs];rfl
theorem EvaluateByLeapfrog_spec_eq (hM:1073742848≤N) {ts:List DTable} {n:Int} {atoms:List QAtom} {out order:List Int} (ht:okDb ts) (ha:okAtoms atoms) (ho:okI out) (hr:okI order):spec_EvaluateByLeapfrog N ts n atoms out order=some (evalV (lpJoinV ts n atoms out order) out order):=by
 have hok:=lpJoinV_ok (ts:=ts) (n:=n) (atoms:=atoms) (out:=out) (order:=order)
 have hn:=lpJoinV_n (ts:=ts) (n:=n) (atoms:=atoms) (out:=out) (order:=order)
 unfold spec_EvaluateByLeapfrog evalV
 rw [LeapfrogJoin_spec_eq hM ht ha ho hr,bs]
 cases h:(lpJoinV ts n atoms out order).2.2 with
 | false=>rfl
 | true =>
  rw [cond_true,evSLeapfrog_L1 (by omega) ho hr,bs,lpB]
  show ((spec_Project N (lpJoinV ts n atoms out order).1.1 (lpJoinV ts n atoms out order).1.2 (placesV out order)).bind _)=_
  rw [Project_spec_eq hM hok (by unfold placesV;rw [List.length_map];exact ho.1) (by omega),bs];rfl
end
end Go.Proofs.YtbdnoljojebebaaGreat
namespace Go.Proofs.YtbdnoljojebebaaGreat
open Go.RowKit
theorem law_FnExactEvaluateByLeapfrog {N:Nat} (hM:1073742848≤N) {x0:List (ByteArray × (Int × List (List Int)))} (hb0:(fun x=>(AllL (fun x=>(fun s=>s.size≤9223372036854775807) x.1∧(fun x=>(AllL (AllL (fun _=>True) 9223372036854775807) 9223372036854775807) x.2) x.2) 9223372036854775807) x) x0) {x1:Int × List (ByteArray × List Int) × List Int} (hb1:(fun x=>(AllL (fun x=>(fun s=>s.size≤9223372036854775807) x.1∧(AllL (fun _=>True) 9223372036854775807) x.2) 9223372036854775807) x.2.1∧(AllL (fun _=>True) 9223372036854775807) x.2.2) x1) {x2:List Int} (hb2:(AllL (fun _=>True) 9223372036854775807) x2):laws_FnExactEvaluateByLeapfrog N x0 x1.1 x1.2.1 x1.2.2 x2=some true:=by
 have hN:1073741824≤N:=by omega
 unfold laws_FnExactEvaluateByLeapfrog
 by_cases hc2:(1048576:Int)<(x2.length:Int)
 ·rw [decide_eq_true hc2];rfl
 rw [decide_eq_false hc2,cond_false]
 have o2:AllL (fun _=>True) 1048576 x2:=⟨by omega,fun _ _=>trivial⟩
 obtain ⟨r0,e0,k0⟩:=sz_Database hN hb0 (l:=1048576) (by omega) (by omega)
 rw [e0,bs]
 by_cases hr0:r0<0
 ·rw [decide_eq_true hr0];rfl
 rw [decide_eq_false hr0,cond_false]
 obtain ⟨o0,m0⟩:=k0 (by omega)
 obtain ⟨r1,e1,k1⟩:=sz_Query hN hb1 (l:=r0) (by omega) (by omega)
 rw [e1,bs]
 by_cases hr1:r1<0
 ·rw [decide_eq_true hr1];rfl
 rw [decide_eq_false hr1,cond_false]
 obtain ⟨o1,m1⟩:=k1 (by omega)
 have hspec:=EvaluateByLeapfrog_spec_eq (n:=x1.1)  hM o0 o1.1 o1.2 o2
 have himpl:=EvaluateByLeapfrog_impl_eq (n:=x1.1)  hM o0 o1.1 o1.2 o2
 obtain ⟨m0,me0,ma0,mb0⟩:=mk_Database hN o0 (k:=1) (by omega) (by omega)
 obtain ⟨m1,me1,ma1,mb1⟩:=mk_Query hN o1 (k:=m0.1) (by omega) (by omega)
 obtain ⟨m2,me2,ma2,mb2,_⟩:=mk_IntS hN o2 (k:=m1.1) (by omega) (by omega)
 have hok0:=evalV_ok (order:=x2) (lpJoinV_ok (ts:=x0) (n:=x1.1) (atoms:=x1.2.1) (out:=x1.2.2) (order:=x2)) o1.2
 obtain ⟨q0,qe0,qa0,qb0,qd0⟩:=mk_Relation (x:=(evalV (lpJoinV x0 x1.1 x1.2.1 x1.2.2 x2) x1.2.2 x2).1) hN hok0 (k:=1) (by omega) (by omega)
 simp only [to_Database hN o0,eq_Database hN o0 o0,to_Query hN o1,eq_Query hN o1 o1,to_IntS hN o2,eq_IntS hN o2 o2,eq_Relation (x:=(evalV (lpJoinV x0 x1.1 x1.2.1 x1.2.2 x2) x1.2.2 x2).1) (y:=(evalV (lpJoinV x0 x1.1 x1.2.1 x1.2.2 x2) x1.2.2 x2).1) hN hok0 hok0,me0,me1,me2,qe0,qd0,decide_eq_false (by omega:¬ m0.1<0),decide_eq_false (by omega:¬ m1.1<0),decide_eq_false (by omega:¬ m2.1<0),decide_eq_false (by omega:¬ q0.1<0),bs,hspec,himpl,bne_self_eq_false,cond_false,cond_true,decide_true,eqS_dec]
end Go.Proofs.YtbdnoljojebebaaGreat
namespace Go.Proofs.YtbdnoljojebebaaGreat
open Go.RowKit
section
variable {P:Program} {n:Nat} {Q Q':Exit→Env→World→Prop} {K:Env→World→Prop} {KQ:Env→Prop} {e:Env} {w w0:World} {c y:Code} {x:Exit} {ops:Array Oper} {rest:List Oper}
variable {d:Nat} {op:Op} {ty:TypeId} {pos:String} {af:Array Edge} {o z1 z2 z3:Operand} {v:Value} {q1:Oper}
theorem dt {p:Prop} [Decidable p] (h:decide p=true):p:=of_decide_eq_true h
theorem sg (h:∀ Q':Exit→Env→World→Prop,(∀ x e w,thn (fun e w=>CW P n y Q e w) Q x e w→Q' x e w)→CW P n c Q' e w):CW P n (.seq c y) Q e w:=cw_seq (cw_gen h)
theorem sR {id:Nat} {l:List Oper} (h:∀ Q':Exit→Env→World→Prop,(∀ x e w,thn (fun e w=>CW P n y Q e w) Q x e w→Q' x e w)→EL P n l.toArray (fun e w=>Q' .normal e w) l e w):CW P n (.seq (.region id l.toArray false) y) Q e w:=cw_seq (cw_gen fun Q' q=>cw_reg (h Q' q))
theorem gn (h:∀ Q':Exit→Env→World→Prop,(∀ x e w,Q x e w→Q' x e w)→CW P n c Q' e w):CW P n c Q e w:=cw_gen h
theorem bg {i:Nat} (h:∀ Q':Exit→Env→World→Prop,(∀ x e w,inb i Q x e w→Q' x e w)→CW P n c Q' e w):CW P n (.block i c) Q e w:=cw_block (cw_gen h)
theorem hq {f:Exit→Env→World→Prop} (h:∀ x e w,f x e w→Q' x e w) (k:f x e w):Q' x e w:=h _ _ _ k
theorem tn (h:∀ x e w,thn K Q x e w→Q' x e w) (k:K e w):Q' .normal e w:=h _ _ _ k
theorem tr (h:∀ x e w,thn K Q x e w→Q' x e w) (k:Q .ret e w):Q' .ret e w:=h _ _ _ k
theorem tx {i:Nat} (h:∀ x e w,thn K Q x e w→Q' x e w) (k:Q (.exit i) e w):Q' (.exit i) e w:=h _ _ _ k
theorem bn {i:Nat} (h:∀ x e w,inb i Q x e w→Q' x e w) (k:Q .normal e w):Q' .normal e w:=h _ _ _ k
theorem br {i:Nat} (h:∀ x e w,inb i Q x e w→Q' x e w) (k:Q .ret e w):Q' .ret e w:=h _ _ _ k
theorem bS {i:Nat} (h:∀ x e w,inb i Q x e w→Q' x e w) (k:Q .normal e w):Q' (.exit i) e w:=h _ _ _ (inb_s k)
theorem en (h:∀ x e w,thn K Q x e w→Q' x e w) (k:K e w):EL P n ops (fun e w=>Q' .normal e w) [] e w:=el_nil (h _ _ _ k)
theorem sn (h:∀ x e w,thn K Q x e w→Q' x e w) (k:K e w):CW P n .skip Q' e w:=cw_skip (h _ _ _ k)
theorem pa (v:Value) (hK:EL P n ops K rest (upd e d v) w) (hx:ev e o=v:=by exact rfl) (hd:d<n:=by decide):EL P n ops K (⟨some d,.assign o,ty,pos,af,none⟩ :: rest) e w:=el_pv (pv_assign hx) hd hK
theorem pm (v:Value) (hK:EL P n ops K rest (upd e d v) w) (hx:ev e o=v:=by exact rfl) (hd:d<n:=by decide):EL P n ops K (⟨some d,.move o,ty,pos,af,none⟩ :: rest) e w:=el_pv (pv_move hx) hd hK
theorem pM (v:Value) (hx:ev e o=v) (hK:EL P n ops K rest (upd e d v) w) (hd:d<n:=by decide):EL P n ops K (⟨some d,.move o,ty,pos,af,none⟩ :: rest) e w:=el_pv (pv_move hx) hd hK
theorem pe (v:Value) (hp:PV P ⟨some d,op,ty,pos,af,none⟩ e w v) (hK:EL P n ops K rest (upd e d v) w) (hd:d<n:=by decide):EL P n ops K (⟨some d,op,ty,pos,af,none⟩ :: rest) e w:=el_pv hp hd hK
theorem qe (v:Value) (hp:PV P ⟨some d,op,ty,pos,af,none⟩ e w v) (hK:QL P n ops w KQ rest (upd e d v)) (hd:d<n:=by decide):QL P n ops w KQ (⟨some d,op,ty,pos,af,none⟩ :: rest) e:=ql_pv hp hd hK
theorem qm (v:Value) (hK:QL P n ops w KQ rest (upd e d v)) (hx:ev e o=v:=by exact rfl) (hd:d<n:=by decide):QL P n ops w KQ (⟨some d,.move o,ty,pos,af,none⟩ :: rest) e:=ql_pv (pv_move hx) hd hK
theorem qM (v:Value) (hx:ev e o=v) (hK:QL P n ops w KQ rest (upd e d v)) (hd:d<n:=by decide):QL P n ops w KQ (⟨some d,.move o,ty,pos,af,none⟩ :: rest) e:=ql_pv (pv_move hx) hd hK
theorem eo {j:Nat} {b b' c:Bool} (hc:c=b) (hK:EL P n ops K rest (upd e d undef) w) (h:yld ops e j=some c:=by exact rfl) (hb:(b == b')=false:=by exact rfl) (hd:d<n:=by decide):EL P n ops K (⟨some d,op,ty,pos,af,some (j,b')⟩ :: rest) e w:=el_off h hc hb hd hK
theorem qo {j:Nat} {b b' c:Bool} (hc:c=b) (hK:QL P n ops w KQ rest (upd e d undef)) (h:yld ops e j=some c:=by exact rfl) (hb:(b == b')=false:=by exact rfl) (hd:d<n:=by decide):QL P n ops w KQ (⟨some d,op,ty,pos,af,some (j,b')⟩ :: rest) e:=ql_off h hc hb hd hK
theorem ei {j:Nat} {b c:Bool} {dst:Option Nat} (hc:c=b) (hK:EL P n ops K (⟨dst,op,ty,pos,af,none⟩ :: rest) e w) (h:yld ops e j=some c:=by exact rfl):EL P n ops K (⟨dst,op,ty,pos,af,some (j,b)⟩ :: rest) e w:=el_on h hc hK
theorem qi {j:Nat} {b c:Bool} {dst:Option Nat} (hc:c=b) (hK:QL P n ops w KQ (⟨dst,op,ty,pos,af,none⟩ :: rest) e) (h:yld ops e j=some c:=by exact rfl):QL P n ops w KQ (⟨dst,op,ty,pos,af,some (j,b)⟩ :: rest) e:=ql_on h hc hK
theorem ct {b:Bool} (hb:b=true) (h:CW P n c Q e w) (hc:ev e o=.bool b:=by exact rfl):CW P n (.cond o c y) Q e w:=cw_cond_t hc hb h
theorem cf {b:Bool} (hb:b=false) (h:CW P n y Q e w) (hc:ev e o=.bool b:=by exact rfl):CW P n (.cond o c y) Q e w:=cw_cond_f hc hb h
theorem rB {a b:Bool} {Γ:List Asn} (h:some a=some b) (hS:Sat w0 w Γ):Ending.returned (.bool a)=.returned (.bool b)∧Ext w0 w:=⟨by rw [Option.some.inj h],hS.below⟩
theorem rI {a b:Int} {Γ:List Asn} (h:some a=some b) (hS:Sat w0 w Γ):Ending.returned (.int .i64 a)=.returned (.int .i64 b)∧Ext w0 w:=⟨by rw [Option.some.inj h],hS.below⟩
abbrev i_ (x:Int):Value:=.int .i64 x
abbrev n_:Value:=.slice none 0 0
theorem ec0 {f:FuncId} {args:Array Operand} {tys:Array TypeId} {vals:Array Value} {Γ:List Asn} (hg:Goes P f) (hc:Calls P f vals w fun x w'=>x=.returned v∧Ext w w') (hv:(args.toList.map (ev e)).toArray=vals) (S:Sat w0 w Γ)
  (hK:∀ w',Ext w w'→Sat w0 w' Γ→EL P n ops K rest (upd e d v) w') (hd:d<n:=by decide):EL P n ops K (⟨some d,.call ⟨.value (.func f),args,tys⟩,ty,pos,af,none⟩ :: rest) e w :=
 el_call hg hc hv hd (by rintro _ w' ⟨rfl,hx⟩;exact ⟨_,rfl,hK w' hx (S.ext hx)⟩)
theorem ec1 {f:FuncId} {args:Array Operand} {tys:Array TypeId} {vals:Array Value} {Γ:List Asn} {G:Value→Value} {A:Value→Asn} (hg:Goes P f) (hc:Calls P f vals w fun x w'=>∃ v,x=.returned (G v)∧Sat w w' [A v]) (hv:(args.toList.map (ev e)).toArray=vals) (S:Sat w0 w Γ)
  (hK:∀ w' v,Ext w w'→Sat w0 w' (A v :: Γ)→EL P n ops K rest (upd e d (G v)) w') (hd:d<n:=by decide):EL P n ops K (⟨some d,.call ⟨.value (.func f),args,tys⟩,ty,pos,af,none⟩ :: rest) e w :=
 el_call hg hc hv hd (by rintro _ w' ⟨v,rfl,S'⟩;exact ⟨_,rfl,hK w' v S'.below (S.call1 S')⟩)
theorem aO {X:List Nat} {C:World→Prop} (i:Nat) {f:Nat} {L:Array Bool} (ho:ops[i]? = some q1)
  (h:EL P n ops (fun e' w'=>(X.contains i=true→C w')∧AL P n ops X C K f (L.setIfInBounds i true) e' w') [q1] e w) (hr:Region.ready .any ops L=[i]:=by kernel_rfl):AL P n ops X C K (f+1) L e w:=al_one i hr ho h
theorem aP {X:List Nat} {C:World→Prop} (v:Value) (i:Nat) {f:Nat} {L:Array Bool} (hi:ops[i]? = some q1) (hdst:q1.dst=some d) (hC:C w)
  (hy:SV P n ops C q1 e v) (hK:AL P n ops X C K f (L.setIfInBounds i true) (upd e d v) w) (hsel:noSel ops=true:=by kernel_rfl) (hdn:d<n:=by decide) (hf:free ops X L i q1=true:=by kernel_rfl) (hr:(Region.ready .any ops L).contains i=true:=by kernel_rfl):AL P n ops X C K (f+1) L e w:=al_p hsel i hi hdst hdn hC hf hr hy hK
theorem ca {α β:Type} {f:α→β} {l:List α} {m:List β} (h:l.map f=m):(l.map f).toArray=m.toArray:=congrArg List.toArray h
end
end Go.Proofs.YtbdnoljojebebaaGreat
namespace Go.Proofs.YtbdnoljojebebaaGreat
open Go.RowKit
abbrev R0_:=sliceR intR 3
abbrev R1_:=tailR R0_ 26
abbrev R2_:=sliceR R0_ 26
abbrev R3_:=pairR strR R0_
abbrev R4_:=pairR intR R2_
abbrev R5_:=sliceR R3_ 92
abbrev R6_:=sliceR R3_ 99
abbrev R7_:=sliceR R4_ 95
abbrev R8_:=pairR strR R4_
abbrev R9_:=sliceR R8_ 89
abbrev R10_:=sliceR R8_ 109
abbrev T0_:=List Int
abbrev T1_:=List T0_
abbrev T2_:=ByteArray × List Int
abbrev T3_:=Int × List T0_
abbrev T4_:=List T2_
abbrev T5_:=List T3_
abbrev T6_:=ByteArray × T3_
abbrev T7_:=List T6_
end Go.Proofs.YtbdnoljojebebaaGreat
namespace Go.Proofs.YtbdnoljojebebaaGreat
open Go.RowKit
set_option maxRecDepth 100000
set_option maxHeartbeats 4000000 in
theorem laws_szIntS_ok {w0:World} {u0:Value} {a0:List Int} {a1:Int} (ha0:R0_.rd w0 [u0] a0) {N:Nat} {r:Int} (F:laws_szIntS N a0 a1=some r): Calls Tryz.prog 38 #[u0,i_ a1] w0 fun e w'=>e=.returned (i_ r)∧Ext w0 w' := by
 unfold laws_szIntS at F;refine calls_E Tryz.func38 rfl rfl (dt rfl) ?_;have S:=Sat.start w0;refine sR fun _ q101=>?_;refine pa (i_ 0) (en q101 ?_);refine sR fun _ q102=>?_;refine pm (i_ a1) (pm u0 (pe (i_ (a0.length:Int)) (pv_len rfl ha0) ?_));obtain ⟨x103,hx103,F⟩:=ob F;refine pe (i_ x103) (pv_sub rfl rfl hx103) (pa (i_ x103) (en q102 ?_));refine sg fun _ q104=>?_;refine sR fun _ q105=>?_;refine pm (i_ x103) (pe (.bool (decide (x103 < 0))) (pv_lss rfl rfl) (en q105 ?_));rcases oif F with ⟨hb106,F⟩|⟨hb106,F⟩
 ·refine ct hb106 ?_;refine sR fun _ q107=>?_;refine pa (i_ (-1)) (en q107 (cw_ret (tr q104 (fin1 rfl rfl ?_))));exact rI F S
 refine cf hb106 (sn q104 ?_);refine sR fun _ q108=>?_;refine pm (i_ x103) (pa (i_ x103) (en q108 (cw_ret (fin1 rfl rfl ?_))));exact rI F S
set_option maxHeartbeats 4000000 in
theorem laws_szIntSS_ok {w0:World} {u0:Value} {a0:List T0_} {a1:Int} (ha0:R2_.rd w0 [u0] a0) {N:Nat} {r:Int} (F:laws_szIntSS N a0 a1=some r): Calls Tryz.prog 131 #[u0,i_ a1] w0 fun e w'=>e=.returned (i_ r)∧Ext w0 w' := by
 unfold laws_szIntSS at F;refine calls_E Tryz.func131 rfl rfl (dt rfl) ?_;have S:=Sat.start w0;refine sR fun _ q101=>?_;refine pa (i_ 0) (en q101 ?_);refine sR fun _ q102=>?_;refine pm (i_ a1) (pm u0 (pe (i_ (a0.length:Int)) (pv_len rfl ha0) ?_));obtain ⟨x103,hx103,F⟩:=ob F;refine pe (i_ x103) (pv_sub rfl rfl hx103) (pa (i_ x103) (en q102 ?_));refine sg fun _ q104=>?_;refine sR fun _ q105=>?_;refine pm (i_ x103) (pe (.bool (decide (x103 < 0))) (pv_lss rfl rfl) (en q105 ?_));rcases oif F with ⟨hb106,F⟩|⟨hb106,F⟩
 ·refine ct hb106 ?_;refine sR fun _ q107=>?_;refine pa (i_ (-1)) (en q107 (cw_ret (tr q104 (fin1 rfl rfl ?_))));exact rI F S
 refine cf hb106 (sn q104 ?_);refine sg fun _ q108=>?_;refine sR fun _ q109=>?_;refine pa (i_ 0) (en q109 ?_);refine bg fun _ q110=>?_;obtain ⟨s111,hL,hK112⟩:=ob F;refine cw_loopS (fun k e w=>∃ (x113:Int),∃ (x114:Int),e 0=u0∧e 1=i_ x113∧e 5=i_ x114∧Sat w0 w []∧laws_szIntSS_L1 N k a0 x113 x114=some s111) N ?_ ?_ ?_
 ·exact ⟨x103,0,rfl,rfl,rfl,S,hL⟩
 ·rintro e w ⟨_,_,_,_,_,_,hz⟩; exact nomatch (show none=some _ from hz)
 rintro k e119 w118 ⟨x113,x114,he115,he116,he117,S,F⟩;refine gn fun _ q120=>?_;refine sg fun _ q121=>?_;refine sR fun _ q122=>?_;refine pM (i_ x114) he117 (pM u0 he115 (pe (i_ (a0.length:Int)) (pv_len rfl ha0) (pe (.bool (decide (x114 < (a0.length:Int)))) (pv_lss rfl rfl) (en q122 ?_))));rcases oif F with ⟨hb123,F⟩|⟨hb123,F⟩
 ·refine ct hb123 (sn q121 ?_);refine sg fun _ q124=>?_;refine bg fun _ q125=>?_;refine sR fun _ q126=>?_;refine pM u0 he115 (pM (i_ x114) he117 ?_);obtain ⟨x127,hx127,F⟩:=ob F;refine el_index (wA:=w0) rfl ha0 rfl (dt rfl) rfl hx127 (dt rfl) ?_;intro b128 of129 c130 hr131 hm132;obtain ⟨v133,rfl⟩:=slice_one hr131;refine pe v133 (pv_loadc rfl ((cells_up S.below hm132) 0 _ rfl)) (pM (i_ x113) he116 ?_);obtain ⟨r134,hr134,F⟩:=ob F;refine ec0 goes38 (laws_szIntS_ok (S.up hr131) hr134) (ca (mapc rfl (mapc rfl rfl))) S fun w135 hx136 S=>?_;refine pa (i_ r134) (en q126 ?_);refine sR fun _ q137=>?_;refine pm (i_ r134) (pe (.bool (decide (r134 < 0))) (pv_lss rfl rfl) (en q137 ?_));rcases oif F with ⟨hb138,F⟩|⟨hb138,F⟩
  ·refine ct hb138 ?_;refine sR fun _ q139=>?_;refine pa (i_ (-1)) (en q139 (cw_ret (br q125 (tr q124 (tr q120 (br q110 (tr q108 ?_)))))));replace F:=exL F hK112;refine fin1 rfl rfl ?_;exact rI F S
  refine cf hb138 (cw_skip (bn q125 (tn q124 (cw_reg (pM (i_ x114) he117 ?_)))));obtain ⟨x140,hx140,F⟩:=ob F;refine pe (i_ x140) (pv_add rfl rfl hx140) (pa (i_ x140) (en q120 ?_));replace S:=S.keep 0;exact ⟨r134,x140,he115,rfl,rfl,S,F⟩
 refine cf hb123 (cw_exit (tx q121 (tx q120 ?_)));replace F:=exA F hK112;refine bS q110 (tn q108 ?_);refine sR fun _ q141=>?_;refine pM (i_ x113) he116 (pa (i_ x113) (en q141 (cw_ret (fin1 rfl rfl ?_))));exact rI F S
set_option maxHeartbeats 4000000 in
theorem laws_szRelation_ok {w0:World} {a0:Int} {u1:Value} {a1:List T0_} {a2:Int} (ha1:R2_.rd w0 [u1] a1) {N:Nat} {r:Int} (F:laws_szRelation N a0 a1 a2=some r): Calls Tryz.prog 105 #[.agg #[i_ a0,u1],i_ a2] w0 fun e w'=>e=.returned (i_ r)∧Ext w0 w' := by
 unfold laws_szRelation at F;refine calls_E Tryz.func105 rfl rfl (dt rfl) ?_;have S:=Sat.start w0;refine sR fun _ q101=>?_;refine el_box [i_ a0,u1] rfl S (dt rfl) ?_;intro w102 b103 S hx104;refine pa (i_ 0) (en q101 ?_);refine sR fun _ q106=>?_;refine pe (.pointer (some ⟨b103,0 + 1,none⟩)) (pv_fieldAddr rfl) (pe u1 (pv_loadc rfl ((S.boxAt 0 rfl) 1 _ rfl)) (pm (i_ a2) ?_));obtain ⟨r107,hr107,F⟩:=ob F;refine ec0 goes131 (laws_szIntSS_ok (S.up ha1) hr107) (ca (mapc rfl (mapc rfl rfl))) S fun w108 hx109 S=>?_;refine pa (i_ r107) (en q106 ?_);refine sg fun _ q110=>?_;refine sg fun _ q111=>?_;replace S:Sat w0 w108 []:=S.rems 1 [0] rfl;refine cw_reg (pm (i_ r107) (pe (.bool (decide (r107 < 0))) (pv_lss rfl rfl) (en q111 ?_)));rcases oif F with ⟨hb112,F⟩|⟨hb112,F⟩
 ·refine ct hb112 ?_;refine sR fun _ q113=>?_;refine pa (i_ (-1)) (en q113 (cw_ret (tr q110 (fin1 rfl rfl ?_))));exact rI F S
 refine cf hb112 (sn q110 ?_);refine sR fun _ q114=>?_;refine pm (i_ r107) (pa (i_ r107) (en q114 (cw_ret (fin1 rfl rfl ?_))));exact rI F S
set_option maxHeartbeats 4000000 in
theorem laws_szTable_ok {w0:World} {a0:ByteArray} {a1:Int} {u2:Value} {a2:List T0_} {a3:Int} (_:a0.size ≤ 9223372036854775807) (ha2:R2_.rd w0 [u2] a2) {N:Nat} {r:Int} (F:laws_szTable N a0 a1 a2 a3=some r): Calls Tryz.prog 66 #[.agg #[.string a0,i_ a1,u2],i_ a3] w0 fun e w'=>e=.returned (i_ r)∧Ext w0 w' := by
 unfold laws_szTable at F;refine calls_E Tryz.func66 rfl rfl (dt rfl) ?_;have S:=Sat.start w0;refine sR fun _ q101=>?_;refine el_box [.string a0,i_ a1,u2] rfl S (dt rfl) ?_;intro w102 b103 S hx104;refine pa (i_ 0) (en q101 ?_);refine sR fun _ q106=>?_;refine pm (i_ a3) (pe (.pointer (some ⟨b103,0 + 0,none⟩)) (pv_fieldAddr rfl) (pe (.string a0) (pv_loadc rfl ((S.boxAt 0 rfl) 0 _ rfl)) (pe (i_ (a0.size:Int)) (pv_lenS Tryz.underlying9 rfl) ?_)));obtain ⟨x107,hx107,F⟩:=ob F;refine pe (i_ x107) (pv_sub rfl rfl hx107) (pa (i_ x107) (en q106 ?_));refine sg fun _ q108=>?_;refine sR fun _ q109=>?_;refine pm (i_ x107) (pe (.bool (decide (x107 < 0))) (pv_lss rfl rfl) (en q109 ?_));rcases oif F with ⟨hb110,F⟩|⟨hb110,F⟩
 ·refine ct hb110 ?_;refine sg fun _ q111=>?_;replace S:Sat w0 w102 []:=S.rems 1 [0] rfl;refine cw_reg (pa (i_ (-1)) (en q111 (cw_ret (tr q108 (fin1 rfl rfl ?_)))));exact rI F S
 refine cf hb110 (sn q108 ?_);refine sR fun _ q112=>?_;refine pe (.pointer (some ⟨b103,0 + 1,none⟩)) (pv_fieldAddr rfl) (pe (.agg #[i_ a1,u2]) (pv_loada (cs:=[i_ a1,u2]) rfl rfl (boxc (S.boxAt 0 rfl) 1 2)) (pm (i_ x107) ?_));obtain ⟨r113,hr113,F⟩:=ob F;refine ec0 goes105 (laws_szRelation_ok (S.up ha2) hr113) (ca (mapc rfl (mapc rfl rfl))) S fun w114 hx115 S=>?_;refine pa (i_ r113) (en q112 ?_);refine sg fun _ q116=>?_;refine sg fun _ q117=>?_;replace S:Sat w0 w114 []:=S.rems 1 [0] rfl;refine cw_reg (pm (i_ r113) (pe (.bool (decide (r113 < 0))) (pv_lss rfl rfl) (en q117 ?_)));rcases oif F with ⟨hb118,F⟩|⟨hb118,F⟩
 ·refine ct hb118 ?_;refine sR fun _ q119=>?_;refine pa (i_ (-1)) (en q119 (cw_ret (tr q116 (fin1 rfl rfl ?_))));exact rI F S
 refine cf hb118 (sn q116 ?_);refine sR fun _ q120=>?_;refine pm (i_ r113) (pa (i_ r113) (en q120 (cw_ret (fin1 rfl rfl ?_))));exact rI F S
set_option maxHeartbeats 4000000 in
theorem laws_szTableS_ok {w0:World} {u0:Value} {a0:List T6_} {a1:Int} (ha0:R9_.rd w0 [u0] a0) {N:Nat} {r:Int} (F:laws_szTableS N a0 a1=some r): Calls Tryz.prog 36 #[u0,i_ a1] w0 fun e w'=>e=.returned (i_ r)∧Ext w0 w' := by
 unfold laws_szTableS at F;refine calls_E Tryz.func36 rfl rfl (dt rfl) ?_;have S:=Sat.start w0;refine sR fun _ q101=>?_;refine pa (i_ 0) (en q101 ?_);refine sR fun _ q102=>?_;refine pm (i_ a1) (pm u0 (pe (i_ (a0.length:Int)) (pv_len rfl ha0) ?_));obtain ⟨x103,hx103,F⟩:=ob F;refine pe (i_ x103) (pv_sub rfl rfl hx103) (pa (i_ x103) (en q102 ?_));refine sg fun _ q104=>?_;refine sR fun _ q105=>?_;refine pm (i_ x103) (pe (.bool (decide (x103 < 0))) (pv_lss rfl rfl) (en q105 ?_));rcases oif F with ⟨hb106,F⟩|⟨hb106,F⟩
 ·refine ct hb106 ?_;refine sR fun _ q107=>?_;refine pa (i_ (-1)) (en q107 (cw_ret (tr q104 (fin1 rfl rfl ?_))));exact rI F S
 refine cf hb106 (sn q104 ?_);refine sg fun _ q108=>?_;refine sR fun _ q109=>?_;refine pa (i_ 0) (en q109 ?_);refine bg fun _ q110=>?_;obtain ⟨s111,hL,hK112⟩:=ob F;refine cw_loopS (fun k e w=>∃ (x113:Int),∃ (x114:Int),e 0=u0∧e 1=i_ x113∧e 5=i_ x114∧Sat w0 w []∧laws_szTableS_L1 N k a0 x113 x114=some s111) N ?_ ?_ ?_
 ·exact ⟨x103,0,rfl,rfl,rfl,S,hL⟩
 ·rintro e w ⟨_,_,_,_,_,_,hz⟩; exact nomatch (show none=some _ from hz)
 rintro k e119 w118 ⟨x113,x114,he115,he116,he117,S,F⟩;refine gn fun _ q120=>?_;refine sg fun _ q121=>?_;refine sR fun _ q122=>?_;refine pM (i_ x114) he117 (pM u0 he115 (pe (i_ (a0.length:Int)) (pv_len rfl ha0) (pe (.bool (decide (x114 < (a0.length:Int)))) (pv_lss rfl rfl) (en q122 ?_))));rcases oif F with ⟨hb123,F⟩|⟨hb123,F⟩
 ·refine ct hb123 (sn q121 ?_);refine sg fun _ q124=>?_;refine bg fun _ q125=>?_;refine sR fun _ q126=>?_;refine pM u0 he115 (pM (i_ x114) he117 ?_);obtain ⟨x127,hx127,F⟩:=ob F;refine el_index (wA:=w0) rfl ha0 rfl (dt rfl) rfl hx127 (dt rfl) ?_;intro b128 of129 c130 hr131 hm132;obtain ⟨_,_,rfl,hr133,hr134⟩:=hr131;obtain ⟨rfl,hz135⟩:=hr133;obtain ⟨_,_,rfl,hr136,hr137⟩:=hr134;obtain rfl:=hr136;obtain ⟨v138,rfl⟩:=slice_one hr137;refine pe (.agg #[.string x127.1,i_ x127.2.1,v138]) (pv_loada (cs:=[.string x127.1,i_ x127.2.1,v138]) rfl rfl (cells_up S.below hm132)) (pM (i_ x113) he116 ?_);obtain ⟨r139,hr139,F⟩:=ob F;refine ec0 goes66 (laws_szTable_ok hz135 (S.up hr137) hr139) (ca (mapc rfl (mapc rfl rfl))) S fun w140 hx141 S=>?_;refine pa (i_ r139) (en q126 ?_);refine sR fun _ q142=>?_;refine pm (i_ r139) (pe (.bool (decide (r139 < 0))) (pv_lss rfl rfl) (en q142 ?_));rcases oif F with ⟨hb143,F⟩|⟨hb143,F⟩
  ·refine ct hb143 ?_;refine sR fun _ q144=>?_;refine pa (i_ (-1)) (en q144 (cw_ret (br q125 (tr q124 (tr q120 (br q110 (tr q108 ?_)))))));replace F:=exL F hK112;refine fin1 rfl rfl ?_;exact rI F S
  refine cf hb143 (cw_skip (bn q125 (tn q124 (cw_reg (pM (i_ x114) he117 ?_)))));obtain ⟨x145,hx145,F⟩:=ob F;refine pe (i_ x145) (pv_add rfl rfl hx145) (pa (i_ x145) (en q120 ?_));replace S:=S.keep 0;exact ⟨r139,x145,he115,rfl,rfl,S,F⟩
 refine cf hb123 (cw_exit (tx q121 (tx q120 ?_)));replace F:=exA F hK112;refine bS q110 (tn q108 ?_);refine sR fun _ q146=>?_;refine pM (i_ x113) he116 (pa (i_ x113) (en q146 (cw_ret (fin1 rfl rfl ?_))));exact rI F S
set_option maxHeartbeats 4000000 in
theorem laws_szDatabase_ok {w0:World} {u0:Value} {a0:List T6_} {a1:Int} (ha0:R9_.rd w0 [u0] a0) {N:Nat} {r:Int} (F:laws_szDatabase N a0 a1=some r): Calls Tryz.prog 9 #[.agg #[u0],i_ a1] w0 fun e w'=>e=.returned (i_ r)∧Ext w0 w' := by
 unfold laws_szDatabase at F;refine calls_E Tryz.func9 rfl rfl (dt rfl) ?_;have S:=Sat.start w0;refine sR fun _ q101=>?_;refine el_box [u0] rfl S (dt rfl) ?_;intro w102 b103 S hx104;refine pa (i_ 0) (en q101 ?_);refine sR fun _ q106=>?_;refine pe (.pointer (some ⟨b103,0 + 0,none⟩)) (pv_fieldAddr rfl) (pe u0 (pv_loadc rfl ((S.boxAt 0 rfl) 0 _ rfl)) (pm (i_ a1) ?_));obtain ⟨r107,hr107,F⟩:=ob F;refine ec0 goes36 (laws_szTableS_ok (S.up ha0) hr107) (ca (mapc rfl (mapc rfl rfl))) S fun w108 hx109 S=>?_;refine pa (i_ r107) (en q106 ?_);refine sg fun _ q110=>?_;refine sg fun _ q111=>?_;replace S:Sat w0 w108 []:=S.rems 1 [0] rfl;refine cw_reg (pm (i_ r107) (pe (.bool (decide (r107 < 0))) (pv_lss rfl rfl) (en q111 ?_)));rcases oif F with ⟨hb112,F⟩|⟨hb112,F⟩
 ·refine ct hb112 ?_;refine sR fun _ q113=>?_;refine pa (i_ (-1)) (en q113 (cw_ret (tr q110 (fin1 rfl rfl ?_))));exact rI F S
 refine cf hb112 (sn q110 ?_);refine sR fun _ q114=>?_;refine pm (i_ r107) (pa (i_ r107) (en q114 (cw_ret (fin1 rfl rfl ?_))));exact rI F S
set_option maxHeartbeats 4000000 in
theorem laws_szAtom_ok {w0:World} {a0:ByteArray} {u1:Value} {a1:List Int} {a2:Int} (_:a0.size ≤ 9223372036854775807) (ha1:R0_.rd w0 [u1] a1) {N:Nat} {r:Int} (F:laws_szAtom N a0 a1 a2=some r): Calls Tryz.prog 67 #[.agg #[.string a0,u1],i_ a2] w0 fun e w'=>e=.returned (i_ r)∧Ext w0 w' := by
 unfold laws_szAtom at F;refine calls_E Tryz.func67 rfl rfl (dt rfl) ?_;have S:=Sat.start w0;refine sR fun _ q101=>?_;refine el_box [.string a0,u1] rfl S (dt rfl) ?_;intro w102 b103 S hx104;refine pa (i_ 0) (en q101 ?_);refine sR fun _ q106=>?_;refine pm (i_ a2) (pe (.pointer (some ⟨b103,0 + 0,none⟩)) (pv_fieldAddr rfl) (pe (.string a0) (pv_loadc rfl ((S.boxAt 0 rfl) 0 _ rfl)) (pe (i_ (a0.size:Int)) (pv_lenS Tryz.underlying9 rfl) ?_)));obtain ⟨x107,hx107,F⟩:=ob F;refine pe (i_ x107) (pv_sub rfl rfl hx107) (pa (i_ x107) (en q106 ?_));refine sg fun _ q108=>?_;refine sR fun _ q109=>?_;refine pm (i_ x107) (pe (.bool (decide (x107 < 0))) (pv_lss rfl rfl) (en q109 ?_));rcases oif F with ⟨hb110,F⟩|⟨hb110,F⟩
 ·refine ct hb110 ?_;refine sg fun _ q111=>?_;replace S:Sat w0 w102 []:=S.rems 1 [0] rfl;refine cw_reg (pa (i_ (-1)) (en q111 (cw_ret (tr q108 (fin1 rfl rfl ?_)))));exact rI F S
 refine cf hb110 (sn q108 ?_);refine sR fun _ q112=>?_;refine pe (.pointer (some ⟨b103,0 + 1,none⟩)) (pv_fieldAddr rfl) (pe u1 (pv_loadc rfl ((S.boxAt 0 rfl) 1 _ rfl)) (pm (i_ x107) ?_));obtain ⟨r113,hr113,F⟩:=ob F;refine ec0 goes38 (laws_szIntS_ok (S.up ha1) hr113) (ca (mapc rfl (mapc rfl rfl))) S fun w114 hx115 S=>?_;refine pa (i_ r113) (en q112 ?_);refine sg fun _ q116=>?_;refine sg fun _ q117=>?_;replace S:Sat w0 w114 []:=S.rems 1 [0] rfl;refine cw_reg (pm (i_ r113) (pe (.bool (decide (r113 < 0))) (pv_lss rfl rfl) (en q117 ?_)));rcases oif F with ⟨hb118,F⟩|⟨hb118,F⟩
 ·refine ct hb118 ?_;refine sR fun _ q119=>?_;refine pa (i_ (-1)) (en q119 (cw_ret (tr q116 (fin1 rfl rfl ?_))));exact rI F S
 refine cf hb118 (sn q116 ?_);refine sR fun _ q120=>?_;refine pm (i_ r113) (pa (i_ r113) (en q120 (cw_ret (fin1 rfl rfl ?_))));exact rI F S
set_option maxHeartbeats 4000000 in
theorem laws_szAtomS_ok {w0:World} {u0:Value} {a0:List T2_} {a1:Int} (ha0:R5_.rd w0 [u0] a0) {N:Nat} {r:Int} (F:laws_szAtomS N a0 a1=some r): Calls Tryz.prog 37 #[u0,i_ a1] w0 fun e w'=>e=.returned (i_ r)∧Ext w0 w' := by
 unfold laws_szAtomS at F;refine calls_E Tryz.func37 rfl rfl (dt rfl) ?_;have S:=Sat.start w0;refine sR fun _ q101=>?_;refine pa (i_ 0) (en q101 ?_);refine sR fun _ q102=>?_;refine pm (i_ a1) (pm u0 (pe (i_ (a0.length:Int)) (pv_len rfl ha0) ?_));obtain ⟨x103,hx103,F⟩:=ob F;refine pe (i_ x103) (pv_sub rfl rfl hx103) (pa (i_ x103) (en q102 ?_));refine sg fun _ q104=>?_;refine sR fun _ q105=>?_;refine pm (i_ x103) (pe (.bool (decide (x103 < 0))) (pv_lss rfl rfl) (en q105 ?_));rcases oif F with ⟨hb106,F⟩|⟨hb106,F⟩
 ·refine ct hb106 ?_;refine sR fun _ q107=>?_;refine pa (i_ (-1)) (en q107 (cw_ret (tr q104 (fin1 rfl rfl ?_))));exact rI F S
 refine cf hb106 (sn q104 ?_);refine sg fun _ q108=>?_;refine sR fun _ q109=>?_;refine pa (i_ 0) (en q109 ?_);refine bg fun _ q110=>?_;obtain ⟨s111,hL,hK112⟩:=ob F;refine cw_loopS (fun k e w=>∃ (x113:Int),∃ (x114:Int),e 0=u0∧e 1=i_ x113∧e 5=i_ x114∧Sat w0 w []∧laws_szAtomS_L1 N k a0 x113 x114=some s111) N ?_ ?_ ?_
 ·exact ⟨x103,0,rfl,rfl,rfl,S,hL⟩
 ·rintro e w ⟨_,_,_,_,_,_,hz⟩; exact nomatch (show none=some _ from hz)
 rintro k e119 w118 ⟨x113,x114,he115,he116,he117,S,F⟩;refine gn fun _ q120=>?_;refine sg fun _ q121=>?_;refine sR fun _ q122=>?_;refine pM (i_ x114) he117 (pM u0 he115 (pe (i_ (a0.length:Int)) (pv_len rfl ha0) (pe (.bool (decide (x114 < (a0.length:Int)))) (pv_lss rfl rfl) (en q122 ?_))));rcases oif F with ⟨hb123,F⟩|⟨hb123,F⟩
 ·refine ct hb123 (sn q121 ?_);refine sg fun _ q124=>?_;refine bg fun _ q125=>?_;refine sR fun _ q126=>?_;refine pM u0 he115 (pM (i_ x114) he117 ?_);obtain ⟨x127,hx127,F⟩:=ob F;refine el_index (wA:=w0) rfl ha0 rfl (dt rfl) rfl hx127 (dt rfl) ?_;intro b128 of129 c130 hr131 hm132;obtain ⟨_,_,rfl,hr133,hr134⟩:=hr131;obtain ⟨rfl,hz135⟩:=hr133;obtain ⟨v136,rfl⟩:=slice_one hr134;refine pe (.agg #[.string x127.1,v136]) (pv_loada (cs:=[.string x127.1,v136]) rfl rfl (cells_up S.below hm132)) (pM (i_ x113) he116 ?_);obtain ⟨r137,hr137,F⟩:=ob F;refine ec0 goes67 (laws_szAtom_ok hz135 (S.up hr134) hr137) (ca (mapc rfl (mapc rfl rfl))) S fun w138 hx139 S=>?_;refine pa (i_ r137) (en q126 ?_);refine sR fun _ q140=>?_;refine pm (i_ r137) (pe (.bool (decide (r137 < 0))) (pv_lss rfl rfl) (en q140 ?_));rcases oif F with ⟨hb141,F⟩|⟨hb141,F⟩
  ·refine ct hb141 ?_;refine sR fun _ q142=>?_;refine pa (i_ (-1)) (en q142 (cw_ret (br q125 (tr q124 (tr q120 (br q110 (tr q108 ?_)))))));replace F:=exL F hK112;refine fin1 rfl rfl ?_;exact rI F S
  refine cf hb141 (cw_skip (bn q125 (tn q124 (cw_reg (pM (i_ x114) he117 ?_)))));obtain ⟨x143,hx143,F⟩:=ob F;refine pe (i_ x143) (pv_add rfl rfl hx143) (pa (i_ x143) (en q120 ?_));replace S:=S.keep 0;exact ⟨r137,x143,he115,rfl,rfl,S,F⟩
 refine cf hb123 (cw_exit (tx q121 (tx q120 ?_)));replace F:=exA F hK112;refine bS q110 (tn q108 ?_);refine sR fun _ q144=>?_;refine pM (i_ x113) he116 (pa (i_ x113) (en q144 (cw_ret (fin1 rfl rfl ?_))));exact rI F S
set_option maxHeartbeats 4000000 in
theorem laws_szQuery_ok {w0:World} {a0:Int} {u1:Value} {a1:List T2_} {u2:Value} {a2:List Int} {a3:Int} (ha1:R5_.rd w0 [u1] a1) (ha2:R0_.rd w0 [u2] a2) {N:Nat} {r:Int} (F:laws_szQuery N a0 a1 a2 a3=some r): Calls Tryz.prog 10 #[.agg #[i_ a0,u1,u2],i_ a3] w0 fun e w'=>e=.returned (i_ r)∧Ext w0 w' := by
 unfold laws_szQuery at F;refine calls_E Tryz.func10 rfl rfl (dt rfl) ?_;have S:=Sat.start w0;refine sR fun _ q101=>?_;refine el_box [i_ a0,u1,u2] rfl S (dt rfl) ?_;intro w102 b103 S hx104;refine pa (i_ 0) (en q101 ?_);refine sR fun _ q106=>?_;refine pe (.pointer (some ⟨b103,0 + 1,none⟩)) (pv_fieldAddr rfl) (pe u1 (pv_loadc rfl ((S.boxAt 0 rfl) 1 _ rfl)) (pm (i_ a3) ?_));obtain ⟨r107,hr107,F⟩:=ob F;refine ec0 goes37 (laws_szAtomS_ok (S.up ha1) hr107) (ca (mapc rfl (mapc rfl rfl))) S fun w108 hx109 S=>?_;refine pa (i_ r107) (en q106 ?_);refine sg fun _ q110=>?_;refine sR fun _ q111=>?_;refine pm (i_ r107) (pe (.bool (decide (r107 < 0))) (pv_lss rfl rfl) (en q111 ?_));rcases oif F with ⟨hb112,F⟩|⟨hb112,F⟩
 ·refine ct hb112 ?_;refine sg fun _ q113=>?_;replace S:Sat w0 w108 []:=S.rems 1 [0] rfl;refine cw_reg (pa (i_ (-1)) (en q113 (cw_ret (tr q110 (fin1 rfl rfl ?_)))));exact rI F S
 refine cf hb112 (sn q110 ?_);refine sR fun _ q114=>?_;refine pe (.pointer (some ⟨b103,0 + 2,none⟩)) (pv_fieldAddr rfl) (pe u2 (pv_loadc rfl ((S.boxAt 0 rfl) 2 _ rfl)) (pm (i_ r107) ?_));obtain ⟨r115,hr115,F⟩:=ob F;refine ec0 goes38 (laws_szIntS_ok (S.up ha2) hr115) (ca (mapc rfl (mapc rfl rfl))) S fun w116 hx117 S=>?_;refine pa (i_ r115) (en q114 ?_);refine sg fun _ q118=>?_;refine sg fun _ q119=>?_;replace S:Sat w0 w116 []:=S.rems 1 [0] rfl;refine cw_reg (pm (i_ r115) (pe (.bool (decide (r115 < 0))) (pv_lss rfl rfl) (en q119 ?_)));rcases oif F with ⟨hb120,F⟩|⟨hb120,F⟩
 ·refine ct hb120 ?_;refine sR fun _ q121=>?_;refine pa (i_ (-1)) (en q121 (cw_ret (tr q118 (fin1 rfl rfl ?_))));exact rI F S
 refine cf hb120 (sn q118 ?_);refine sR fun _ q122=>?_;refine pm (i_ r115) (pa (i_ r115) (en q122 (cw_ret (fin1 rfl rfl ?_))));exact rI F S
set_option maxHeartbeats 4000000 in
theorem spec_l5Copy_ok {w0:World} {a0:Int} {u1:Value} {a1:List T0_} (ha1:R2_.rd w0 [u1] a1) {N:Nat} {r:Int × List T0_} (F:spec_l5Copy N a0 a1=some r): Calls Tryz.prog 78 #[.agg #[i_ a0,u1]] w0 fun e w'=>∃ (q0:Value),e=.returned (.agg #[i_ r.1,q0])∧Sat w0 w' [Own R2_ [q0] r.2] := by
 unfold spec_l5Copy at F;refine calls_E Tryz.func78 rfl rfl (dt rfl) ?_;have S:=Sat.start w0;refine sR fun _ q101=>?_;refine el_box [i_ a0,u1] rfl S (dt rfl) ?_;intro w102 b103 S hx104;refine el_alloc S (dt rfl) ?_;intro w106 b107 S hx108;refine en q101 ?_;refine sR fun _ q110=>?_;refine pe (.pointer (some ⟨b103,0 + 0,none⟩)) (pv_fieldAddr rfl) (pe (i_ a0) (pv_loadc rfl ((S.boxAt 1 rfl) 0 _ rfl)) (pe (.agg #[i_ a0,n_]) (pv_build [(0,[i_ a0])] [i_ a0,n_] (partc rfl rfl) rfl) ?_));refine el_alloc S (dt rfl) ?_;intro w111 b112 S hx113;refine el_storev (S.top 0 rfl) rfl [i_ a0,n_] rfl rfl (dt rfl) (all_cons rfl (all_cons rfl rfl)) ?_;intro w115 S;replace S:Sat w0 w115 [Box b112 33 [i_ a0,n_],Box b107 33 [i_ 0,n_],Box b103 33 [i_ a0,u1]]:=S;refine en q110 ?_;refine sg fun _ q116=>?_;refine sR fun _ q117=>?_;refine pa (i_ 0) (en q117 ?_);refine bg fun _ q118=>?_;replace S:=S.nil R0_ 26;obtain ⟨s120,hL,hK121⟩:=ob F;refine cw_loopS (fun k e w=>∃ (v123:Value),∃ (x122:List T0_),∃ (x124:Int),e 1=.pointer (some ⟨b103,0,none⟩)∧e 2=.pointer (some ⟨b107,0,none⟩)∧e 3=.pointer (some ⟨b112,0,none⟩)∧e 4=i_ x124∧Sat w0 w [Own R2_ [v123] x122,Box b112 33 [i_ a0,v123],Box b107 33 [i_ 0,n_],Box b103 33 [i_ a0,u1]]∧spec_l5Copy_L1 N k a0 a1 0 [] a0 x122 x124=some s120) N ?_ ?_ ?_
 ·exact ⟨n_,[],0,rfl,rfl,rfl,rfl,S,hL⟩
 ·rintro e w ⟨_,_,_,_,_,_,_,_,hz⟩; exact nomatch (show none=some _ from hz)
 rintro k e130 w129 ⟨v123,x122,x124,he125,he126,he127,he128,S,F⟩;refine gn fun _ q131=>?_;refine sg fun _ q132=>?_;refine sR fun _ q133=>?_;refine pM (i_ x124) he128 (pe (.pointer (some ⟨b103,0 + 1,none⟩)) (pv_fieldAddr he125) (pe u1 (pv_loadc rfl ((S.boxAt 3 rfl) 1 _ rfl)) (pe (i_ (a1.length:Int)) (pv_len rfl ha1) (pe (.bool (decide (x124 < (a1.length:Int)))) (pv_lss rfl rfl) (en q133 ?_)))));rcases oif F with ⟨hb134,F⟩|⟨hb134,F⟩
 ·refine ct hb134 (sn q132 ?_);refine sg fun _ q135=>?_;refine bg fun _ q136=>?_;obtain ⟨C,hCd⟩:∃ C:World → Prop,∀ w,C w ↔ ∃ G,Sat w0 w ([Box b112 33 [i_ a0,v123],Box b103 33 [i_ a0,u1]] ++ G):=⟨_,fun _=>Iff.rfl⟩;refine cw_regb [0,1,2,3,4,5,6,7,8,9,10,11] C (by kernel_rfl) ?_;intro w137 hx138;replace S:=S.ext hx138;replace S:Sat w0 w137 [Box b112 33 [i_ a0,v123],Box b103 33 [i_ a0,u1],Own R2_ [v123] x122,Box b107 33 [i_ 0,n_]]:=S.tops 4 [1,3] rfl;have hC:=(hCd _).2 ⟨_,S⟩;refine aP (.pointer (some ⟨b112,0 + 1,none⟩)) 0 rfl rfl hC (sv_on rfl (fun w' hw'=>by obtain ⟨_,S⟩:=(hCd _).1 hw'; exact (pv_fieldAddr he127))) ?_;refine aP v123 1 rfl rfl hC (sv_on rfl (fun w' hw'=>by obtain ⟨_,S⟩:=(hCd _).1 hw'; exact (pv_loadc rfl ((S.boxAt 0 rfl) 1 _ rfl)))) ?_;refine aP (.pointer (some ⟨b103,0 + 1,none⟩)) 3 rfl rfl hC (sv_on rfl (fun w' hw'=>by obtain ⟨_,S⟩:=(hCd _).1 hw'; exact (pv_fieldAddr he125))) ?_;refine aP u1 4 rfl rfl hC (sv_on rfl (fun w' hw'=>by obtain ⟨_,S⟩:=(hCd _).1 hw'; exact (pv_loadc rfl ((S.boxAt 1 rfl) 1 _ rfl)))) ?_;refine aP (i_ x124) 5 rfl rfl hC (sv_on rfl (fun w' hw'=>by obtain ⟨_,S⟩:=(hCd _).1 hw'; exact (pv_move he128))) ?_;obtain ⟨x139,hx139,F⟩:=ob F;refine al_index (wA:=w0) (by kernel_rfl) 6 rfl hC (by kernel_rfl) (by kernel_rfl) rfl ha1 rfl (dt rfl) rfl hx139 (dt rfl) ?_;intro b140 of141 c142 hr143 hm144;obtain ⟨v145,rfl⟩:=slice_one hr143;refine aP v145 7 rfl rfl hC (sv_on rfl (fun w' hw'=>by obtain ⟨_,S⟩:=(hCd _).1 hw'; exact (pv_loadc rfl ((cells_up S.below hm144) 0 _ rfl)))) ?_;refine aO 2 rfl ?_;refine el_buildSlice0 intR S (dt rfl) ?_;intro w146 v148 S hx147;refine el_nil ?_;replace S:Sat w0 w146 [Box b112 33 [i_ a0,v123],Box b103 33 [i_ a0,u1],Own R0_ [v148] [],Own R2_ [v123] x122,Box b107 33 [i_ 0,n_]]:=S.tops 5 [1,2] rfl;have hC:=(hCd _).2 ⟨_,S⟩;refine ⟨fun _=>hC,?_⟩;refine aO 8 rfl ?_;obtain ⟨x152,hx152,F⟩:=ob F;obtain ⟨ao153,c154,hv155,hn156,hrow157⟩:=row_ints (S.up hr143);replace S:Sat w0 w146 [Own R0_ [v148] [],Box b112 33 [i_ a0,v123],Box b103 33 [i_ a0,u1],Own R2_ [v123] x122,Box b107 33 [i_ 0,n_]]:=S.top 2 rfl;replace S:=S.ints (xs:=x139);refine el_append rfl (dt rfl) rfl (dt rfl) S rfl (rfl.trans hv155) rfl hn156 hrow157 hx152 (dt rfl) ?_;intro w150 v151 S;refine el_nil ?_;replace S:Sat w0 w150 [Box b112 33 [i_ a0,v123],Box b103 33 [i_ a0,u1],Own R0_ [v151] x152,Own R2_ [v123] x122,Box b107 33 [i_ 0,n_]]:=S.tops 5 [1,2] rfl;have hC:=(hCd _).2 ⟨_,S⟩;refine ⟨fun _=>hC,?_⟩;refine aO 9 rfl ?_;refine el_buildSlice1 [v151] (cells_of rfl (oc (S.rdAt (R:=R0_) 2 rfl))) (by rfl) (dt rfl) rfl (dt rfl) S (dt rfl) ?_;intro w159 b161 S hx160;refine el_nil ?_;replace S:Sat w0 w159 [Box b112 33 [i_ a0,v123],Box b103 33 [i_ a0,u1],Box b161 26 [v151],Own R0_ [v151] x152,Own R2_ [v123] x122,Box b107 33 [i_ 0,n_]]:=S.tops 6 [1,2] rfl;have hC:=(hCd _).2 ⟨_,S⟩;refine ⟨fun _=>hC,?_⟩;refine aO 10 rfl ?_;obtain ⟨x165,hx165,F⟩:=ob F;have hrow166:=S.boxRow 2 rfl;replace S:Sat w0 w159 [Own R2_ [v123] x122,Box b112 33 [i_ a0,v123],Box b103 33 [i_ a0,u1],Box b161 26 [v151],Own R0_ [v151] x152,Box b107 33 [i_ 0,n_]]:=S.top 4 rfl;replace S:Sat w0 w159 [Own R0_ [v151] x152,Own R2_ [v123] x122,Box b112 33 [i_ a0,v123],Box b103 33 [i_ a0,u1],Box b161 26 [v151],Box b107 33 [i_ 0,n_]]:=S.top 4 rfl;replace S:=S.one;refine el_append rfl (dt rfl) rfl (dt rfl) S rfl rfl rfl (by simp) hrow166 hx165 (dt rfl) ?_;intro w163 v164 S;refine el_nil ?_;replace S:Sat w0 w163 [Box b112 33 [i_ a0,v123],Box b103 33 [i_ a0,u1],Own R2_ [v164] x165,Box b161 26 [v151],Box b107 33 [i_ 0,n_]]:=S.tops 5 [1,2] rfl;have hC:=(hCd _).2 ⟨_,S⟩;refine ⟨fun _=>hC,?_⟩;refine aO 11 rfl ?_;refine pe (.pointer (some ⟨b112,0 + 1,none⟩)) (pv_fieldAddr he127) (el_nil ?_);refine ⟨fun _=>hC,?_⟩;refine aO 12 rfl ?_;refine el_storev (S.top 0 rfl) rfl [v164] (cells_of rfl (oc (S.rdAt (R:=R2_) 2 rfl))) rfl (dt rfl) (all_cons (oc (S.rdAt (R:=R2_) 2 rfl)) rfl) ?_;intro w168 S;replace S:Sat w0 w168 [Box b112 33 [i_ a0,v164],Box b103 33 [i_ a0,u1],Own R2_ [v164] x165,Box b161 26 [v151],Box b107 33 [i_ 0,n_]]:=S;refine el_nil ?_;refine ⟨fun h=>(nomatch (show false=true from h)),?_⟩;refine al_nil (by kernel_rfl) ?_;refine bn q136 (tn q135 ?_);replace S:Sat w0 w168 [Box b112 33 [i_ a0,v164],Box b103 33 [i_ a0,u1],Own R2_ [v164] x165,Box b107 33 [i_ 0,n_]]:=S.rems 5 [3] rfl;refine cw_reg (pM (i_ x124) he128 ?_);obtain ⟨x169,hx169,F⟩:=ob F;refine pe (i_ x169) (pv_add rfl rfl hx169) (pa (i_ x169) (en q131 ?_));replace S:Sat w0 w168 [Own R2_ [v164] x165,Box b112 33 [i_ a0,v164],Box b107 33 [i_ 0,n_],Box b103 33 [i_ a0,u1]]:=S.tops 4 [2,0,3,1] rfl;replace S:=S.keep 4;exact ⟨v164,x165,x169,he125,he126,he127,rfl,S,F⟩
 refine cf hb134 (cw_exit (tx q132 (tx q131 ?_)));replace F:=exB F hK121;refine bS q118 (tn q116 ?_);refine sg fun _ q170=>?_;replace S:Sat w0 w129 [Own R2_ [v123] x122,Box b112 33 [i_ a0,v123],Box b107 33 [i_ 0,n_]]:=S.rems 4 [3] rfl;refine cw_reg (pe (.agg #[i_ a0,v123]) (pv_loada (cs:=[i_ a0,v123]) he127 rfl (boxc0 (S.boxAt 1 rfl))) ?_);refine el_storev (S.top 2 rfl) he126 [i_ a0,v123] rfl rfl (dt rfl) (all_cons rfl (all_cons (oc (S.rdAt (R:=R2_) 0 rfl)) rfl)) ?_;intro w171 S;replace S:Sat w0 w171 [Box b107 33 [i_ a0,v123],Own R2_ [v123] x122,Box b112 33 [i_ a0,v123]]:=S;refine en q170 (cw_ret ?_);refine finC (cs:=[i_ a0,v123]) rfl he126 rfl (boxc0 (S.boxAt 0 rfl))  ?_;replace S:Sat w0 w171 [Own R2_ [v123] x122,Box b107 33 [i_ a0,v123],Box b112 33 [i_ a0,v123]]:=S.tops 3 [1] rfl;have hr:=Option.some.inj F;exact ⟨v123,congrArg (fun (r:Int × List T0_)=>Ending.returned (.agg #[i_ r.1,v123])) hr,Eq.mp (congrArg (fun (r:Int × List T0_)=>Sat w0 w171 [Own R2_ [v123] r.2]) hr) (S.keep 1)⟩
set_option maxHeartbeats 4000000 in
theorem spec_l1In_ok {w0:World} {a0:Int} {a1:Int} {a2:Int}  {N:Nat} {r:Bool} (F:spec_l1In N a0 a1 a2=some r): Calls Tryz.prog 63 #[i_ a0,i_ a1,i_ a2] w0 fun e w'=>e=.returned (.bool r)∧Ext w0 w' := by
 unfold spec_l1In at F;refine calls_E Tryz.func63 rfl rfl (dt rfl) ?_;have S:=Sat.start w0;refine sR fun _ q101=>?_;refine pa (.bool false) (en q101 ?_);refine sR fun _ q102=>?_;refine pm (i_ a0) (pm (i_ a1) (pe (.bool (decide (a1 ≤ a0))) (pv_geq rfl rfl) (pm (.bool (decide (a1 ≤ a0))) ?_)));rcases oif F with ⟨hb103,F⟩|⟨hb103,F⟩
 ·refine ei hb103 (pm (i_ a0) (ei hb103 (pm (i_ a2) (ei hb103 (pe (.bool (decide (a0 ≤ a2))) (pv_leq rfl rfl) (pe (.bool (decide (a0 ≤ a2))) (pv_pick_t rfl hb103 rfl) (pa (.bool (decide (a0 ≤ a2))) (en q102 (cw_ret (fin1 rfl rfl ?_))))))))));exact rB F S
 refine eo hb103 (eo hb103 (eo hb103 (pe (.bool false) (pv_pick_f rfl hb103 rfl) (pa (.bool false) (en q102 (cw_ret (fin1 rfl rfl ?_)))))));exact rB F S
set_option maxHeartbeats 4000000 in
theorem spec_AreValidValues_ok {w0:World} {u0:Value} {a0:List Int} (ha0:R0_.rd w0 [u0] a0) {N:Nat} {r:Bool} (F:spec_AreValidValues N a0=some r): Calls Tryz.prog 77 #[u0] w0 fun e w'=>e=.returned (.bool r)∧Ext w0 w' := by
 unfold spec_AreValidValues at F;refine calls_E Tryz.func77 rfl rfl (dt rfl) ?_;have S:=Sat.start w0;refine sR fun _ q101=>?_;refine pa (.bool false) (en q101 ?_);refine sg fun _ q102=>?_;refine sR fun _ q103=>?_;refine pa (i_ 0) (en q103 ?_);refine bg fun _ q104=>?_;obtain ⟨s105,hL,hK106⟩:=ob F;refine cw_loopS (fun k e w=>∃ (x107:Int),e 0=u0∧e 3=i_ x107∧Sat w0 w []∧spec_AreValidValues_L1 N k a0 x107=some s105) N ?_ ?_ ?_
 ·exact ⟨0,rfl,rfl,S,hL⟩
 ·rintro e w ⟨_,_,_,_,hz⟩; exact nomatch (show none=some _ from hz)
 rintro k e111 w110 ⟨x107,he108,he109,S,F⟩;refine gn fun _ q112=>?_;refine sg fun _ q113=>?_;refine sR fun _ q114=>?_;refine pM (i_ x107) he109 (pM u0 he108 (pe (i_ (a0.length:Int)) (pv_len rfl ha0) (pe (.bool (decide (x107 < (a0.length:Int)))) (pv_lss rfl rfl) (en q114 ?_))));rcases oif F with ⟨hb115,F⟩|⟨hb115,F⟩
 ·refine ct hb115 (sn q113 ?_);refine sg fun _ q116=>?_;refine bg fun _ q117=>?_;refine sR fun _ q118=>?_;refine pM u0 he108 (pM (i_ x107) he109 ?_);obtain ⟨x119,hx119,F⟩:=ob F;refine el_index (wA:=w0) rfl ha0 rfl (dt rfl) rfl hx119 (dt rfl) ?_;intro b120 of121 c122 hr123 hm124;obtain rfl:=hr123;refine pe (i_ x119) (pv_loadc rfl ((cells_up S.below hm124) 0 _ rfl)) ?_;obtain ⟨r125,hr125,F⟩:=ob F;refine ec0 goes63 (spec_l1In_ok hr125) (ca (mapc rfl (mapc rfl (mapc rfl rfl)))) S fun w126 hx127 S=>?_;refine pe (.bool (!r125)) (pv_not rfl) (en q118 ?_);rcases oif F with ⟨hb128,F⟩|⟨hb128,F⟩
  ·refine cf (bnot_t hb128) (cw_skip (bn q117 (tn q116 (cw_reg (pM (i_ x107) he109 ?_)))));obtain ⟨x129,hx129,F⟩:=ob F;refine pe (i_ x129) (pv_add rfl rfl hx129) (pa (i_ x129) (en q112 ?_));replace S:=S.keep 0;exact ⟨x129,he108,rfl,S,F⟩
  refine ct (bnot_f hb128) ?_;refine sR fun _ q130=>?_;refine pa (.bool false) (en q130 (cw_ret (br q117 (tr q116 (tr q112 (br q104 (tr q102 ?_)))))));replace F:=exL F hK106;refine fin1 rfl rfl ?_;exact rB F S
 refine cf hb115 (cw_exit (tx q113 (tx q112 ?_)));replace F:=exA F hK106;refine bS q104 (tn q102 ?_);refine sR fun _ q131=>?_;refine pa (.bool true) (en q131 (cw_ret (fin1 rfl rfl ?_)));exact rB F S

end Go.Proofs.YtbdnoljojebebaaGreat
namespace Go.Proofs.YtbdnoljojebebaaGreat
open Go.RowKit
set_option maxRecDepth 100000
set_option maxHeartbeats 4000000 in
theorem spec_CompareRows_ok {w0:World} {u0:Value} {a0:List Int} {u1:Value} {a1:List Int} (ha0:R0_.rd w0 [u0] a0) (ha1:R0_.rd w0 [u1] a1) {N:Nat} {r:Int} (F:spec_CompareRows N a0 a1=some r): Calls Tryz.prog 114 #[u0,u1] w0 fun e w'=>e=.returned (i_ r)∧Ext w0 w' := by
 unfold spec_CompareRows at F;refine calls_E Tryz.func114 rfl rfl (dt rfl) ?_;have S:=Sat.start w0;refine sR fun _ q101=>?_;refine pa (i_ 0) (en q101 ?_);refine sg fun _ q102=>?_;refine sR fun _ q103=>?_;refine pa (i_ 0) (en q103 ?_);refine bg fun _ q104=>?_;obtain ⟨s105,hL,hK106⟩:=ob F;refine cw_loopS (fun k e w=>∃ (x107:Int),e 0=u0∧e 1=u1∧e 5=i_ x107∧Sat w0 w []∧spec_CompareRows_L1 N k a0 a1 x107=some s105) N ?_ ?_ ?_
 ·exact ⟨0,rfl,rfl,rfl,S,hL⟩
 ·rintro e w ⟨_,_,_,_,_,hz⟩; exact nomatch (show none=some _ from hz)
 rintro k e112 w111 ⟨x107,he108,he109,he110,S,F⟩;refine gn fun _ q113=>?_;refine sg fun _ q114=>?_;refine sR fun _ q115=>?_;refine pM (i_ x107) he110 (pM u0 he108 (pe (i_ (a0.length:Int)) (pv_len rfl ha0) (pe (.bool (decide (x107 < (a0.length:Int)))) (pv_lss rfl rfl) (pm (.bool (decide (x107 < (a0.length:Int)))) ?_))));rcases oif F with ⟨hb116,F⟩|⟨hb116,F⟩
 ·refine ei hb116 (pM (i_ x107) he110 (ei hb116 (pM u1 he109 (ei hb116 (pe (i_ (a1.length:Int)) (pv_len rfl ha1) (ei hb116 (pe (.bool (decide (x107 < (a1.length:Int)))) (pv_lss rfl rfl) (pe (.bool (decide (x107 < (a1.length:Int)))) (pv_pick_t rfl hb116 rfl) (en q115 ?_)))))))));rcases oif F with ⟨hb117,F⟩|⟨hb117,F⟩
  ·refine ct hb117 (sn q114 ?_);refine sg fun _ q118=>?_;refine bg fun _ q119=>?_;refine sg fun _ q120=>?_;refine sg fun _ q121=>?_;refine cw_regq (by kernel_rfl) (by kernel_rfl) ?_;refine qM u0 he108 (qM (i_ x107) he110 ?_);obtain ⟨x122,hx122,F⟩:=ob F;refine ql_index (wA:=w0) rfl ha0 rfl (dt rfl) rfl hx122 (dt rfl) ?_;intro b123 of124 c125 hr126 hm127;obtain rfl:=hr126;refine qe (i_ x122) (pv_loadc rfl ((cells_up S.below hm127) 0 _ rfl)) (qM u1 he109 (qM (i_ x107) he110 ?_));obtain ⟨x128,hx128,F⟩:=ob F;refine ql_index (wA:=w0) rfl ha1 rfl (dt rfl) rfl hx128 (dt rfl) ?_;intro b129 of130 c131 hr132 hm133;obtain rfl:=hr132;refine qe (i_ x128) (pv_loadc rfl ((cells_up S.below hm133) 0 _ rfl)) (qe (.bool (decide (x122 < x128))) (pv_lss rfl rfl) (ql_nil ?_));intro w134 hx135;replace S:=S.ext hx135;refine tn q121 ?_;rcases oif F with ⟨hb136,F⟩|⟨hb136,F⟩
   ·refine ct hb136 ?_;refine sR fun _ q137=>?_;refine pa (i_ (-1)) (en q137 (cw_ret (tr q120 (br q119 (tr q118 (tr q113 (br q104 (tr q102 ?_))))))));replace F:=exL F hK106;refine fin1 rfl rfl ?_;exact rI F S
   refine cf hb136 (sn q120 ?_);refine sg fun _ q138=>?_;refine cw_regq (by kernel_rfl) (by kernel_rfl) ?_;refine qM u0 he108 (qM (i_ x107) he110 ?_);obtain ⟨x139,hx139,F⟩:=ob F;refine ql_index (wA:=w0) rfl ha0 rfl (dt rfl) rfl hx139 (dt rfl) ?_;intro b140 of141 c142 hr143 hm144;obtain rfl:=hr143;refine qe (i_ x139) (pv_loadc rfl ((cells_up S.below hm144) 0 _ rfl)) (qM u1 he109 (qM (i_ x107) he110 ?_));obtain ⟨x145,hx145,F⟩:=ob F;refine ql_index (wA:=w0) rfl ha1 rfl (dt rfl) rfl hx145 (dt rfl) ?_;intro b146 of147 c148 hr149 hm150;obtain rfl:=hr149;refine qe (i_ x145) (pv_loadc rfl ((cells_up S.below hm150) 0 _ rfl)) (qe (.bool (decide (x145 < x139))) (pv_gtr rfl rfl) (ql_nil ?_));intro w151 hx152;replace S:=S.ext hx152;refine tn q138 ?_;rcases oif F with ⟨hb153,F⟩|⟨hb153,F⟩
   ·refine ct hb153 ?_;refine sR fun _ q154=>?_;refine pa (i_ 1) (en q154 (cw_ret (br q119 (tr q118 (tr q113 (br q104 (tr q102 ?_)))))));replace F:=exL F hK106;refine fin1 rfl rfl ?_;exact rI F S
   refine cf hb153 (cw_skip (bn q119 (tn q118 (cw_reg (pM (i_ x107) he110 ?_)))));obtain ⟨x155,hx155,F⟩:=ob F;refine pe (i_ x155) (pv_add rfl rfl hx155) (pa (i_ x155) (en q113 ?_));replace S:=S.keep 0;exact ⟨x155,he108,he109,rfl,S,F⟩
  refine cf hb117 (cw_exit (tx q114 (tx q113 ?_)));replace F:=exA F hK106;refine bS q104 (tn q102 ?_);refine sg fun _ q156=>?_;refine sR fun _ q157=>?_;refine pM u0 he108 (pe (i_ (a0.length:Int)) (pv_len rfl ha0) (pM u1 he109 (pe (i_ (a1.length:Int)) (pv_len rfl ha1) (pe (.bool (decide ((a0.length:Int) < (a1.length:Int)))) (pv_lss rfl rfl) (en q157 ?_)))));rcases oif F with ⟨hb158,F⟩|⟨hb158,F⟩
  ·refine ct hb158 ?_;refine sR fun _ q159=>?_;refine pa (i_ (-1)) (en q159 (cw_ret (tr q156 (fin1 rfl rfl ?_))));exact rI F S
  refine cf hb158 (sn q156 ?_);refine sg fun _ q160=>?_;refine sR fun _ q161=>?_;refine pM u0 he108 (pe (i_ (a0.length:Int)) (pv_len rfl ha0) (pM u1 he109 (pe (i_ (a1.length:Int)) (pv_len rfl ha1) (pe (.bool (decide ((a1.length:Int) < (a0.length:Int)))) (pv_gtr rfl rfl) (en q161 ?_)))));rcases oif F with ⟨hb162,F⟩|⟨hb162,F⟩
  ·refine ct hb162 ?_;refine sR fun _ q163=>?_;refine pa (i_ 1) (en q163 (cw_ret (tr q160 (fin1 rfl rfl ?_))));exact rI F S
  refine cf hb162 (sn q160 ?_);refine sR fun _ q164=>?_;refine pa (i_ 0) (en q164 (cw_ret (fin1 rfl rfl ?_)));exact rI F S
 refine eo hb116 (eo hb116 (eo hb116 (eo hb116 (pe (.bool false) (pv_pick_f rfl hb116 rfl) (en q115 (cf rfl (cw_exit (tx q114 (tx q113 ?_)))))))));replace F:=exA F hK106;refine bS q104 (tn q102 ?_);refine sg fun _ q165=>?_;refine sR fun _ q166=>?_;refine pM u0 he108 (pe (i_ (a0.length:Int)) (pv_len rfl ha0) (pM u1 he109 (pe (i_ (a1.length:Int)) (pv_len rfl ha1) (pe (.bool (decide ((a0.length:Int) < (a1.length:Int)))) (pv_lss rfl rfl) (en q166 ?_)))));rcases oif F with ⟨hb167,F⟩|⟨hb167,F⟩
 ·refine ct hb167 ?_;refine sR fun _ q168=>?_;refine pa (i_ (-1)) (en q168 (cw_ret (tr q165 (fin1 rfl rfl ?_))));exact rI F S
 refine cf hb167 (sn q165 ?_);refine sg fun _ q169=>?_;refine sR fun _ q170=>?_;refine pM u0 he108 (pe (i_ (a0.length:Int)) (pv_len rfl ha0) (pM u1 he109 (pe (i_ (a1.length:Int)) (pv_len rfl ha1) (pe (.bool (decide ((a1.length:Int) < (a0.length:Int)))) (pv_gtr rfl rfl) (en q170 ?_)))));rcases oif F with ⟨hb171,F⟩|⟨hb171,F⟩
 ·refine ct hb171 ?_;refine sR fun _ q172=>?_;refine pa (i_ 1) (en q172 (cw_ret (tr q169 (fin1 rfl rfl ?_))));exact rI F S
 refine cf hb171 (sn q169 ?_);refine sR fun _ q173=>?_;refine pa (i_ 0) (en q173 (cw_ret (fin1 rfl rfl ?_)));exact rI F S
set_option maxHeartbeats 4000000 in
theorem spec_IsValidRelation_ok {w0:World} {a0:Int} {u1:Value} {a1:List T0_} (ha1:R2_.rd w0 [u1] a1) {N:Nat} {r:Bool} (F:spec_IsValidRelation N a0 a1=some r): Calls Tryz.prog 80 #[.agg #[i_ a0,u1]] w0 fun e w'=>e=.returned (.bool r)∧Ext w0 w' := by
 unfold spec_IsValidRelation at F;refine calls_E Tryz.func80 rfl rfl (dt rfl) ?_;have S:=Sat.start w0;refine sR fun _ q101=>?_;refine el_box [i_ a0,u1] rfl S (dt rfl) ?_;intro w102 b103 S hx104;refine pa (.bool false) (en q101 ?_);refine sg fun _ q106=>?_;refine sR fun _ q107=>?_;refine pe (.pointer (some ⟨b103,0 + 0,none⟩)) (pv_fieldAddr rfl) (pe (i_ a0) (pv_loadc rfl ((S.boxAt 0 rfl) 0 _ rfl)) ?_);obtain ⟨r108,hr108,F⟩:=ob F;refine ec0 goes63 (spec_l1In_ok hr108) (ca (mapc rfl (mapc rfl (mapc rfl rfl)))) S fun w109 hx110 S=>?_;refine pe (.bool (!r108)) (pv_not rfl) (pm (.bool (!r108)) ?_);rcases oif F with ⟨hb111,F⟩|⟨hb111,F⟩
 ·refine ei (bnot_t hb111) (pe (.pointer (some ⟨b103,0 + 1,none⟩)) (pv_fieldAddr rfl) (ei (bnot_t hb111) (pe u1 (pv_loadc rfl ((S.boxAt 0 rfl) 1 _ rfl)) (ei (bnot_t hb111) (pe (i_ (a1.length:Int)) (pv_len rfl ha1) (ei (bnot_t hb111) (pe (.bool (decide (4000 < (a1.length:Int)))) (pv_gtr rfl rfl) (pe (.bool (decide (4000 < (a1.length:Int)))) (pv_pick_f rfl (bnot_t hb111) rfl) (en q107 ?_)))))))));rcases oif F with ⟨hb112,F⟩|⟨hb112,F⟩
  ·refine ct hb112 ?_;refine sg fun _ q113=>?_;replace S:Sat w0 w109 []:=S.rems 1 [0] rfl;refine cw_reg (pa (.bool false) (en q113 (cw_ret (tr q106 (fin1 rfl rfl ?_)))));exact rB F S
  refine cf hb112 (sn q106 ?_);refine sg fun _ q114=>?_;refine sR fun _ q115=>?_;refine pa (i_ 0) (en q115 ?_);refine bg fun _ q116=>?_;obtain ⟨s117,hL,hK118⟩:=ob F;refine cw_loopS (fun k e w=>∃ (x119:Int),e 1=.pointer (some ⟨b103,0,none⟩)∧e 3=i_ x119∧Sat w0 w [Box b103 33 [i_ a0,u1]]∧spec_IsValidRelation_L1 N k a0 a1 x119=some s117) N ?_ ?_ ?_
  ·exact ⟨0,rfl,rfl,S,hL⟩
  ·rintro e w ⟨_,_,_,_,hz⟩; exact nomatch (show none=some _ from hz)
  rintro k e123 w122 ⟨x119,he120,he121,S,F⟩;refine gn fun _ q124=>?_;refine sg fun _ q125=>?_;refine sR fun _ q126=>?_;refine pM (i_ x119) he121 (pe (.pointer (some ⟨b103,0 + 1,none⟩)) (pv_fieldAddr he120) (pe u1 (pv_loadc rfl ((S.boxAt 0 rfl) 1 _ rfl)) (pe (i_ (a1.length:Int)) (pv_len rfl ha1) (pe (.bool (decide (x119 < (a1.length:Int)))) (pv_lss rfl rfl) (en q126 ?_)))));rcases oif F with ⟨hb127,F⟩|⟨hb127,F⟩
  ·refine ct hb127 (sn q125 ?_);refine sg fun _ q128=>?_;refine bg fun _ q129=>?_;refine sg fun _ q130=>?_;refine cw_regq (by kernel_rfl) (by kernel_rfl) ?_;refine qe (.pointer (some ⟨b103,0 + 1,none⟩)) (pv_fieldAddr he120) (qe u1 (pv_loadc rfl ((S.boxAt 0 rfl) 1 _ rfl)) (qM (i_ x119) he121 ?_));obtain ⟨x131,hx131,F⟩:=ob F;refine ql_index (wA:=w0) rfl ha1 rfl (dt rfl) rfl hx131 (dt rfl) ?_;intro b132 of133 c134 hr135 hm136;obtain ⟨v137,rfl⟩:=slice_one hr135;refine qe v137 (pv_loadc rfl ((cells_up S.below hm136) 0 _ rfl)) (qe (i_ (x131.length:Int)) (pv_len rfl hr135) (qe (.pointer (some ⟨b103,0 + 0,none⟩)) (pv_fieldAddr he120) (qe (i_ a0) (pv_loadc rfl ((S.boxAt 0 rfl) 0 _ rfl)) (qe (.bool ((x131.length:Int) != a0)) (pv_neq rfl rfl) (qm (.bool ((x131.length:Int) != a0)) ?_)))));rcases oif F with ⟨hb138,F⟩|⟨hb138,F⟩
   ·refine qo hb138 (qo hb138 (qo hb138 (qo hb138 (qo hb138 (qo hb138 (qo hb138 (qe (.bool true) (pv_pick_t rfl hb138 rfl) (qm (.bool true) (qo rfl (qo rfl (qo rfl ?_)))))))))));refine ql_offu rfl (dt rfl) ?_;refine ql_offu rfl (dt rfl) ?_;refine ql_offu rfl (dt rfl) ?_;refine ql_offu rfl (dt rfl) ?_;refine ql_offu rfl (dt rfl) ?_;refine ql_offu rfl (dt rfl) ?_;refine ql_offu rfl (dt rfl) ?_;refine ql_offu rfl (dt rfl) ?_;refine ql_offu rfl (dt rfl) ?_;refine ql_offu rfl (dt rfl) ?_;refine ql_offu rfl (dt rfl) ?_;refine ql_offu rfl (dt rfl) ?_;refine ql_offu rfl (dt rfl) ?_;refine qo rfl (qe (.bool true) (pv_pick_t rfl rfl rfl) (ql_nil ?_));intro w139 hx140;replace S:=S.ext hx140;refine tn q130 (ct rfl ?_);refine sg fun _ q141=>?_;replace S:Sat w0 w139 []:=S.rems 1 [0] rfl;refine cw_reg (pa (.bool false) (en q141 (cw_ret (br q129 (tr q128 (tr q124 (br q116 (tr q114 ?_))))))));replace F:=exL F hK118;refine fin1 rfl rfl ?_;exact rB F S
   refine qi hb138 (qe (.pointer (some ⟨b103,0 + 1,none⟩)) (pv_fieldAddr he120) (qi hb138 (qe u1 (pv_loadc rfl ((S.boxAt 0 rfl) 1 _ rfl)) (qi hb138 (qM (i_ x119) he121 (qi hb138 ?_))))));obtain ⟨x142,hx142,F⟩:=ob F;refine ql_index (wA:=w0) rfl ha1 rfl (dt rfl) rfl hx142 (dt rfl) ?_;intro b143 of144 c145 hr146 hm147;obtain ⟨v148,rfl⟩:=slice_one hr146;refine qi hb138 (qe v148 (pv_loadc rfl ((cells_up S.below hm147) 0 _ rfl)) (qi hb138 ?_));obtain ⟨r149,hr149,F⟩:=ob F;refine ql_call (.bool r149) goes77 (fun w' hw'=>spec_AreValidValues_ok (rd_up (S.up hr146) hw') hr149) (ca (mapc rfl rfl)) (dt rfl) ?_;refine qi hb138 (qe (.bool (!r149)) (pv_not rfl) (qe (.bool (!r149)) (pv_pick_f rfl hb138 rfl) (qm (.bool (!r149)) ?_)));rcases oif F with ⟨hb150,F⟩|⟨hb150,F⟩
   ·refine qi (bnot_t hb150) (qM (i_ x119) he121 (qi (bnot_t hb150) (qe (.bool (decide (0 < x119))) (pv_gtr rfl rfl) (qi (bnot_t hb150) (qm (.bool (decide (0 < x119))) ?_)))));rcases oif F with ⟨hb151,F⟩|⟨hb151,F⟩
    ·refine qi hb151 (qe (.pointer (some ⟨b103,0 + 1,none⟩)) (pv_fieldAddr he120) (qi hb151 (qe u1 (pv_loadc rfl ((S.boxAt 0 rfl) 1 _ rfl)) (qi hb151 (qM (i_ x119) he121 (qi hb151 ?_))))));obtain ⟨x152,hx152,F⟩:=ob F;refine qe (i_ x152) (pv_sub rfl rfl hx152) (qi hb151 ?_);obtain ⟨x153,hx153,F⟩:=ob F;refine ql_index (wA:=w0) rfl ha1 rfl (dt rfl) rfl hx153 (dt rfl) ?_;intro b154 of155 c156 hr157 hm158;obtain ⟨v159,rfl⟩:=slice_one hr157;refine qi hb151 (qe v159 (pv_loadc rfl ((cells_up S.below hm158) 0 _ rfl)) (qi hb151 (qe (.pointer (some ⟨b103,0 + 1,none⟩)) (pv_fieldAddr he120) (qi hb151 (qe u1 (pv_loadc rfl ((S.boxAt 0 rfl) 1 _ rfl)) (qi hb151 (qM (i_ x119) he121 (qi hb151 ?_))))))));obtain ⟨x160,hx160,F⟩:=ob F;refine ql_index (wA:=w0) rfl ha1 rfl (dt rfl) rfl hx160 (dt rfl) ?_;intro b161 of162 c163 hr164 hm165;obtain ⟨v166,rfl⟩:=slice_one hr164;refine qi hb151 (qe v166 (pv_loadc rfl ((cells_up S.below hm165) 0 _ rfl)) (qi hb151 ?_));obtain ⟨r167,hr167,F⟩:=ob F;refine ql_call (i_ r167) goes114 (fun w' hw'=>spec_CompareRows_ok (rd_up (S.up hr157) hw') (rd_up (S.up hr164) hw') hr167) (ca (mapc rfl (mapc rfl rfl))) (dt rfl) ?_;refine qi hb151 (qe (.bool (decide (0 ≤ r167))) (pv_geq rfl rfl) (qi (bnot_t hb150) (qe (.bool (decide (0 ≤ r167))) (pv_pick_t rfl hb151 rfl) (qe (.bool (decide (0 ≤ r167))) (pv_pick_f rfl (bnot_t hb150) rfl) (ql_nil ?_)))));intro w168 hx169;replace S:=S.ext hx169;refine tn q130 ?_;rcases oif F with ⟨hb170,F⟩|⟨hb170,F⟩
     ·refine ct hb170 ?_;refine sg fun _ q171=>?_;replace S:Sat w0 w168 []:=S.rems 1 [0] rfl;refine cw_reg (pa (.bool false) (en q171 (cw_ret (br q129 (tr q128 (tr q124 (br q116 (tr q114 ?_))))))));replace F:=exL F hK118;refine fin1 rfl rfl ?_;exact rB F S
     refine cf hb170 (cw_skip (bn q129 (tn q128 (cw_reg (pM (i_ x119) he121 ?_)))));obtain ⟨x172,hx172,F⟩:=ob F;refine pe (i_ x172) (pv_add rfl rfl hx172) (pa (i_ x172) (en q124 ?_));replace S:=S.keep 1;exact ⟨x172,he120,rfl,S,F⟩
    refine qo hb151 (qo hb151 (qo hb151 (qo hb151 (qo hb151 (qo hb151 (qo hb151 (qo hb151 (qo hb151 (qo hb151 (qo hb151 (qo hb151 (qo hb151 (qi (bnot_t hb150) (qe (.bool false) (pv_pick_f rfl hb151 rfl) (qe (.bool false) (pv_pick_f rfl (bnot_t hb150) rfl) (ql_nil ?_))))))))))))))));intro w173 hx174;replace S:=S.ext hx174;refine tn q130 (cf rfl (cw_skip (bn q129 (tn q128 (cw_reg (pM (i_ x119) he121 ?_))))));obtain ⟨x175,hx175,F⟩:=ob F;refine pe (i_ x175) (pv_add rfl rfl hx175) (pa (i_ x175) (en q124 ?_));replace S:=S.keep 1;exact ⟨x175,he120,rfl,S,F⟩
   refine qo (bnot_f hb150) (qo (bnot_f hb150) (qo (bnot_f hb150) ?_));refine ql_offu rfl (dt rfl) ?_;refine ql_offu rfl (dt rfl) ?_;refine ql_offu rfl (dt rfl) ?_;refine ql_offu rfl (dt rfl) ?_;refine ql_offu rfl (dt rfl) ?_;refine ql_offu rfl (dt rfl) ?_;refine ql_offu rfl (dt rfl) ?_;refine ql_offu rfl (dt rfl) ?_;refine ql_offu rfl (dt rfl) ?_;refine ql_offu rfl (dt rfl) ?_;refine ql_offu rfl (dt rfl) ?_;refine ql_offu rfl (dt rfl) ?_;refine ql_offu rfl (dt rfl) ?_;refine qo (bnot_f hb150) (qe (.bool true) (pv_pick_t rfl (bnot_f hb150) rfl) (ql_nil ?_));intro w176 hx177;replace S:=S.ext hx177;refine tn q130 (ct rfl ?_);refine sg fun _ q178=>?_;replace S:Sat w0 w176 []:=S.rems 1 [0] rfl;refine cw_reg (pa (.bool false) (en q178 (cw_ret (br q129 (tr q128 (tr q124 (br q116 (tr q114 ?_))))))));replace F:=exL F hK118;refine fin1 rfl rfl ?_;exact rB F S
  refine cf hb127 (cw_exit (tx q125 (tx q124 ?_)));replace F:=exA F hK118;refine bS q116 (tn q114 ?_);refine sg fun _ q179=>?_;replace S:Sat w0 w122 []:=S.rems 1 [0] rfl;refine cw_reg (pa (.bool true) (en q179 (cw_ret (fin1 rfl rfl ?_))));exact rB F S
 refine eo (bnot_f hb111) (eo (bnot_f hb111) (eo (bnot_f hb111) (eo (bnot_f hb111) (pe (.bool true) (pv_pick_t rfl (bnot_f hb111) rfl) (en q107 (ct rfl ?_))))));refine sg fun _ q180=>?_;replace S:Sat w0 w109 []:=S.rems 1 [0] rfl;refine cw_reg (pa (.bool false) (en q180 (cw_ret (tr q106 (fin1 rfl rfl ?_)))));exact rB F S
set_option maxHeartbeats 4000000 in
theorem spec_IsValidName_ok {w0:World} {a0:ByteArray} (_:a0.size ≤ 9223372036854775807) {N:Nat} {r:Bool} (F:spec_IsValidName N a0=some r): Calls Tryz.prog 132 #[.string a0] w0 fun e w'=>e=.returned (.bool r)∧Ext w0 w' := by
 unfold spec_IsValidName at F;refine calls_E Tryz.func132 rfl rfl (dt rfl) ?_;have S:=Sat.start w0;refine sR fun _ q101=>?_;refine pa (.bool false) (en q101 ?_);refine sg fun _ q102=>?_;refine sR fun _ q103=>?_;refine pa (i_ 0) (en q103 ?_);refine bg fun _ q104=>?_;obtain ⟨s105,hL,hK106⟩:=ob F;refine cw_loopS (fun k e w=>∃ (x107:Int),e 0=.string a0∧e 3=i_ x107∧Sat w0 w []∧spec_IsValidName_L1 N k a0 x107=some s105) N ?_ ?_ ?_
 ·exact ⟨0,rfl,rfl,S,hL⟩
 ·rintro e w ⟨_,_,_,_,hz⟩; exact nomatch (show none=some _ from hz)
 rintro k e111 w110 ⟨x107,he108,he109,S,F⟩;refine gn fun _ q112=>?_;refine sg fun _ q113=>?_;refine sR fun _ q114=>?_;refine pM (i_ x107) he109 (pM (.string a0) he108 (pe (i_ (a0.size:Int)) (pv_lenS Tryz.underlying9 rfl) (pe (.bool (decide (x107 < (a0.size:Int)))) (pv_lss rfl rfl) (en q114 ?_))));rcases oif F with ⟨hb115,F⟩|⟨hb115,F⟩
 ·refine ct hb115 (sn q113 ?_);refine sg fun _ q116=>?_;refine bg fun _ q117=>?_;refine sR fun _ q118=>?_;refine pM (.string a0) he108 (pM (i_ x107) he109 ?_);obtain ⟨x119,hx119,F⟩:=ob F;refine pe (.int .u8 x119) (pv_bx Tryz.underlying9 rfl rfl hx119) (pe (.bool (decide (x119 < 97))) (pv_lss rfl rfl) (pm (.bool (decide (x119 < 97))) ?_));rcases oif F with ⟨hb120,F⟩|⟨hb120,F⟩
  ·refine eo hb120 (eo hb120 (eo hb120 (eo hb120 (pe (.bool true) (pv_pick_t rfl hb120 rfl) (en q118 (ct rfl ?_))))));refine sR fun _ q121=>?_;refine pa (.bool false) (en q121 (cw_ret (br q117 (tr q116 (tr q112 (br q104 (tr q102 ?_)))))));replace F:=exL F hK106;refine fin1 rfl rfl ?_;exact rB F S
  refine ei hb120 (pM (.string a0) he108 (ei hb120 (pM (i_ x107) he109 (ei hb120 ?_))));obtain ⟨x122,hx122,F⟩:=ob F;refine pe (.int .u8 x122) (pv_bx Tryz.underlying9 rfl rfl hx122) (ei hb120 (pe (.bool (decide (122 < x122))) (pv_gtr rfl rfl) (pe (.bool (decide (122 < x122))) (pv_pick_f rfl hb120 rfl) (en q118 ?_))));rcases oif F with ⟨hb123,F⟩|⟨hb123,F⟩
  ·refine ct hb123 ?_;refine sR fun _ q124=>?_;refine pa (.bool false) (en q124 (cw_ret (br q117 (tr q116 (tr q112 (br q104 (tr q102 ?_)))))));replace F:=exL F hK106;refine fin1 rfl rfl ?_;exact rB F S
  refine cf hb123 (cw_skip (bn q117 (tn q116 (cw_reg (pM (i_ x107) he109 ?_)))));obtain ⟨x125,hx125,F⟩:=ob F;refine pe (i_ x125) (pv_add rfl rfl hx125) (pa (i_ x125) (en q112 ?_));replace S:=S.keep 0;exact ⟨x125,he108,rfl,S,F⟩
 refine cf hb115 (cw_exit (tx q113 (tx q112 ?_)));replace F:=exA F hK106;refine bS q104 (tn q102 ?_);refine sR fun _ q126=>?_;refine pM (.string a0) he108 (pe (i_ (a0.size:Int)) (pv_lenS Tryz.underlying9 rfl) ?_);obtain ⟨r127,hr127,F⟩:=ob F;refine ec0 goes63 (spec_l1In_ok hr127) (ca (mapc rfl (mapc rfl (mapc rfl rfl)))) S fun w128 hx129 S=>?_;refine pa (.bool r127) (en q126 (cw_ret (fin1 rfl rfl ?_)));exact rB F S
set_option maxHeartbeats 4000000 in
theorem spec_IsValidDatabase_ok {w0:World} {u0:Value} {a0:List T6_} (ha0:R10_.rd w0 [u0] a0) {N:Nat} {r:Bool} (F:spec_IsValidDatabase N a0=some r): Calls Tryz.prog 108 #[.agg #[u0]] w0 fun e w'=>e=.returned (.bool r)∧Ext w0 w' := by
 unfold spec_IsValidDatabase at F;refine calls_E Tryz.func108 rfl rfl (dt rfl) ?_;have S:=Sat.start w0;refine sR fun _ q101=>?_;refine el_box [u0] rfl S (dt rfl) ?_;intro w102 b103 S hx104;refine pa (.bool false) (en q101 ?_);refine sg fun _ q106=>?_;refine sR fun _ q107=>?_;refine pa (i_ 0) (en q107 ?_);refine bg fun _ q108=>?_;obtain ⟨s109,hL,hK110⟩:=ob F;refine cw_loopS (fun k e w=>∃ (x111:Int),e 1=.pointer (some ⟨b103,0,none⟩)∧e 3=i_ x111∧Sat w0 w [Box b103 38 [u0]]∧spec_IsValidDatabase_L1 N k a0 x111=some s109) N ?_ ?_ ?_
 ·exact ⟨0,rfl,rfl,S,hL⟩
 ·rintro e w ⟨_,_,_,_,hz⟩; exact nomatch (show none=some _ from hz)
 rintro k e115 w114 ⟨x111,he112,he113,S,F⟩;refine gn fun _ q116=>?_;refine sg fun _ q117=>?_;refine sR fun _ q118=>?_;refine pM (i_ x111) he113 (pe (.pointer (some ⟨b103,0 + 0,none⟩)) (pv_fieldAddr he112) (pe u0 (pv_loadc rfl ((S.boxAt 0 rfl) 0 _ rfl)) (pe (i_ (a0.length:Int)) (pv_len rfl ha0) (pe (.bool (decide (x111 < (a0.length:Int)))) (pv_lss rfl rfl) (en q118 ?_)))));rcases oif F with ⟨hb119,F⟩|⟨hb119,F⟩
 ·refine ct hb119 (sn q117 ?_);refine sg fun _ q120=>?_;refine bg fun _ q121=>?_;refine sR fun _ q122=>?_;refine pe (.pointer (some ⟨b103,0 + 0,none⟩)) (pv_fieldAddr he112) (pe u0 (pv_loadc rfl ((S.boxAt 0 rfl) 0 _ rfl)) (pM (i_ x111) he113 ?_));obtain ⟨x123,hx123,F⟩:=ob F;refine el_index (wA:=w0) rfl ha0 rfl (dt rfl) rfl hx123 (dt rfl) ?_;intro b124 of125 c126 hr127 hm128;obtain ⟨_,_,rfl,hr129,hr130⟩:=hr127;obtain ⟨rfl,hz131⟩:=hr129;obtain ⟨_,_,rfl,hr132,hr133⟩:=hr130;obtain rfl:=hr132;obtain ⟨v134,rfl⟩:=slice_one hr133;refine pe (.agg #[.string x123.1,i_ x123.2.1,v134]) (pv_loada (cs:=[.string x123.1,i_ x123.2.1,v134]) rfl rfl (cells_up S.below hm128)) ?_;refine el_alloc S (dt rfl) ?_;intro w135 b136 S hx137;refine el_storev (S.top 0 rfl) rfl [.string x123.1,i_ x123.2.1,v134] rfl rfl (dt rfl) (all_cons rfl (all_cons rfl (all_cons (oc hr133) rfl))) ?_;intro w139 S;replace S:Sat w0 w139 [Box b136 109 [.string x123.1,i_ x123.2.1,v134],Box b103 38 [u0]]:=S;refine en q122 ?_;refine sg fun _ q140=>?_;refine cw_regq (by kernel_rfl) (by kernel_rfl) ?_;refine qe (.pointer (some ⟨b136,0 + 0,none⟩)) (pv_fieldAddr rfl) (qe (.string x123.1) (pv_loadc rfl ((S.boxAt 0 rfl) 0 _ rfl)) ?_);obtain ⟨r141,hr141,F⟩:=ob F;refine ql_call (.bool r141) goes132 (fun w' hw'=>spec_IsValidName_ok hz131 hr141) (ca (mapc rfl rfl)) (dt rfl) ?_;refine qe (.bool (!r141)) (pv_not rfl) (qm (.bool (!r141)) ?_);rcases oif F with ⟨hb142,F⟩|⟨hb142,F⟩
  ·refine qi (bnot_t hb142) (qM (i_ x111) he113 (qi (bnot_t hb142) (qe (.bool (decide (0 < x111))) (pv_gtr rfl rfl) (qi (bnot_t hb142) (qm (.bool (decide (0 < x111))) ?_)))));rcases oif F with ⟨hb143,F⟩|⟨hb143,F⟩
   ·refine qi hb143 (qe (.pointer (some ⟨b103,0 + 0,none⟩)) (pv_fieldAddr he112) (qi hb143 (qe u0 (pv_loadc rfl ((S.boxAt 1 rfl) 0 _ rfl)) (qi hb143 (qM (i_ x111) he113 (qi hb143 ?_))))));obtain ⟨x144,hx144,F⟩:=ob F;refine qe (i_ x144) (pv_sub rfl rfl hx144) (qi hb143 ?_);obtain ⟨x145,hx145,F⟩:=ob F;refine ql_index (wA:=w0) rfl ha0 rfl (dt rfl) rfl hx145 (dt rfl) ?_;intro b146 of147 c148 hr149 hm150;obtain ⟨_,_,rfl,hr151,hr152⟩:=hr149;obtain ⟨rfl,hz153⟩:=hr151;obtain ⟨_,_,rfl,hr154,hr155⟩:=hr152;obtain rfl:=hr154;obtain ⟨v156,rfl⟩:=slice_one hr155;refine qi hb143 (qe (.pointer (some ⟨b146,of147 + 0,none⟩)) (pv_fieldAddr rfl) (qi hb143 (qe (.string x145.1) (pv_loadc rfl ((cells_up S.below hm150) 0 _ rfl)) (qi hb143 (qe (.pointer (some ⟨b136,0 + 0,none⟩)) (pv_fieldAddr rfl) (qi hb143 (qe (.string x123.1) (pv_loadc rfl ((S.boxAt 0 rfl) 0 _ rfl)) (qi hb143 (qe (.bool (!(ltS x145.1 x123.1))) (pv_geqS rfl rfl) (qi (bnot_t hb142) (qe (.bool (!(ltS x145.1 x123.1))) (pv_pick_t rfl hb143 rfl) (qe (.bool (!(ltS x145.1 x123.1))) (pv_pick_f rfl (bnot_t hb142) rfl) (qm (.bool (!(ltS x145.1 x123.1))) ?_)))))))))))));rcases oif F with ⟨hb157,F⟩|⟨hb157,F⟩
    ·refine qi (bnot_t hb157) (qe (.pointer (some ⟨b136,0 + 1,none⟩)) (pv_fieldAddr rfl) (qi (bnot_t hb157) (qe (.agg #[i_ x123.2.1,v134]) (pv_loada (cs:=[i_ x123.2.1,v134]) rfl rfl (boxc (S.boxAt 0 rfl) 1 2)) (qi (bnot_t hb157) ?_))));obtain ⟨r158,hr158,F⟩:=ob F;refine ql_call (.bool r158) goes80 (fun w' hw'=>spec_IsValidRelation_ok (rd_up (S.up hr133) hw') hr158) (ca (mapc rfl rfl)) (dt rfl) ?_;refine qi (bnot_t hb157) (qe (.bool (!r158)) (pv_not rfl) (qe (.bool (!r158)) (pv_pick_f rfl (bnot_t hb157) rfl) (qm (.bool (!r158)) ?_)));rcases oif F with ⟨hb159,F⟩|⟨hb159,F⟩
     ·refine qi (bnot_t hb159) (qe (.pointer (some ⟨b136,0 + 1,none⟩)) (pv_fieldAddr rfl) (qi (bnot_t hb159) (qe (.pointer (some ⟨b136,0 + 1 + 1,none⟩)) (pv_fieldAddr rfl) (qi (bnot_t hb159) (qe v134 (pv_loadc rfl ((S.boxAt 0 rfl) 2 _ rfl)) (qi (bnot_t hb159) (qe (i_ (x123.2.2.length:Int)) (pv_len rfl hr133) (qi (bnot_t hb159) (qe (.bool (decide (16 < (x123.2.2.length:Int)))) (pv_gtr rfl rfl) (qe (.bool (decide (16 < (x123.2.2.length:Int)))) (pv_pick_f rfl (bnot_t hb159) rfl) (qm (.bool (decide (16 < (x123.2.2.length:Int)))) ?_)))))))))));rcases oif F with ⟨hb160,F⟩|⟨hb160,F⟩
      ·refine qo hb160 (qo hb160 (qo hb160 (qo hb160 (qe (.bool true) (pv_pick_t rfl hb160 rfl) (ql_nil ?_)))));intro w161 hx162;replace S:=S.ext hx162;refine tn q140 (ct rfl ?_);refine sg fun _ q163=>?_;replace S:Sat w0 w161 []:=S.rems 2 [0,1] rfl;refine cw_reg (pa (.bool false) (en q163 (cw_ret (br q121 (tr q120 (tr q116 (br q108 (tr q106 ?_))))))));replace F:=exL F hK110;refine fin1 rfl rfl ?_;exact rB F S
      refine qi hb160 (qe (.pointer (some ⟨b136,0 + 1,none⟩)) (pv_fieldAddr rfl) (qi hb160 (qe (.pointer (some ⟨b136,0 + 1 + 0,none⟩)) (pv_fieldAddr rfl) (qi hb160 (qe (i_ x123.2.1) (pv_loadc rfl ((S.boxAt 0 rfl) 1 _ rfl)) (qi hb160 (qe (.bool (decide (x123.2.1 < 1))) (pv_lss rfl rfl) (qe (.bool (decide (x123.2.1 < 1))) (pv_pick_f rfl hb160 rfl) (ql_nil ?_)))))))));intro w164 hx165;replace S:=S.ext hx165;refine tn q140 ?_;rcases oif F with ⟨hb166,F⟩|⟨hb166,F⟩
      ·refine ct hb166 ?_;refine sg fun _ q167=>?_;replace S:Sat w0 w164 []:=S.rems 2 [0,1] rfl;refine cw_reg (pa (.bool false) (en q167 (cw_ret (br q121 (tr q120 (tr q116 (br q108 (tr q106 ?_))))))));replace F:=exL F hK110;refine fin1 rfl rfl ?_;exact rB F S
      refine cf hb166 (cw_skip (bn q121 (tn q120 ?_)));replace S:Sat w0 w164 [Box b103 38 [u0]]:=S.rems 2 [0] rfl;refine cw_reg (pM (i_ x111) he113 ?_);obtain ⟨x168,hx168,F⟩:=ob F;refine pe (i_ x168) (pv_add rfl rfl hx168) (pa (i_ x168) (en q116 ?_));replace S:=S.keep 1;exact ⟨x168,he112,rfl,S,F⟩
     refine qo (bnot_f hb159) (qo (bnot_f hb159) (qo (bnot_f hb159) (qo (bnot_f hb159) (qo (bnot_f hb159) (qe (.bool true) (pv_pick_t rfl (bnot_f hb159) rfl) (qm (.bool true) (qo rfl (qo rfl (qo rfl (qo rfl (qe (.bool true) (pv_pick_t rfl rfl rfl) (ql_nil ?_))))))))))));intro w169 hx170;replace S:=S.ext hx170;refine tn q140 (ct rfl ?_);refine sg fun _ q171=>?_;replace S:Sat w0 w169 []:=S.rems 2 [0,1] rfl;refine cw_reg (pa (.bool false) (en q171 (cw_ret (br q121 (tr q120 (tr q116 (br q108 (tr q106 ?_))))))));replace F:=exL F hK110;refine fin1 rfl rfl ?_;exact rB F S
    refine qo (bnot_f hb157) (qo (bnot_f hb157) (qo (bnot_f hb157) (qo (bnot_f hb157) (qe (.bool true) (pv_pick_t rfl (bnot_f hb157) rfl) (qm (.bool true) (qo rfl (qo rfl (qo rfl (qo rfl (qo rfl (qe (.bool true) (pv_pick_t rfl rfl rfl) (qm (.bool true) (qo rfl (qo rfl (qo rfl (qo rfl (qe (.bool true) (pv_pick_t rfl rfl rfl) (ql_nil ?_))))))))))))))))));intro w172 hx173;replace S:=S.ext hx173;refine tn q140 (ct rfl ?_);refine sg fun _ q174=>?_;replace S:Sat w0 w172 []:=S.rems 2 [0,1] rfl;refine cw_reg (pa (.bool false) (en q174 (cw_ret (br q121 (tr q120 (tr q116 (br q108 (tr q106 ?_))))))));replace F:=exL F hK110;refine fin1 rfl rfl ?_;exact rB F S
   refine qo hb143 (qo hb143 (qo hb143 (qo hb143 (qo hb143 (qo hb143 (qo hb143 (qo hb143 (qo hb143 (qo hb143 (qi (bnot_t hb142) (qe (.bool false) (pv_pick_f rfl hb143 rfl) (qe (.bool false) (pv_pick_f rfl (bnot_t hb142) rfl) (qm (.bool false) (qi rfl (qe (.pointer (some ⟨b136,0 + 1,none⟩)) (pv_fieldAddr rfl) (qi rfl (qe (.agg #[i_ x123.2.1,v134]) (pv_loada (cs:=[i_ x123.2.1,v134]) rfl rfl (boxc (S.boxAt 0 rfl) 1 2)) (qi rfl ?_))))))))))))))))));obtain ⟨r175,hr175,F⟩:=ob F;refine ql_call (.bool r175) goes80 (fun w' hw'=>spec_IsValidRelation_ok (rd_up (S.up hr133) hw') hr175) (ca (mapc rfl rfl)) (dt rfl) ?_;refine qi rfl (qe (.bool (!r175)) (pv_not rfl) (qe (.bool (!r175)) (pv_pick_f rfl rfl rfl) (qm (.bool (!r175)) ?_)));rcases oif F with ⟨hb176,F⟩|⟨hb176,F⟩
   ·refine qi (bnot_t hb176) (qe (.pointer (some ⟨b136,0 + 1,none⟩)) (pv_fieldAddr rfl) (qi (bnot_t hb176) (qe (.pointer (some ⟨b136,0 + 1 + 1,none⟩)) (pv_fieldAddr rfl) (qi (bnot_t hb176) (qe v134 (pv_loadc rfl ((S.boxAt 0 rfl) 2 _ rfl)) (qi (bnot_t hb176) (qe (i_ (x123.2.2.length:Int)) (pv_len rfl hr133) (qi (bnot_t hb176) (qe (.bool (decide (16 < (x123.2.2.length:Int)))) (pv_gtr rfl rfl) (qe (.bool (decide (16 < (x123.2.2.length:Int)))) (pv_pick_f rfl (bnot_t hb176) rfl) (qm (.bool (decide (16 < (x123.2.2.length:Int)))) ?_)))))))))));rcases oif F with ⟨hb177,F⟩|⟨hb177,F⟩
    ·refine qo hb177 (qo hb177 (qo hb177 (qo hb177 (qe (.bool true) (pv_pick_t rfl hb177 rfl) (ql_nil ?_)))));intro w178 hx179;replace S:=S.ext hx179;refine tn q140 (ct rfl ?_);refine sg fun _ q180=>?_;replace S:Sat w0 w178 []:=S.rems 2 [0,1] rfl;refine cw_reg (pa (.bool false) (en q180 (cw_ret (br q121 (tr q120 (tr q116 (br q108 (tr q106 ?_))))))));replace F:=exL F hK110;refine fin1 rfl rfl ?_;exact rB F S
    refine qi hb177 (qe (.pointer (some ⟨b136,0 + 1,none⟩)) (pv_fieldAddr rfl) (qi hb177 (qe (.pointer (some ⟨b136,0 + 1 + 0,none⟩)) (pv_fieldAddr rfl) (qi hb177 (qe (i_ x123.2.1) (pv_loadc rfl ((S.boxAt 0 rfl) 1 _ rfl)) (qi hb177 (qe (.bool (decide (x123.2.1 < 1))) (pv_lss rfl rfl) (qe (.bool (decide (x123.2.1 < 1))) (pv_pick_f rfl hb177 rfl) (ql_nil ?_)))))))));intro w181 hx182;replace S:=S.ext hx182;refine tn q140 ?_;rcases oif F with ⟨hb183,F⟩|⟨hb183,F⟩
    ·refine ct hb183 ?_;refine sg fun _ q184=>?_;replace S:Sat w0 w181 []:=S.rems 2 [0,1] rfl;refine cw_reg (pa (.bool false) (en q184 (cw_ret (br q121 (tr q120 (tr q116 (br q108 (tr q106 ?_))))))));replace F:=exL F hK110;refine fin1 rfl rfl ?_;exact rB F S
    refine cf hb183 (cw_skip (bn q121 (tn q120 ?_)));replace S:Sat w0 w181 [Box b103 38 [u0]]:=S.rems 2 [0] rfl;refine cw_reg (pM (i_ x111) he113 ?_);obtain ⟨x185,hx185,F⟩:=ob F;refine pe (i_ x185) (pv_add rfl rfl hx185) (pa (i_ x185) (en q116 ?_));replace S:=S.keep 1;exact ⟨x185,he112,rfl,S,F⟩
   refine qo (bnot_f hb176) (qo (bnot_f hb176) (qo (bnot_f hb176) (qo (bnot_f hb176) (qo (bnot_f hb176) (qe (.bool true) (pv_pick_t rfl (bnot_f hb176) rfl) (qm (.bool true) (qo rfl (qo rfl (qo rfl (qo rfl (qe (.bool true) (pv_pick_t rfl rfl rfl) (ql_nil ?_))))))))))));intro w186 hx187;replace S:=S.ext hx187;refine tn q140 (ct rfl ?_);refine sg fun _ q188=>?_;replace S:Sat w0 w186 []:=S.rems 2 [0,1] rfl;refine cw_reg (pa (.bool false) (en q188 (cw_ret (br q121 (tr q120 (tr q116 (br q108 (tr q106 ?_))))))));replace F:=exL F hK110;refine fin1 rfl rfl ?_;exact rB F S
  refine qo (bnot_f hb142) (qo (bnot_f hb142) (qo (bnot_f hb142) ?_));refine ql_offu rfl (dt rfl) ?_;refine ql_offu rfl (dt rfl) ?_;refine ql_offu rfl (dt rfl) ?_;refine ql_offu rfl (dt rfl) ?_;refine ql_offu rfl (dt rfl) ?_;refine ql_offu rfl (dt rfl) ?_;refine ql_offu rfl (dt rfl) ?_;refine ql_offu rfl (dt rfl) ?_;refine ql_offu rfl (dt rfl) ?_;refine ql_offu rfl (dt rfl) ?_;refine qo (bnot_f hb142) (qe (.bool true) (pv_pick_t rfl (bnot_f hb142) rfl) (qm (.bool true) (qo rfl (qo rfl (qo rfl (qo rfl (qe (.bool true) (pv_pick_t rfl rfl rfl) (qm (.bool true) (qo rfl (qo rfl (qo rfl (qo rfl (qo rfl (qe (.bool true) (pv_pick_t rfl rfl rfl) (qm (.bool true) (qo rfl (qo rfl (qo rfl (qo rfl (qe (.bool true) (pv_pick_t rfl rfl rfl) (ql_nil ?_)))))))))))))))))))));intro w189 hx190;replace S:=S.ext hx190;refine tn q140 (ct rfl ?_);refine sg fun _ q191=>?_;replace S:Sat w0 w189 []:=S.rems 2 [0,1] rfl;refine cw_reg (pa (.bool false) (en q191 (cw_ret (br q121 (tr q120 (tr q116 (br q108 (tr q106 ?_))))))));replace F:=exL F hK110;refine fin1 rfl rfl ?_;exact rB F S
 refine cf hb119 (cw_exit (tx q117 (tx q116 ?_)));replace F:=exA F hK110;refine bS q108 (tn q106 ?_);refine sR fun _ q192=>?_;refine pe (.pointer (some ⟨b103,0 + 0,none⟩)) (pv_fieldAddr he112) (pe u0 (pv_loadc rfl ((S.boxAt 0 rfl) 0 _ rfl)) (pe (i_ (a0.length:Int)) (pv_len rfl ha0) (pe (.bool (decide ((a0.length:Int) ≤ 6))) (pv_leq rfl rfl) (pa (.bool (decide ((a0.length:Int) ≤ 6))) (en q192 (cw_ret (fin1 rfl rfl ?_)))))));exact rB F S
set_option maxHeartbeats 4000000 in
theorem spec_LookupRelation_ok {w0:World} {u0:Value} {a0:List T6_} {a1:ByteArray} (ha0:R10_.rd w0 [u0] a0) (_:a1.size ≤ 9223372036854775807) {N:Nat} {r:T3_ × Bool} (F:spec_LookupRelation N a0 a1=some r): Calls Tryz.prog 106 #[.agg #[u0],.string a1] w0 fun e w'=>∃ (q0:Value),e=.returned (.tuple #[.agg #[i_ r.1.1,q0],.bool r.2])∧Sat w0 w' [Own R2_ [q0] r.1.2] := by
 unfold spec_LookupRelation at F;refine calls_E Tryz.func106 rfl rfl (dt rfl) ?_;have S:=Sat.start w0;refine sR fun _ q101=>?_;refine el_box [u0] rfl S (dt rfl) ?_;intro w102 b103 S hx104;refine el_alloc S (dt rfl) ?_;intro w106 b107 S hx108;refine pa (.bool false) (en q101 ?_);refine sg fun _ q110=>?_;refine sR fun _ q111=>?_;refine pa (i_ 0) (en q111 ?_);refine bg fun _ q112=>?_;obtain ⟨s113,hL,hK114⟩:=ob F;refine cw_loopS (fun k e w=>∃ (x115:Int),e 1=.string a1∧e 2=.pointer (some ⟨b103,0,none⟩)∧e 4=.pointer (some ⟨b107,0,none⟩)∧e 6=i_ x115∧Sat w0 w [Box b107 33 [i_ 0,n_],Box b103 38 [u0]]∧spec_LookupRelation_L1 N k a1 a0 0 [] x115=some s113) N ?_ ?_ ?_
 ·exact ⟨0,rfl,rfl,rfl,rfl,S,hL⟩
 ·rintro e w ⟨_,_,_,_,_,_,hz⟩; exact nomatch (show none=some _ from hz)
 rintro k e121 w120 ⟨x115,he116,he117,he118,he119,S,F⟩;refine gn fun _ q122=>?_;refine sg fun _ q123=>?_;refine sR fun _ q124=>?_;refine pM (i_ x115) he119 (pe (.pointer (some ⟨b103,0 + 0,none⟩)) (pv_fieldAddr he117) (pe u0 (pv_loadc rfl ((S.boxAt 1 rfl) 0 _ rfl)) (pe (i_ (a0.length:Int)) (pv_len rfl ha0) (pe (.bool (decide (x115 < (a0.length:Int)))) (pv_lss rfl rfl) (pm (.bool (decide (x115 < (a0.length:Int)))) ?_)))));rcases oif F with ⟨hb125,F⟩|⟨hb125,F⟩
 ·refine ei hb125 (pe (.agg #[u0]) (pv_loada (cs:=[u0]) he117 rfl (boxc0 (S.boxAt 1 rfl))) (ei hb125 ?_));obtain ⟨r126,hr126,F⟩:=ob F;refine ec0 goes108 (spec_IsValidDatabase_ok (S.up ha0) hr126) (ca (mapc rfl rfl)) S fun w127 hx128 S=>?_;refine pe (.bool r126) (pv_pick_t rfl hb125 rfl) (en q124 ?_);rcases oif F with ⟨hb129,F⟩|⟨hb129,F⟩
  ·refine ct hb129 (sn q123 ?_);refine sg fun _ q130=>?_;refine bg fun _ q131=>?_;refine sR fun _ q132=>?_;refine pe (.pointer (some ⟨b103,0 + 0,none⟩)) (pv_fieldAddr he117) (pe u0 (pv_loadc rfl ((S.boxAt 1 rfl) 0 _ rfl)) (pM (i_ x115) he119 ?_));obtain ⟨x133,hx133,F⟩:=ob F;refine el_index (wA:=w0) rfl ha0 rfl (dt rfl) rfl hx133 (dt rfl) ?_;intro b134 of135 c136 hr137 hm138;obtain ⟨_,_,rfl,hr139,hr140⟩:=hr137;obtain ⟨rfl,hz141⟩:=hr139;obtain ⟨_,_,rfl,hr142,hr143⟩:=hr140;obtain rfl:=hr142;obtain ⟨v144,rfl⟩:=slice_one hr143;refine pe (.pointer (some ⟨b134,of135 + 0,none⟩)) (pv_fieldAddr rfl) (pe (.string x133.1) (pv_loadc rfl ((cells_up S.below hm138) 0 _ rfl)) (pM (.string a1) he116 (pe (.bool (eqS x133.1 a1)) (pv_eqlS rfl rfl) (en q132 ?_))));rcases oif F with ⟨hb145,F⟩|⟨hb145,F⟩
   ·refine ct hb145 ?_;refine sR fun _ q146=>?_;refine pe (.pointer (some ⟨b103,0 + 0,none⟩)) (pv_fieldAddr he117) (pe u0 (pv_loadc rfl ((S.boxAt 1 rfl) 0 _ rfl)) (pM (i_ x115) he119 ?_));obtain ⟨x147,hx147,F⟩:=ob F;refine el_index (wA:=w0) rfl ha0 rfl (dt rfl) rfl hx147 (dt rfl) ?_;intro b148 of149 c150 hr151 hm152;obtain ⟨_,_,rfl,hr153,hr154⟩:=hr151;obtain ⟨rfl,hz155⟩:=hr153;obtain ⟨_,_,rfl,hr156,hr157⟩:=hr154;obtain rfl:=hr156;obtain ⟨v158,rfl⟩:=slice_one hr157;refine pe (.pointer (some ⟨b148,of149 + 1,none⟩)) (pv_fieldAddr rfl) (pe (.agg #[i_ x147.2.1,v158]) (pv_loada (cs:=[i_ x147.2.1,v158]) rfl rfl (cells_sub (cells_up S.below hm152) 1 2)) ?_);obtain ⟨r159,hr159,F⟩:=ob F;refine ec1 goes78 (spec_l5Copy_ok (S.up hr157) hr159) (ca (mapc rfl rfl)) S fun w162 v160 hx163 S=>?_;refine el_storev (S.top 1 rfl) he118 [i_ r159.1,v160] rfl rfl (dt rfl) (all_cons rfl (all_cons (oc (S.rdAt (R:=R2_) 0 rfl)) rfl)) ?_;intro w164 S;replace S:Sat w0 w164 [Box b107 33 [i_ r159.1,v160],Own R2_ [v160] r159.2,Box b103 38 [u0]]:=S;refine pa (.bool true) (en q146 (cw_ret (br q131 (tr q130 (tr q122 (br q112 (tr q110 ?_)))))));replace F:=exL F hK114;refine finCT (cs:=[i_ r159.1,v160]) rfl he118 rfl (boxc0 (S.boxAt 0 rfl)) rfl ?_;replace S:Sat w0 w164 [Own R2_ [v160] r159.2,Box b107 33 [i_ r159.1,v160],Box b103 38 [u0]]:=S.tops 3 [1] rfl;have hr:=Option.some.inj F;exact ⟨v160,congrArg (fun (r:T3_ × Bool)=>Ending.returned (.tuple #[.agg #[i_ r.1.1,v160],.bool r.2])) hr,Eq.mp (congrArg (fun (r:T3_ × Bool)=>Sat w0 w164 [Own R2_ [v160] r.1.2]) hr) (S.keep 1)⟩
   refine cf hb145 (cw_skip (bn q131 (tn q130 (cw_reg (pM (i_ x115) he119 ?_)))));obtain ⟨x165,hx165,F⟩:=ob F;refine pe (i_ x165) (pv_add rfl rfl hx165) (pa (i_ x165) (en q122 ?_));replace S:=S.keep 2;exact ⟨x165,he116,he117,he118,rfl,S,F⟩
  refine cf hb129 (cw_exit (tx q123 (tx q122 ?_)));replace F:=exA F hK114;refine bS q112 (tn q110 ?_);refine sg fun _ q166=>?_;replace S:Sat w0 w127 [Box b107 33 [i_ 0,n_]]:=S.rems 2 [1] rfl;refine cw_reg (pe (.agg #[i_ 0,n_]) (pv_build [] [i_ 0,n_] rfl rfl) ?_);refine el_storev (S.top 0 rfl) he118 [i_ 0,n_] rfl rfl (dt rfl) (all_cons rfl (all_cons rfl rfl)) ?_;intro w167 S;replace S:Sat w0 w167 [Box b107 33 [i_ 0,n_]]:=S;refine pa (.bool false) (en q166 (cw_ret ?_));replace S:=S.nil R0_ 26;refine finCT (cs:=[i_ 0,n_]) rfl he118 rfl (boxc0 (S.boxAt 1 rfl)) rfl ?_;have hr:=Option.some.inj F;exact ⟨n_,congrArg (fun (r:T3_ × Bool)=>Ending.returned (.tuple #[.agg #[i_ r.1.1,n_],.bool r.2])) hr,Eq.mp (congrArg (fun (r:T3_ × Bool)=>Sat w0 w167 [Own R2_ [n_] r.1.2]) hr) (S.keep 1)⟩
 refine eo hb125 (eo hb125 (pe (.bool false) (pv_pick_f rfl hb125 rfl) (en q124 (cf rfl (cw_exit (tx q123 (tx q122 ?_)))))));replace F:=exA F hK114;refine bS q112 (tn q110 ?_);refine sg fun _ q169=>?_;replace S:Sat w0 w120 [Box b107 33 [i_ 0,n_]]:=S.rems 2 [1] rfl;refine cw_reg (pe (.agg #[i_ 0,n_]) (pv_build [] [i_ 0,n_] rfl rfl) ?_);refine el_storev (S.top 0 rfl) he118 [i_ 0,n_] rfl rfl (dt rfl) (all_cons rfl (all_cons rfl rfl)) ?_;intro w170 S;replace S:Sat w0 w170 [Box b107 33 [i_ 0,n_]]:=S;refine pa (.bool false) (en q169 (cw_ret ?_));replace S:=S.nil R0_ 26;refine finCT (cs:=[i_ 0,n_]) rfl he118 rfl (boxc0 (S.boxAt 1 rfl)) rfl ?_;have hr:=Option.some.inj F;exact ⟨n_,congrArg (fun (r:T3_ × Bool)=>Ending.returned (.tuple #[.agg #[i_ r.1.1,n_],.bool r.2])) hr,Eq.mp (congrArg (fun (r:T3_ × Bool)=>Sat w0 w170 [Own R2_ [n_] r.1.2]) hr) (S.keep 1)⟩
set_option maxHeartbeats 4000000 in
theorem spec_l7Find_ok {w0:World} {u0:Value} {a0:List Int} {a1:Int} (ha0:R0_.rd w0 [u0] a0) {N:Nat} {r:Int} (F:spec_l7Find N a0 a1=some r): Calls Tryz.prog 59 #[u0,i_ a1] w0 fun e w'=>e=.returned (i_ r)∧Ext w0 w' := by
 unfold spec_l7Find at F;refine calls_E Tryz.func59 rfl rfl (dt rfl) ?_;have S:=Sat.start w0;refine sR fun _ q101=>?_;refine pa (i_ 0) (en q101 ?_);refine sg fun _ q102=>?_;refine sR fun _ q103=>?_;refine pa (i_ 0) (en q103 ?_);refine bg fun _ q104=>?_;obtain ⟨s105,hL,hK106⟩:=ob F;refine cw_loopS (fun k e w=>∃ (x107:Int),e 0=u0∧e 1=i_ a1∧e 5=i_ x107∧Sat w0 w []∧spec_l7Find_L1 N k a0 a1 x107=some s105) N ?_ ?_ ?_
 ·exact ⟨0,rfl,rfl,rfl,S,hL⟩
 ·rintro e w ⟨_,_,_,_,_,hz⟩; exact nomatch (show none=some _ from hz)
 rintro k e112 w111 ⟨x107,he108,he109,he110,S,F⟩;refine gn fun _ q113=>?_;refine sg fun _ q114=>?_;refine sR fun _ q115=>?_;refine pM (i_ x107) he110 (pM u0 he108 (pe (i_ (a0.length:Int)) (pv_len rfl ha0) (pe (.bool (decide (x107 < (a0.length:Int)))) (pv_lss rfl rfl) (en q115 ?_))));rcases oif F with ⟨hb116,F⟩|⟨hb116,F⟩
 ·refine ct hb116 (sn q114 ?_);refine sg fun _ q117=>?_;refine bg fun _ q118=>?_;refine sR fun _ q119=>?_;refine pM u0 he108 (pM (i_ x107) he110 ?_);obtain ⟨x120,hx120,F⟩:=ob F;refine el_index (wA:=w0) rfl ha0 rfl (dt rfl) rfl hx120 (dt rfl) ?_;intro b121 of122 c123 hr124 hm125;obtain rfl:=hr124;refine pe (i_ x120) (pv_loadc rfl ((cells_up S.below hm125) 0 _ rfl)) (pM (i_ a1) he109 (pe (.bool (x120 == a1)) (pv_eql rfl rfl) (en q119 ?_)));rcases oif F with ⟨hb126,F⟩|⟨hb126,F⟩
  ·refine ct hb126 ?_;refine sR fun _ q127=>?_;refine pM (i_ x107) he110 (pa (i_ x107) (en q127 (cw_ret (br q118 (tr q117 (tr q113 (br q104 (tr q102 ?_))))))));replace F:=exL F hK106;refine fin1 rfl rfl ?_;exact rI F S
  refine cf hb126 (cw_skip (bn q118 (tn q117 (cw_reg (pM (i_ x107) he110 ?_)))));obtain ⟨x128,hx128,F⟩:=ob F;refine pe (i_ x128) (pv_add rfl rfl hx128) (pa (i_ x128) (en q113 ?_));replace S:=S.keep 0;exact ⟨x128,he108,he109,rfl,S,F⟩
 refine cf hb116 (cw_exit (tx q114 (tx q113 ?_)));replace F:=exA F hK106;refine bS q104 (tn q102 ?_);refine sR fun _ q129=>?_;refine pa (i_ (-1)) (en q129 (cw_ret (fin1 rfl rfl ?_)));exact rI F S
set_option maxHeartbeats 4000000 in
theorem spec_ContainsVariable_ok {w0:World} {a0:ByteArray} {u1:Value} {a1:List Int} {a2:Int} (_:a0.size ≤ 9223372036854775807) (ha1:R0_.rd w0 [u1] a1) {N:Nat} {r:Bool} (F:spec_ContainsVariable N a0 a1 a2=some r): Calls Tryz.prog 111 #[.agg #[.string a0,u1],i_ a2] w0 fun e w'=>e=.returned (.bool r)∧Ext w0 w' := by
 unfold spec_ContainsVariable at F;refine calls_E Tryz.func111 rfl rfl (dt rfl) ?_;have S:=Sat.start w0;refine sR fun _ q101=>?_;refine el_box [.string a0,u1] rfl S (dt rfl) ?_;intro w102 b103 S hx104;refine pa (.bool false) (en q101 ?_);refine sg fun _ q106=>?_;refine sR fun _ q107=>?_;refine pa (i_ 0) (en q107 ?_);refine bg fun _ q108=>?_;obtain ⟨s109,hL,hK110⟩:=ob F;refine cw_loopS (fun k e w=>∃ (x111:Int),e 1=i_ a2∧e 2=.pointer (some ⟨b103,0,none⟩)∧e 5=i_ x111∧Sat w0 w [Box b103 99 [.string a0,u1]]∧spec_ContainsVariable_L1 N k a2 a0 a1 x111=some s109) N ?_ ?_ ?_
 ·exact ⟨0,rfl,rfl,rfl,S,hL⟩
 ·rintro e w ⟨_,_,_,_,_,hz⟩; exact nomatch (show none=some _ from hz)
 rintro k e116 w115 ⟨x111,he112,he113,he114,S,F⟩;refine gn fun _ q117=>?_;refine sg fun _ q118=>?_;refine sR fun _ q119=>?_;refine pM (i_ x111) he114 (pe (.pointer (some ⟨b103,0 + 1,none⟩)) (pv_fieldAddr he113) (pe u1 (pv_loadc rfl ((S.boxAt 0 rfl) 1 _ rfl)) (pe (i_ (a1.length:Int)) (pv_len rfl ha1) (pe (.bool (decide (x111 < (a1.length:Int)))) (pv_lss rfl rfl) (en q119 ?_)))));rcases oif F with ⟨hb120,F⟩|⟨hb120,F⟩
 ·refine ct hb120 (sn q118 ?_);refine sg fun _ q121=>?_;refine bg fun _ q122=>?_;refine sR fun _ q123=>?_;refine pe (.pointer (some ⟨b103,0 + 1,none⟩)) (pv_fieldAddr he113) (pe u1 (pv_loadc rfl ((S.boxAt 0 rfl) 1 _ rfl)) (pM (i_ x111) he114 ?_));obtain ⟨x124,hx124,F⟩:=ob F;refine el_index (wA:=w0) rfl ha1 rfl (dt rfl) rfl hx124 (dt rfl) ?_;intro b125 of126 c127 hr128 hm129;obtain rfl:=hr128;refine pe (i_ x124) (pv_loadc rfl ((cells_up S.below hm129) 0 _ rfl)) (pM (i_ a2) he112 (pe (.bool (x124 == a2)) (pv_eql rfl rfl) (en q123 ?_)));rcases oif F with ⟨hb130,F⟩|⟨hb130,F⟩
  ·refine ct hb130 ?_;refine sg fun _ q131=>?_;replace S:Sat w0 w115 []:=S.rems 1 [0] rfl;refine cw_reg (pa (.bool true) (en q131 (cw_ret (br q122 (tr q121 (tr q117 (br q108 (tr q106 ?_))))))));replace F:=exL F hK110;refine fin1 rfl rfl ?_;exact rB F S
  refine cf hb130 (cw_skip (bn q122 (tn q121 (cw_reg (pM (i_ x111) he114 ?_)))));obtain ⟨x132,hx132,F⟩:=ob F;refine pe (i_ x132) (pv_add rfl rfl hx132) (pa (i_ x132) (en q117 ?_));replace S:=S.keep 1;exact ⟨x132,he112,he113,rfl,S,F⟩
 refine cf hb120 (cw_exit (tx q118 (tx q117 ?_)));replace F:=exA F hK110;refine bS q108 (tn q106 ?_);refine sg fun _ q133=>?_;replace S:Sat w0 w115 []:=S.rems 1 [0] rfl;refine cw_reg (pa (.bool false) (en q133 (cw_ret (fin1 rfl rfl ?_))));exact rB F S
set_option maxHeartbeats 4000000 in
theorem spec_IsValidQuery_ok {w0:World} {a0:Int} {u1:Value} {a1:List T2_} {u2:Value} {a2:List Int} (ha1:R6_.rd w0 [u1] a1) (ha2:R0_.rd w0 [u2] a2) {N:Nat} {r:Bool} (F:spec_IsValidQuery N a0 a1 a2=some r): Calls Tryz.prog 107 #[.agg #[i_ a0,u1,u2]] w0 fun e w'=>e=.returned (.bool r)∧Ext w0 w' := by
 unfold spec_IsValidQuery at F;refine calls_E Tryz.func107 rfl rfl (dt rfl) ?_;have S:=Sat.start w0;refine sR fun _ q101=>?_;refine el_box [i_ a0,u1,u2] rfl S (dt rfl) ?_;intro w102 b103 S hx104;refine pa (.bool false) (en q101 ?_);refine sg fun _ q106=>?_;refine sR fun _ q107=>?_;refine pe (.pointer (some ⟨b103,0 + 0,none⟩)) (pv_fieldAddr rfl) (pe (i_ a0) (pv_loadc rfl ((S.boxAt 0 rfl) 0 _ rfl)) ?_);obtain ⟨r108,hr108,F⟩:=ob F;refine ec0 goes63 (spec_l1In_ok hr108) (ca (mapc rfl (mapc rfl (mapc rfl rfl)))) S fun w109 hx110 S=>?_;refine pe (.bool (!r108)) (pv_not rfl) (pm (.bool (!r108)) ?_);rcases oif F with ⟨hb111,F⟩|⟨hb111,F⟩
 ·refine ei (bnot_t hb111) (pe (.pointer (some ⟨b103,0 + 1,none⟩)) (pv_fieldAddr rfl) (ei (bnot_t hb111) (pe u1 (pv_loadc rfl ((S.boxAt 0 rfl) 1 _ rfl)) (ei (bnot_t hb111) (pe (i_ (a1.length:Int)) (pv_len rfl ha1) (ei (bnot_t hb111) ?_))))));obtain ⟨r112,hr112,F⟩:=ob F;refine ec0 goes63 (spec_l1In_ok hr112) (ca (mapc rfl (mapc rfl (mapc rfl rfl)))) S fun w113 hx114 S=>?_;refine ei (bnot_t hb111) (pe (.bool (!r112)) (pv_not rfl) (pe (.bool (!r112)) (pv_pick_f rfl (bnot_t hb111) rfl) (pm (.bool (!r112)) ?_)));rcases oif F with ⟨hb115,F⟩|⟨hb115,F⟩
  ·refine ei (bnot_t hb115) (pe (.pointer (some ⟨b103,0 + 2,none⟩)) (pv_fieldAddr rfl) (ei (bnot_t hb115) (pe u2 (pv_loadc rfl ((S.boxAt 0 rfl) 2 _ rfl)) (ei (bnot_t hb115) (pe (i_ (a2.length:Int)) (pv_len rfl ha2) (ei (bnot_t hb115) (pe (.pointer (some ⟨b103,0 + 0,none⟩)) (pv_fieldAddr rfl) (ei (bnot_t hb115) (pe (i_ a0) (pv_loadc rfl ((S.boxAt 0 rfl) 0 _ rfl)) (ei (bnot_t hb115) (pe (.bool (decide (a0 < (a2.length:Int)))) (pv_gtr rfl rfl) (pe (.bool (decide (a0 < (a2.length:Int)))) (pv_pick_f rfl (bnot_t hb115) rfl) (en q107 ?_)))))))))))));rcases oif F with ⟨hb116,F⟩|⟨hb116,F⟩
   ·refine ct hb116 ?_;refine sg fun _ q117=>?_;replace S:Sat w0 w113 []:=S.rems 1 [0] rfl;refine cw_reg (pa (.bool false) (en q117 (cw_ret (tr q106 (fin1 rfl rfl ?_)))));exact rB F S
   refine cf hb116 (sn q106 ?_);refine sg fun _ q118=>?_;refine sR fun _ q119=>?_;refine pa (i_ 0) (en q119 ?_);refine bg fun _ q120=>?_;obtain ⟨s121,hL,hK122⟩:=ob F;refine cw_loopS (fun k e w=>∃ (x123:Int),e 1=.pointer (some ⟨b103,0,none⟩)∧e 3=i_ x123∧Sat w0 w [Box b103 42 [i_ a0,u1,u2]]∧spec_IsValidQuery_L1 N k a0 a1 a2 x123=some s121) N ?_ ?_ ?_
   ·exact ⟨0,rfl,rfl,S,hL⟩
   ·rintro e w ⟨_,_,_,_,hz⟩; exact nomatch (show none=some _ from hz)
   rintro k e127 w126 ⟨x123,he124,he125,S,F⟩;refine gn fun _ q128=>?_;refine sg fun _ q129=>?_;refine sR fun _ q130=>?_;refine pM (i_ x123) he125 (pe (.pointer (some ⟨b103,0 + 1,none⟩)) (pv_fieldAddr he124) (pe u1 (pv_loadc rfl ((S.boxAt 0 rfl) 1 _ rfl)) (pe (i_ (a1.length:Int)) (pv_len rfl ha1) (pe (.bool (decide (x123 < (a1.length:Int)))) (pv_lss rfl rfl) (en q130 ?_)))));rcases oif F with ⟨hb131,F⟩|⟨hb131,F⟩
   ·refine ct hb131 (sn q129 ?_);refine sg fun _ q132=>?_;refine bg fun _ q133=>?_;refine sg fun _ q134=>?_;refine sR fun _ q135=>?_;refine pe (.pointer (some ⟨b103,0 + 1,none⟩)) (pv_fieldAddr he124) (pe u1 (pv_loadc rfl ((S.boxAt 0 rfl) 1 _ rfl)) (pM (i_ x123) he125 ?_));obtain ⟨x136,hx136,F⟩:=ob F;refine el_index (wA:=w0) rfl ha1 rfl (dt rfl) rfl hx136 (dt rfl) ?_;intro b137 of138 c139 hr140 hm141;obtain ⟨_,_,rfl,hr142,hr143⟩:=hr140;obtain ⟨rfl,hz144⟩:=hr142;obtain ⟨v145,rfl⟩:=slice_one hr143;refine pe (.pointer (some ⟨b137,of138 + 0,none⟩)) (pv_fieldAddr rfl) (pe (.string x136.1) (pv_loadc rfl ((cells_up S.below hm141) 0 _ rfl)) ?_);obtain ⟨r146,hr146,F⟩:=ob F;refine ec0 goes132 (spec_IsValidName_ok hz144 hr146) (ca (mapc rfl rfl)) S fun w147 hx148 S=>?_;refine pe (.bool (!r146)) (pv_not rfl) (pm (.bool (!r146)) ?_);rcases oif F with ⟨hb149,F⟩|⟨hb149,F⟩
    ·refine ei (bnot_t hb149) (pe (.pointer (some ⟨b103,0 + 1,none⟩)) (pv_fieldAddr he124) (ei (bnot_t hb149) (pe u1 (pv_loadc rfl ((S.boxAt 0 rfl) 1 _ rfl)) (ei (bnot_t hb149) (pM (i_ x123) he125 (ei (bnot_t hb149) ?_))))));obtain ⟨x150,hx150,F⟩:=ob F;refine el_index (wA:=w0) rfl ha1 rfl (dt rfl) rfl hx150 (dt rfl) ?_;intro b151 of152 c153 hr154 hm155;obtain ⟨_,_,rfl,hr156,hr157⟩:=hr154;obtain ⟨rfl,hz158⟩:=hr156;obtain ⟨v159,rfl⟩:=slice_one hr157;refine ei (bnot_t hb149) (pe (.pointer (some ⟨b151,of152 + 1,none⟩)) (pv_fieldAddr rfl) (ei (bnot_t hb149) (pe v159 (pv_loadc rfl ((cells_up S.below hm155) 1 _ rfl)) (ei (bnot_t hb149) (pe (i_ (x150.2.length:Int)) (pv_len rfl hr157) (ei (bnot_t hb149) ?_))))));obtain ⟨r160,hr160,F⟩:=ob F;refine ec0 goes63 (spec_l1In_ok hr160) (ca (mapc rfl (mapc rfl (mapc rfl rfl)))) S fun w161 hx162 S=>?_;refine ei (bnot_t hb149) (pe (.bool (!r160)) (pv_not rfl) (pe (.bool (!r160)) (pv_pick_f rfl (bnot_t hb149) rfl) (en q135 ?_)));rcases oif F with ⟨hb163,F⟩|⟨hb163,F⟩
     ·refine cf (bnot_t hb163) (sn q134 ?_);refine sR fun _ q164=>?_;refine pa (i_ 0) (en q164 ?_);refine bg fun _ q165=>?_;obtain ⟨s166,hL,hK167⟩:=ob F;refine cw_loopS (fun k e w=>∃ (x168:Int),e 1=.pointer (some ⟨b103,0,none⟩)∧e 3=i_ x123∧e 4=i_ x168∧Sat w0 w [Box b103 42 [i_ a0,u1,u2]]∧spec_IsValidQuery_L2 N k a0 a1 a2 x123 x168=some s166) N ?_ ?_ ?_
      ·exact ⟨0,he124,he125,rfl,S,hL⟩
      ·rintro e w ⟨_,_,_,_,_,hz⟩; exact nomatch (show none=some _ from hz)
      rintro k e173 w172 ⟨x168,he169,he170,he171,S,F⟩;refine gn fun _ q174=>?_;refine sg fun _ q175=>?_;refine sR fun _ q176=>?_;refine pM (i_ x168) he171 (pe (.pointer (some ⟨b103,0 + 1,none⟩)) (pv_fieldAddr he169) (pe u1 (pv_loadc rfl ((S.boxAt 0 rfl) 1 _ rfl)) (pM (i_ x123) he170 ?_)));obtain ⟨x177,hx177,F⟩:=ob F;refine el_index (wA:=w0) rfl ha1 rfl (dt rfl) rfl hx177 (dt rfl) ?_;intro b178 of179 c180 hr181 hm182;obtain ⟨_,_,rfl,hr183,hr184⟩:=hr181;obtain ⟨rfl,hz185⟩:=hr183;obtain ⟨v186,rfl⟩:=slice_one hr184;refine pe (.pointer (some ⟨b178,of179 + 1,none⟩)) (pv_fieldAddr rfl) (pe v186 (pv_loadc rfl ((cells_up S.below hm182) 1 _ rfl)) (pe (i_ (x177.2.length:Int)) (pv_len rfl hr184) (pe (.bool (decide (x168 < (x177.2.length:Int)))) (pv_lss rfl rfl) (en q176 ?_))));rcases oif F with ⟨hb187,F⟩|⟨hb187,F⟩
      ·refine ct hb187 (sn q175 ?_);refine sg fun _ q188=>?_;refine bg fun _ q189=>?_;refine sg fun _ q190=>?_;refine cw_regq (by kernel_rfl) (by kernel_rfl) ?_;refine qe (.pointer (some ⟨b103,0 + 1,none⟩)) (pv_fieldAddr he169) (qe u1 (pv_loadc rfl ((S.boxAt 0 rfl) 1 _ rfl)) (qM (i_ x123) he170 ?_));obtain ⟨x191,hx191,F⟩:=ob F;refine ql_index (wA:=w0) rfl ha1 rfl (dt rfl) rfl hx191 (dt rfl) ?_;intro b192 of193 c194 hr195 hm196;obtain ⟨_,_,rfl,hr197,hr198⟩:=hr195;obtain ⟨rfl,hz199⟩:=hr197;obtain ⟨v200,rfl⟩:=slice_one hr198;refine qe (.pointer (some ⟨b192,of193 + 1,none⟩)) (pv_fieldAddr rfl) (qe v200 (pv_loadc rfl ((cells_up S.below hm196) 1 _ rfl)) (qM (i_ x168) he171 ?_));obtain ⟨x201,hx201,F⟩:=ob F;refine ql_index (wA:=w0) rfl hr198 rfl (dt rfl) rfl hx201 (dt rfl) ?_;intro b202 of203 c204 hr205 hm206;obtain rfl:=hr205;refine qe (i_ x201) (pv_loadc rfl ((cells_up S.below hm206) 0 _ rfl)) (qe (.pointer (some ⟨b103,0 + 0,none⟩)) (pv_fieldAddr he169) (qe (i_ a0) (pv_loadc rfl ((S.boxAt 0 rfl) 0 _ rfl)) ?_));obtain ⟨x207,hx207,F⟩:=ob F;refine qe (i_ x207) (pv_sub rfl rfl hx207) ?_;obtain ⟨r208,hr208,F⟩:=ob F;refine ql_call (.bool r208) goes63 (fun w' hw'=>spec_l1In_ok hr208) (ca (mapc rfl (mapc rfl (mapc rfl rfl)))) (dt rfl) ?_;refine qe (.bool (!r208)) (pv_not rfl) (ql_nil ?_);intro w209 hx210;replace S:=S.ext hx210;refine tn q190 ?_;rcases oif F with ⟨hb211,F⟩|⟨hb211,F⟩
       ·refine cf (bnot_t hb211) (cw_skip (bn q189 (tn q188 (cw_reg (pM (i_ x168) he171 ?_)))));obtain ⟨x212,hx212,F⟩:=ob F;refine pe (i_ x212) (pv_add rfl rfl hx212) (pa (i_ x212) (en q174 ?_));replace S:=S.keep 1;exact ⟨x212,he169,he170,rfl,S,F⟩
       refine ct (bnot_f hb211) ?_;refine sg fun _ q213=>?_;replace S:Sat w0 w209 []:=S.rems 1 [0] rfl;refine cw_reg (pa (.bool false) (en q213 (cw_ret (br q189 (tr q188 (tr q174 (br q165 (br q133 (tr q132 (tr q128 (br q120 (tr q118 ?_))))))))))));replace F:=exL F hK167;replace F:=exL F hK122;refine fin1 rfl rfl ?_;exact rB F S
      refine cf hb187 (cw_exit (tx q175 (tx q174 ?_)));replace F:=exA F hK167;refine bS q165 (bn q133 (tn q132 (cw_reg (pM (i_ x123) he170 ?_))));obtain ⟨x214,hx214,F⟩:=ob F;refine pe (i_ x214) (pv_add rfl rfl hx214) (pa (i_ x214) (en q128 ?_));replace S:=S.keep 1;exact ⟨x214,he169,rfl,S,F⟩
     refine ct (bnot_f hb163) ?_;refine sg fun _ q215=>?_;replace S:Sat w0 w161 []:=S.rems 1 [0] rfl;refine cw_reg (pa (.bool false) (en q215 (cw_ret (tr q134 (br q133 (tr q132 (tr q128 (br q120 (tr q118 ?_)))))))));replace F:=exL F hK122;refine fin1 rfl rfl ?_;exact rB F S
    refine eo (bnot_f hb149) (eo (bnot_f hb149) (eo (bnot_f hb149) (eo (bnot_f hb149) (eo (bnot_f hb149) (eo (bnot_f hb149) (eo (bnot_f hb149) (eo (bnot_f hb149) (eo (bnot_f hb149) (pe (.bool true) (pv_pick_t rfl (bnot_f hb149) rfl) (en q135 (ct rfl ?_)))))))))));refine sg fun _ q216=>?_;replace S:Sat w0 w147 []:=S.rems 1 [0] rfl;refine cw_reg (pa (.bool false) (en q216 (cw_ret (tr q134 (br q133 (tr q132 (tr q128 (br q120 (tr q118 ?_)))))))));replace F:=exL F hK122;refine fin1 rfl rfl ?_;exact rB F S
   refine cf hb131 (cw_exit (tx q129 (tx q128 ?_)));replace F:=exA F hK122;refine bS q120 (tn q118 ?_);refine sg fun _ q217=>?_;refine sR fun _ q218=>?_;refine pa (i_ 0) (en q218 ?_);refine bg fun _ q219=>?_;obtain ⟨s220,hL,hK221⟩:=ob F;refine cw_loopS (fun k e w=>∃ (x222:Int),e 1=.pointer (some ⟨b103,0,none⟩)∧e 5=i_ x222∧Sat w0 w [Box b103 42 [i_ a0,u1,u2]]∧spec_IsValidQuery_L3 N k a0 a1 a2 x222=some s220) N ?_ ?_ ?_
   ·exact ⟨0,he124,rfl,S,hL⟩
   ·rintro e w ⟨_,_,_,_,hz⟩; exact nomatch (show none=some _ from hz)
   rintro k e226 w225 ⟨x222,he223,he224,S,F⟩;refine gn fun _ q227=>?_;refine sg fun _ q228=>?_;refine sR fun _ q229=>?_;refine pM (i_ x222) he224 (pe (.pointer (some ⟨b103,0 + 0,none⟩)) (pv_fieldAddr he223) (pe (i_ a0) (pv_loadc rfl ((S.boxAt 0 rfl) 0 _ rfl)) (pe (.bool (decide (x222 < a0))) (pv_lss rfl rfl) (en q229 ?_))));rcases oif F with ⟨hb230,F⟩|⟨hb230,F⟩
   ·refine ct hb230 (sn q228 ?_);refine sg fun _ q231=>?_;refine bg fun _ q232=>?_;refine sR fun _ q233=>?_;refine pa (.bool false) (en q233 ?_);refine sg fun _ q234=>?_;refine sR fun _ q235=>?_;refine pa (i_ 0) (en q235 ?_);refine bg fun _ q236=>?_;obtain ⟨s237,hL,hK238⟩:=ob F;refine cw_loopS (fun k e w=>∃ (x239:Bool),∃ (x240:Int),e 1=.pointer (some ⟨b103,0,none⟩)∧e 5=i_ x222∧e 6=.bool x239∧e 7=i_ x240∧Sat w0 w [Box b103 42 [i_ a0,u1,u2]]∧spec_IsValidQuery_L4 N k a0 a1 a2 x222 x239 x240=some s237) N ?_ ?_ ?_
    ·exact ⟨false,0,he223,he224,rfl,rfl,S,hL⟩
    ·rintro e w ⟨_,_,_,_,_,_,_,hz⟩; exact nomatch (show none=some _ from hz)
    rintro k e246 w245 ⟨x239,x240,he241,he242,he243,he244,S,F⟩;refine gn fun _ q247=>?_;refine sg fun _ q248=>?_;refine sR fun _ q249=>?_;refine pM (i_ x240) he244 (pe (.pointer (some ⟨b103,0 + 1,none⟩)) (pv_fieldAddr he241) (pe u1 (pv_loadc rfl ((S.boxAt 0 rfl) 1 _ rfl)) (pe (i_ (a1.length:Int)) (pv_len rfl ha1) (pe (.bool (decide (x240 < (a1.length:Int)))) (pv_lss rfl rfl) (en q249 ?_)))));rcases oif F with ⟨hb250,F⟩|⟨hb250,F⟩
    ·refine ct hb250 (sn q248 ?_);refine sg fun _ q251=>?_;refine bg fun _ q252=>?_;refine cw_reg (pM (.bool x239) he243 (pm (.bool x239) ?_));rcases oif F with ⟨hb253,F⟩|⟨hb253,F⟩
     ·refine eo hb253 (eo hb253 (eo hb253 (eo hb253 (eo hb253 (eo hb253 (eo hb253 (pe (.bool true) (pv_pick_t rfl hb253 rfl) (pa (.bool true) (el_nil (bn q252 (tn q251 (cw_reg (pM (i_ x240) he244 ?_)))))))))))));obtain ⟨x254,hx254,F⟩:=ob F;refine pe (i_ x254) (pv_add rfl rfl hx254) (pa (i_ x254) (en q247 ?_));replace S:=S.keep 1;exact ⟨true,x254,he241,he242,rfl,rfl,S,F⟩
     refine ei hb253 (pe (.pointer (some ⟨b103,0 + 1,none⟩)) (pv_fieldAddr he241) (ei hb253 (pe u1 (pv_loadc rfl ((S.boxAt 0 rfl) 1 _ rfl)) (ei hb253 (pM (i_ x240) he244 (ei hb253 ?_))))));obtain ⟨x255,hx255,F⟩:=ob F;refine el_index (wA:=w0) rfl ha1 rfl (dt rfl) rfl hx255 (dt rfl) ?_;intro b256 of257 c258 hr259 hm260;obtain ⟨_,_,rfl,hr261,hr262⟩:=hr259;obtain ⟨rfl,hz263⟩:=hr261;obtain ⟨v264,rfl⟩:=slice_one hr262;refine ei hb253 (pe (.agg #[.string x255.1,v264]) (pv_loada (cs:=[.string x255.1,v264]) rfl rfl (cells_up S.below hm260)) (ei hb253 (pM (i_ x222) he242 (ei hb253 ?_))));obtain ⟨r265,hr265,F⟩:=ob F;refine ec0 goes111 (spec_ContainsVariable_ok hz263 (S.up hr262) hr265) (ca (mapc rfl (mapc rfl rfl))) S fun w266 hx267 S=>?_;refine pe (.bool r265) (pv_pick_f rfl hb253 rfl) (pa (.bool r265) (el_nil (bn q252 (tn q251 (cw_reg (pM (i_ x240) he244 ?_))))));obtain ⟨x268,hx268,F⟩:=ob F;refine pe (i_ x268) (pv_add rfl rfl hx268) (pa (i_ x268) (en q247 ?_));replace S:=S.keep 1;exact ⟨r265,x268,he241,he242,rfl,rfl,S,F⟩
    refine cf hb250 (cw_exit (tx q248 (tx q247 ?_)));replace F:=exB F hK238;refine bS q236 (tn q234 ?_);refine sR fun _ q269=>?_;refine pM (.bool x239) he243 (pe (.bool (!x239)) (pv_not rfl) (en q269 ?_));rcases oif F with ⟨hb270,F⟩|⟨hb270,F⟩
    ·refine cf (bnot_t hb270) (cw_skip (bn q232 (tn q231 (cw_reg (pM (i_ x222) he242 ?_)))));obtain ⟨x271,hx271,F⟩:=ob F;refine pe (i_ x271) (pv_add rfl rfl hx271) (pa (i_ x271) (en q227 ?_));replace S:=S.keep 1;exact ⟨x271,he241,rfl,S,F⟩
    refine ct (bnot_f hb270) ?_;refine sg fun _ q272=>?_;replace S:Sat w0 w245 []:=S.rems 1 [0] rfl;refine cw_reg (pa (.bool false) (en q272 (cw_ret (br q232 (tr q231 (tr q227 (br q219 (tr q217 ?_))))))));replace F:=exL F hK221;refine fin1 rfl rfl ?_;exact rB F S
   refine cf hb230 (cw_exit (tx q228 (tx q227 ?_)));replace F:=exA F hK221;refine bS q219 (tn q217 ?_);refine sg fun _ q273=>?_;refine sR fun _ q274=>?_;refine pa (i_ 0) (en q274 ?_);refine bg fun _ q275=>?_;obtain ⟨s276,hL,hK277⟩:=ob F;refine cw_loopS (fun k e w=>∃ (x278:Int),e 1=.pointer (some ⟨b103,0,none⟩)∧e 8=i_ x278∧Sat w0 w [Box b103 42 [i_ a0,u1,u2]]∧spec_IsValidQuery_L5 N k a0 a1 a2 x278=some s276) N ?_ ?_ ?_
   ·exact ⟨0,he223,rfl,S,hL⟩
   ·rintro e w ⟨_,_,_,_,hz⟩; exact nomatch (show none=some _ from hz)
   rintro k e282 w281 ⟨x278,he279,he280,S,F⟩;refine gn fun _ q283=>?_;refine sg fun _ q284=>?_;refine sR fun _ q285=>?_;refine pM (i_ x278) he280 (pe (.pointer (some ⟨b103,0 + 2,none⟩)) (pv_fieldAddr he279) (pe u2 (pv_loadc rfl ((S.boxAt 0 rfl) 2 _ rfl)) (pe (i_ (a2.length:Int)) (pv_len rfl ha2) (pe (.bool (decide (x278 < (a2.length:Int)))) (pv_lss rfl rfl) (en q285 ?_)))));rcases oif F with ⟨hb286,F⟩|⟨hb286,F⟩
   ·refine ct hb286 (sn q284 ?_);refine sg fun _ q287=>?_;refine bg fun _ q288=>?_;refine sg fun _ q289=>?_;refine cw_regq (by kernel_rfl) (by kernel_rfl) ?_;refine qe (.pointer (some ⟨b103,0 + 2,none⟩)) (pv_fieldAddr he279) (qe u2 (pv_loadc rfl ((S.boxAt 0 rfl) 2 _ rfl)) (qM (i_ x278) he280 ?_));obtain ⟨x290,hx290,F⟩:=ob F;refine ql_index (wA:=w0) rfl ha2 rfl (dt rfl) rfl hx290 (dt rfl) ?_;intro b291 of292 c293 hr294 hm295;obtain rfl:=hr294;refine qe (i_ x290) (pv_loadc rfl ((cells_up S.below hm295) 0 _ rfl)) (qe (.pointer (some ⟨b103,0 + 0,none⟩)) (pv_fieldAddr he279) (qe (i_ a0) (pv_loadc rfl ((S.boxAt 0 rfl) 0 _ rfl)) ?_));obtain ⟨x296,hx296,F⟩:=ob F;refine qe (i_ x296) (pv_sub rfl rfl hx296) ?_;obtain ⟨r297,hr297,F⟩:=ob F;refine ql_call (.bool r297) goes63 (fun w' hw'=>spec_l1In_ok hr297) (ca (mapc rfl (mapc rfl (mapc rfl rfl)))) (dt rfl) ?_;refine qe (.bool (!r297)) (pv_not rfl) (qm (.bool (!r297)) ?_);rcases oif F with ⟨hb298,F⟩|⟨hb298,F⟩
    ·refine qi (bnot_t hb298) (qe (.pointer (some ⟨b103,0 + 2,none⟩)) (pv_fieldAddr he279) (qi (bnot_t hb298) (qe u2 (pv_loadc rfl ((S.boxAt 0 rfl) 2 _ rfl)) (qi (bnot_t hb298) (qM (i_ x278) he280 (qi (bnot_t hb298) ?_))))));obtain ⟨x299,hx299,F⟩:=ob F;refine ql_slice (wA:=w0) rfl rfl ha2 (.inr ⟨rfl,rfl⟩) (.inl (congrArg some rfl)) hx299 (dt rfl) ?_;intro v300 hr301;refine qi (bnot_t hb298) (qe (.pointer (some ⟨b103,0 + 2,none⟩)) (pv_fieldAddr he279) (qi (bnot_t hb298) (qe u2 (pv_loadc rfl ((S.boxAt 0 rfl) 2 _ rfl)) (qi (bnot_t hb298) (qM (i_ x278) he280 (qi (bnot_t hb298) ?_))))));obtain ⟨x302,hx302,F⟩:=ob F;refine ql_index (wA:=w0) rfl ha2 rfl (dt rfl) rfl hx302 (dt rfl) ?_;intro b303 of304 c305 hr306 hm307;obtain rfl:=hr306;refine qi (bnot_t hb298) (qe (i_ x302) (pv_loadc rfl ((cells_up S.below hm307) 0 _ rfl)) (qi (bnot_t hb298) ?_));obtain ⟨r308,hr308,F⟩:=ob F;refine ql_call (i_ r308) goes59 (fun w' hw'=>spec_l7Find_ok (rd_up (S.up hr301) hw') hr308) (ca (mapc rfl (mapc rfl rfl))) (dt rfl) ?_;refine qi (bnot_t hb298) (qe (.bool (decide (0 ≤ r308))) (pv_geq rfl rfl) (qe (.bool (decide (0 ≤ r308))) (pv_pick_f rfl (bnot_t hb298) rfl) (ql_nil ?_)));intro w309 hx310;replace S:=S.ext hx310;refine tn q289 ?_;rcases oif F with ⟨hb311,F⟩|⟨hb311,F⟩
     ·refine ct hb311 ?_;refine sg fun _ q312=>?_;replace S:Sat w0 w309 []:=S.rems 1 [0] rfl;refine cw_reg (pa (.bool false) (en q312 (cw_ret (br q288 (tr q287 (tr q283 (br q275 (tr q273 ?_))))))));replace F:=exL F hK277;refine fin1 rfl rfl ?_;exact rB F S
     refine cf hb311 (cw_skip (bn q288 (tn q287 (cw_reg (pM (i_ x278) he280 ?_)))));obtain ⟨x313,hx313,F⟩:=ob F;refine pe (i_ x313) (pv_add rfl rfl hx313) (pa (i_ x313) (en q283 ?_));replace S:=S.keep 1;exact ⟨x313,he279,rfl,S,F⟩
    refine qo (bnot_f hb298) (qo (bnot_f hb298) (qo (bnot_f hb298) (qo (bnot_f hb298) (qo (bnot_f hb298) (qo (bnot_f hb298) (qo (bnot_f hb298) (qo (bnot_f hb298) (qo (bnot_f hb298) (qo (bnot_f hb298) (qo (bnot_f hb298) (qe (.bool true) (pv_pick_t rfl (bnot_f hb298) rfl) (ql_nil ?_))))))))))));intro w314 hx315;replace S:=S.ext hx315;refine tn q289 (ct rfl ?_);refine sg fun _ q316=>?_;replace S:Sat w0 w314 []:=S.rems 1 [0] rfl;refine cw_reg (pa (.bool false) (en q316 (cw_ret (br q288 (tr q287 (tr q283 (br q275 (tr q273 ?_))))))));replace F:=exL F hK277;refine fin1 rfl rfl ?_;exact rB F S
   refine cf hb286 (cw_exit (tx q284 (tx q283 ?_)));replace F:=exA F hK277;refine bS q275 (tn q273 ?_);refine sg fun _ q317=>?_;replace S:Sat w0 w281 []:=S.rems 1 [0] rfl;refine cw_reg (pa (.bool true) (en q317 (cw_ret (fin1 rfl rfl ?_))));exact rB F S
  refine eo (bnot_f hb115) (eo (bnot_f hb115) (eo (bnot_f hb115) (eo (bnot_f hb115) (eo (bnot_f hb115) (eo (bnot_f hb115) (pe (.bool true) (pv_pick_t rfl (bnot_f hb115) rfl) (en q107 (ct rfl ?_))))))));refine sg fun _ q318=>?_;replace S:Sat w0 w113 []:=S.rems 1 [0] rfl;refine cw_reg (pa (.bool false) (en q318 (cw_ret (tr q106 (fin1 rfl rfl ?_)))));exact rB F S
 refine eo (bnot_f hb111) (eo (bnot_f hb111) (eo (bnot_f hb111) (eo (bnot_f hb111) (eo (bnot_f hb111) (pe (.bool true) (pv_pick_t rfl (bnot_f hb111) rfl) (pm (.bool true) (eo rfl (eo rfl (eo rfl (eo rfl (eo rfl (eo rfl (pe (.bool true) (pv_pick_t rfl rfl rfl) (en q107 (ct rfl ?_)))))))))))))));refine sg fun _ q319=>?_;replace S:Sat w0 w109 []:=S.rems 1 [0] rfl;refine cw_reg (pa (.bool false) (en q319 (cw_ret (tr q106 (fin1 rfl rfl ?_)))));exact rB F S
set_option maxHeartbeats 4000000 in
theorem spec_IsQueryFor_ok {w0:World} {u0:Value} {a0:List T6_} {a1:Int} {u2:Value} {a2:List T2_} {u3:Value} {a3:List Int} (ha0:R10_.rd w0 [u0] a0) (ha2:R6_.rd w0 [u2] a2) (ha3:R0_.rd w0 [u3] a3) {N:Nat} {r:Bool} (F:spec_IsQueryFor N a0 a1 a2 a3=some r): Calls Tryz.prog 68 #[.agg #[u0],.agg #[i_ a1,u2,u3]] w0 fun e w'=>e=.returned (.bool r)∧Ext w0 w' := by
 unfold spec_IsQueryFor at F;refine calls_E Tryz.func68 rfl rfl (dt rfl) ?_;have S:=Sat.start w0;refine sR fun _ q101=>?_;refine el_box [u0] rfl S (dt rfl) ?_;intro w102 b103 S hx104;refine el_box [i_ a1,u2,u3] rfl S (dt rfl) ?_;intro w106 b107 S hx108;refine pa (.bool false) (en q101 ?_);refine sg fun _ q110=>?_;refine sR fun _ q111=>?_;refine pa (i_ 0) (en q111 ?_);refine bg fun _ q112=>?_;obtain ⟨s113,hL,hK114⟩:=ob F;refine cw_loopS (fun k e w=>∃ (x115:Int),e 2=.pointer (some ⟨b103,0,none⟩)∧e 3=.pointer (some ⟨b107,0,none⟩)∧e 5=i_ x115∧Sat w0 w [Box b107 42 [i_ a1,u2,u3],Box b103 38 [u0]]∧spec_IsQueryFor_L1 N k a0 a1 a2 a3 x115=some s113) N ?_ ?_ ?_
 ·exact ⟨0,rfl,rfl,rfl,S,hL⟩
 ·rintro e w ⟨_,_,_,_,_,hz⟩; exact nomatch (show none=some _ from hz)
 rintro k e120 w119 ⟨x115,he116,he117,he118,S,F⟩;refine gn fun _ q121=>?_;refine sg fun _ q122=>?_;refine sR fun _ q123=>?_;refine pM (i_ x115) he118 (pe (.pointer (some ⟨b107,0 + 1,none⟩)) (pv_fieldAddr he117) (pe u2 (pv_loadc rfl ((S.boxAt 0 rfl) 1 _ rfl)) (pe (i_ (a2.length:Int)) (pv_len rfl ha2) (pe (.bool (decide (x115 < (a2.length:Int)))) (pv_lss rfl rfl) (en q123 ?_)))));rcases oif F with ⟨hb124,F⟩|⟨hb124,F⟩
 ·refine ct hb124 (sn q122 ?_);refine sg fun _ q125=>?_;refine bg fun _ q126=>?_;refine sg fun _ q127=>?_;obtain ⟨x130,hx130,F⟩:=ob F;obtain ⟨r140,hr140,F⟩:=ob F;refine cw_mid (fun e w=>∃ (b146:Nat),∃ (v141:Value),e 2=.pointer (some ⟨b103,0,none⟩)∧e 3=.pointer (some ⟨b107,0,none⟩)∧e 5=i_ x115∧e 6=.pointer (some ⟨b146,0,none⟩)∧e 7=.bool r140.2∧Sat w0 w [Box b107 42 [i_ a1,u2,u3],Box b103 38 [u0],Box b146 33 [i_ r140.1.1,v141],Own R2_ [v141] r140.1.2]) ?_ ?_
  ·obtain ⟨C,hCd⟩:∃ C:World → Prop,∀ w,C w ↔ ∃ G,Sat w0 w ([Box b107 42 [i_ a1,u2,u3],Box b103 38 [u0]] ++ G):=⟨_,fun _=>Iff.rfl⟩;refine cw_regb [0,1,2,3,4,5,6,7,8,9,10,11,12,13] C (by kernel_rfl) ?_;intro w150 hx151;replace S:=S.ext hx151;have hC:=(hCd _).2 ⟨_,S⟩;refine aP (.agg #[u0]) 0 rfl rfl hC (sv_on rfl (fun w' hw'=>by obtain ⟨_,S⟩:=(hCd _).1 hw'; exact (pv_loada (cs:=[u0]) he116 rfl (boxc0 (S.boxAt 1 rfl))))) ?_;refine aP (.pointer (some ⟨b107,0 + 1,none⟩)) 1 rfl rfl hC (sv_on rfl (fun w' hw'=>by obtain ⟨_,S⟩:=(hCd _).1 hw'; exact (pv_fieldAddr he117))) ?_;refine aP u2 2 rfl rfl hC (sv_on rfl (fun w' hw'=>by obtain ⟨_,S⟩:=(hCd _).1 hw'; exact (pv_loadc rfl ((S.boxAt 0 rfl) 1 _ rfl)))) ?_;refine aP (i_ x115) 3 rfl rfl hC (sv_on rfl (fun w' hw'=>by obtain ⟨_,S⟩:=(hCd _).1 hw'; exact (pv_move he118))) ?_;refine al_index (wA:=w0) (by kernel_rfl) 4 rfl hC (by kernel_rfl) (by kernel_rfl) rfl ha2 rfl (dt rfl) rfl hx130 (dt rfl) ?_;intro b131 of132 c133 hr134 hm135;obtain ⟨_,_,rfl,hr136,hr137⟩:=hr134;obtain ⟨rfl,hz138⟩:=hr136;obtain ⟨v139,rfl⟩:=slice_one hr137;refine aP (.pointer (some ⟨b131,of132 + 0,none⟩)) 5 rfl rfl hC (sv_on rfl (fun w' hw'=>by obtain ⟨_,S⟩:=(hCd _).1 hw'; exact (pv_fieldAddr rfl))) ?_;refine aP (.string x130.1) 6 rfl rfl hC (sv_on rfl (fun w' hw'=>by obtain ⟨_,S⟩:=(hCd _).1 hw'; exact (pv_loadc rfl ((cells_up S.below hm135) 0 _ rfl)))) ?_;refine al_two 7 11 (by kernel_rfl) rfl rfl ?_ ?_
   ·refine ec1 goes106 (spec_LookupRelation_ok (S.up ha0) hz138 hr140) (ca (mapc rfl (mapc rfl rfl))) S fun w143 v141 hx144 S=>?_;refine el_nil ?_;replace S:Sat w0 w143 [Box b107 42 [i_ a1,u2,u3],Box b103 38 [u0],Own R2_ [v141] r140.1.2]:=S.tops 3 [1,2] rfl;have hC:=(hCd _).2 ⟨_,S⟩;refine ⟨fun _=>hC,?_⟩;refine aP (.tuple #[.agg #[i_ r140.1.1,v141],.bool r140.2]) 8 rfl rfl hC (sv_on rfl (fun w' hw'=>by obtain ⟨_,S⟩:=(hCd _).1 hw'; exact (pv_move rfl))) ?_;refine aP (.agg #[i_ r140.1.1,v141]) 9 rfl rfl hC (sv_on rfl (fun w' hw'=>by obtain ⟨_,S⟩:=(hCd _).1 hw'; exact (pv_extract rfl rfl))) ?_;refine aP (.bool r140.2) 10 rfl rfl hC (sv_on rfl (fun w' hw'=>by obtain ⟨_,S⟩:=(hCd _).1 hw'; exact (pv_extract rfl rfl))) ?_;refine aO 11 rfl ?_;refine el_alloc S (dt rfl) ?_;intro w145 b146 S hx147;refine el_nil ?_;replace S:Sat w0 w145 [Box b107 42 [i_ a1,u2,u3],Box b103 38 [u0],Box b146 33 [i_ 0,n_],Own R2_ [v141] r140.1.2]:=S.tops 4 [1,2] rfl;have hC:=(hCd _).2 ⟨_,S⟩;refine ⟨fun _=>hC,?_⟩;refine aO 12 rfl ?_;refine el_storev (S.top 2 rfl) rfl [i_ r140.1.1,v141] rfl rfl (dt rfl) (all_cons rfl (all_cons (oc (S.rdAt (R:=R2_) 3 rfl)) rfl)) ?_;intro w149 S;replace S:Sat w0 w149 [Box b146 33 [i_ r140.1.1,v141],Box b107 42 [i_ a1,u2,u3],Box b103 38 [u0],Own R2_ [v141] r140.1.2]:=S;refine el_nil ?_;replace S:Sat w0 w149 [Box b107 42 [i_ a1,u2,u3],Box b103 38 [u0],Box b146 33 [i_ r140.1.1,v141],Own R2_ [v141] r140.1.2]:=S.tops 4 [1,2] rfl;have hC:=(hCd _).2 ⟨_,S⟩;refine ⟨fun _=>hC,?_⟩;refine aO 13 rfl ?_;refine pa (.bool r140.2) (el_nil ?_);refine ⟨fun _=>hC,?_⟩;refine al_nil (by kernel_rfl) ?_;exact ⟨rfl,b146,v141,he116,he117,he118,rfl,rfl,S⟩
   refine el_alloc S (dt rfl) ?_;intro w145 b146 S hx147;refine el_nil ?_;replace S:Sat w0 w145 [Box b107 42 [i_ a1,u2,u3],Box b103 38 [u0],Box b146 33 [i_ 0,n_]]:=S.tops 3 [1,2] rfl;have hC:=(hCd _).2 ⟨_,S⟩;refine ⟨fun _=>hC,?_⟩;refine aO 7 rfl ?_;refine ec1 goes106 (spec_LookupRelation_ok (S.up ha0) hz138 hr140) (ca (mapc rfl (mapc rfl rfl))) S fun w143 v141 hx144 S=>?_;refine el_nil ?_;replace S:Sat w0 w143 [Box b107 42 [i_ a1,u2,u3],Box b103 38 [u0],Own R2_ [v141] r140.1.2,Box b146 33 [i_ 0,n_]]:=S.tops 4 [1,2] rfl;have hC:=(hCd _).2 ⟨_,S⟩;refine ⟨fun _=>hC,?_⟩;refine aO 8 rfl ?_;refine pm (.tuple #[.agg #[i_ r140.1.1,v141],.bool r140.2]) (el_nil ?_);refine ⟨fun _=>hC,?_⟩;refine aP (.agg #[i_ r140.1.1,v141]) 9 rfl rfl hC (sv_on rfl (fun w' hw'=>by obtain ⟨_,S⟩:=(hCd _).1 hw'; exact (pv_extract rfl rfl))) ?_;refine aP (.bool r140.2) 10 rfl rfl hC (sv_on rfl (fun w' hw'=>by obtain ⟨_,S⟩:=(hCd _).1 hw'; exact (pv_extract rfl rfl))) ?_;refine aO 12 rfl ?_;refine el_storev (S.top 3 rfl) rfl [i_ r140.1.1,v141] rfl rfl (dt rfl) (all_cons rfl (all_cons (oc (S.rdAt (R:=R2_) 2 rfl)) rfl)) ?_;intro w149 S;replace S:Sat w0 w149 [Box b146 33 [i_ r140.1.1,v141],Box b107 42 [i_ a1,u2,u3],Box b103 38 [u0],Own R2_ [v141] r140.1.2]:=S;refine el_nil ?_;replace S:Sat w0 w149 [Box b107 42 [i_ a1,u2,u3],Box b103 38 [u0],Box b146 33 [i_ r140.1.1,v141],Own R2_ [v141] r140.1.2]:=S.tops 4 [1,2] rfl;have hC:=(hCd _).2 ⟨_,S⟩;refine ⟨fun _=>hC,?_⟩;refine aO 13 rfl ?_;refine pa (.bool r140.2) (el_nil ?_);refine ⟨fun _=>hC,?_⟩;refine al_nil (by kernel_rfl) ?_;exact ⟨rfl,b146,v141,he116,he117,he118,rfl,rfl,S⟩
  rintro e152 w153 ⟨b146,v141,he154,he155,he156,he157,he158,S⟩;refine tn q127 ?_;refine sg fun _ q159=>?_;refine cw_regq (by kernel_rfl) (by kernel_rfl) ?_;refine qM (.bool r140.2) he158 (qe (.bool (!r140.2)) (pv_not rfl) (qm (.bool (!r140.2)) ?_));rcases oif F with ⟨hb160,F⟩|⟨hb160,F⟩
  ·refine qi (bnot_t hb160) (qe (.pointer (some ⟨b146,0 + 0,none⟩)) (pv_fieldAddr he157) (qi (bnot_t hb160) (qe (i_ r140.1.1) (pv_loadc rfl ((S.boxAt 2 rfl) 0 _ rfl)) (qi (bnot_t hb160) (qe (.pointer (some ⟨b107,0 + 1,none⟩)) (pv_fieldAddr he155) (qi (bnot_t hb160) (qe u2 (pv_loadc rfl ((S.boxAt 0 rfl) 1 _ rfl)) (qi (bnot_t hb160) (qM (i_ x115) he156 (qi (bnot_t hb160) ?_))))))))));obtain ⟨x161,hx161,F⟩:=ob F;refine ql_index (wA:=w0) rfl ha2 rfl (dt rfl) rfl hx161 (dt rfl) ?_;intro b162 of163 c164 hr165 hm166;obtain ⟨_,_,rfl,hr167,hr168⟩:=hr165;obtain ⟨rfl,hz169⟩:=hr167;obtain ⟨v170,rfl⟩:=slice_one hr168;refine qi (bnot_t hb160) (qe (.pointer (some ⟨b162,of163 + 1,none⟩)) (pv_fieldAddr rfl) (qi (bnot_t hb160) (qe v170 (pv_loadc rfl ((cells_up S.below hm166) 1 _ rfl)) (qi (bnot_t hb160) (qe (i_ (x161.2.length:Int)) (pv_len rfl hr168) (qi (bnot_t hb160) (qe (.bool (r140.1.1 != (x161.2.length:Int))) (pv_neq rfl rfl) (qe (.bool (r140.1.1 != (x161.2.length:Int))) (pv_pick_f rfl (bnot_t hb160) rfl) (ql_nil ?_)))))))));intro w171 hx172;replace S:=S.ext hx172;refine tn q159 ?_;rcases oif F with ⟨hb173,F⟩|⟨hb173,F⟩
   ·refine ct hb173 ?_;refine sg fun _ q174=>?_;replace S:Sat w0 w171 []:=S.rems 4 [0,1,2,3] rfl;refine cw_reg (pa (.bool false) (en q174 (cw_ret (br q126 (tr q125 (tr q121 (br q112 (tr q110 ?_))))))));replace F:=exL F hK114;refine fin1 rfl rfl ?_;exact rB F S
   refine cf hb173 (cw_skip (bn q126 (tn q125 ?_)));replace S:Sat w0 w171 [Box b107 42 [i_ a1,u2,u3],Box b103 38 [u0]]:=S.rems 4 [2,3] rfl;refine cw_reg (pM (i_ x115) he156 ?_);obtain ⟨x175,hx175,F⟩:=ob F;refine pe (i_ x175) (pv_add rfl rfl hx175) (pa (i_ x175) (en q121 ?_));replace S:=S.keep 2;exact ⟨x175,he154,he155,rfl,S,F⟩
  refine qo (bnot_f hb160) (qo (bnot_f hb160) (qo (bnot_f hb160) (qo (bnot_f hb160) (qo (bnot_f hb160) (qo (bnot_f hb160) (qo (bnot_f hb160) (qo (bnot_f hb160) (qo (bnot_f hb160) (qo (bnot_f hb160) (qe (.bool true) (pv_pick_t rfl (bnot_f hb160) rfl) (ql_nil ?_)))))))))));intro w176 hx177;replace S:=S.ext hx177;refine tn q159 (ct rfl ?_);refine sg fun _ q178=>?_;replace S:Sat w0 w176 []:=S.rems 4 [0,1,2,3] rfl;refine cw_reg (pa (.bool false) (en q178 (cw_ret (br q126 (tr q125 (tr q121 (br q112 (tr q110 ?_))))))));replace F:=exL F hK114;refine fin1 rfl rfl ?_;exact rB F S
 refine cf hb124 (cw_exit (tx q122 (tx q121 ?_)));replace F:=exA F hK114;refine bS q112 (tn q110 ?_);refine sR fun _ q179=>?_;refine pe (.agg #[i_ a1,u2,u3]) (pv_loada (cs:=[i_ a1,u2,u3]) he117 rfl (boxc0 (S.boxAt 0 rfl))) ?_;obtain ⟨r180,hr180,F⟩:=ob F;refine ec0 goes107 (spec_IsValidQuery_ok (S.up ha2) (S.up ha3) hr180) (ca (mapc rfl rfl)) S fun w181 hx182 S=>?_;refine pm (.bool r180) ?_;rcases oif F with ⟨hb183,F⟩|⟨hb183,F⟩
 ·refine ei hb183 (pe (.agg #[u0]) (pv_loada (cs:=[u0]) he116 rfl (boxc0 (S.boxAt 1 rfl))) (ei hb183 ?_));obtain ⟨r184,hr184,F⟩:=ob F;refine ec0 goes108 (spec_IsValidDatabase_ok (S.up ha0) hr184) (ca (mapc rfl rfl)) S fun w185 hx186 S=>?_;refine pe (.bool r184) (pv_pick_t rfl hb183 rfl) (pa (.bool r184) (en q179 (cw_ret (fin1 rfl rfl ?_))));exact rB F S
 refine eo hb183 (eo hb183 (pe (.bool false) (pv_pick_f rfl hb183 rfl) (pa (.bool false) (en q179 (cw_ret (fin1 rfl rfl ?_))))));exact rB F S
set_option maxHeartbeats 4000000 in
theorem spec_IsPermutation_ok {w0:World} {u0:Value} {a0:List Int} (ha0:R0_.rd w0 [u0] a0) {N:Nat} {r:Bool} (F:spec_IsPermutation N a0=some r): Calls Tryz.prog 109 #[u0] w0 fun e w'=>e=.returned (.bool r)∧Ext w0 w' := by
 unfold spec_IsPermutation at F;refine calls_E Tryz.func109 rfl rfl (dt rfl) ?_;have S:=Sat.start w0;refine sR fun _ q101=>?_;refine pa (.bool false) (en q101 ?_);refine sg fun _ q102=>?_;refine sR fun _ q103=>?_;refine pa (i_ 0) (en q103 ?_);refine bg fun _ q104=>?_;obtain ⟨s105,hL,hK106⟩:=ob F;refine cw_loopS (fun k e w=>∃ (x107:Int),e 0=u0∧e 3=i_ x107∧Sat w0 w []∧spec_IsPermutation_L1 N k a0 x107=some s105) N ?_ ?_ ?_
 ·exact ⟨0,rfl,rfl,S,hL⟩
 ·rintro e w ⟨_,_,_,_,hz⟩; exact nomatch (show none=some _ from hz)
 rintro k e111 w110 ⟨x107,he108,he109,S,F⟩;refine gn fun _ q112=>?_;refine sg fun _ q113=>?_;refine sR fun _ q114=>?_;refine pM (i_ x107) he109 (pM u0 he108 (pe (i_ (a0.length:Int)) (pv_len rfl ha0) (pe (.bool (decide (x107 < (a0.length:Int)))) (pv_lss rfl rfl) (en q114 ?_))));rcases oif F with ⟨hb115,F⟩|⟨hb115,F⟩
 ·refine ct hb115 (sn q113 ?_);refine sg fun _ q116=>?_;refine bg fun _ q117=>?_;refine sg fun _ q118=>?_;refine cw_regq (by kernel_rfl) (by kernel_rfl) ?_;refine qM u0 he108 (qM (i_ x107) he109 ?_);obtain ⟨x119,hx119,F⟩:=ob F;refine ql_index (wA:=w0) rfl ha0 rfl (dt rfl) rfl hx119 (dt rfl) ?_;intro b120 of121 c122 hr123 hm124;obtain rfl:=hr123;refine qe (i_ x119) (pv_loadc rfl ((cells_up S.below hm124) 0 _ rfl)) (qM u0 he108 (qe (i_ (a0.length:Int)) (pv_len rfl ha0) ?_));obtain ⟨x125,hx125,F⟩:=ob F;refine qe (i_ x125) (pv_sub rfl rfl hx125) ?_;obtain ⟨r126,hr126,F⟩:=ob F;refine ql_call (.bool r126) goes63 (fun w' hw'=>spec_l1In_ok hr126) (ca (mapc rfl (mapc rfl (mapc rfl rfl)))) (dt rfl) ?_;refine qe (.bool (!r126)) (pv_not rfl) (qm (.bool (!r126)) ?_);rcases oif F with ⟨hb127,F⟩|⟨hb127,F⟩
  ·refine qi (bnot_t hb127) (qM u0 he108 (qi (bnot_t hb127) (qM (i_ x107) he109 (qi (bnot_t hb127) ?_))));obtain ⟨x128,hx128,F⟩:=ob F;refine ql_slice (wA:=w0) rfl rfl ha0 (.inr ⟨rfl,rfl⟩) (.inl (congrArg some rfl)) hx128 (dt rfl) ?_;intro v129 hr130;refine qi (bnot_t hb127) (qM u0 he108 (qi (bnot_t hb127) (qM (i_ x107) he109 (qi (bnot_t hb127) ?_))));obtain ⟨x131,hx131,F⟩:=ob F;refine ql_index (wA:=w0) rfl ha0 rfl (dt rfl) rfl hx131 (dt rfl) ?_;intro b132 of133 c134 hr135 hm136;obtain rfl:=hr135;refine qi (bnot_t hb127) (qe (i_ x131) (pv_loadc rfl ((cells_up S.below hm136) 0 _ rfl)) (qi (bnot_t hb127) ?_));obtain ⟨r137,hr137,F⟩:=ob F;refine ql_call (i_ r137) goes59 (fun w' hw'=>spec_l7Find_ok (rd_up (S.up hr130) hw') hr137) (ca (mapc rfl (mapc rfl rfl))) (dt rfl) ?_;refine qi (bnot_t hb127) (qe (.bool (decide (0 ≤ r137))) (pv_geq rfl rfl) (qe (.bool (decide (0 ≤ r137))) (pv_pick_f rfl (bnot_t hb127) rfl) (ql_nil ?_)));intro w138 hx139;replace S:=S.ext hx139;refine tn q118 ?_;rcases oif F with ⟨hb140,F⟩|⟨hb140,F⟩
   ·refine ct hb140 ?_;refine sR fun _ q141=>?_;refine pa (.bool false) (en q141 (cw_ret (br q117 (tr q116 (tr q112 (br q104 (tr q102 ?_)))))));replace F:=exL F hK106;refine fin1 rfl rfl ?_;exact rB F S
   refine cf hb140 (cw_skip (bn q117 (tn q116 (cw_reg (pM (i_ x107) he109 ?_)))));obtain ⟨x142,hx142,F⟩:=ob F;refine pe (i_ x142) (pv_add rfl rfl hx142) (pa (i_ x142) (en q112 ?_));replace S:=S.keep 0;exact ⟨x142,he108,rfl,S,F⟩
  refine qo (bnot_f hb127) (qo (bnot_f hb127) (qo (bnot_f hb127) (qo (bnot_f hb127) (qo (bnot_f hb127) (qo (bnot_f hb127) (qo (bnot_f hb127) (qo (bnot_f hb127) (qo (bnot_f hb127) (qe (.bool true) (pv_pick_t rfl (bnot_f hb127) rfl) (ql_nil ?_))))))))));intro w143 hx144;replace S:=S.ext hx144;refine tn q118 (ct rfl ?_);refine sR fun _ q145=>?_;refine pa (.bool false) (en q145 (cw_ret (br q117 (tr q116 (tr q112 (br q104 (tr q102 ?_)))))));replace F:=exL F hK106;refine fin1 rfl rfl ?_;exact rB F S
 refine cf hb115 (cw_exit (tx q113 (tx q112 ?_)));replace F:=exA F hK106;refine bS q104 (tn q102 ?_);refine sR fun _ q146=>?_;refine pM u0 he108 (pe (i_ (a0.length:Int)) (pv_len rfl ha0) (pe (.bool (decide ((a0.length:Int) ≤ 5))) (pv_leq rfl rfl) (pa (.bool (decide ((a0.length:Int) ≤ 5))) (en q146 (cw_ret (fin1 rfl rfl ?_))))));exact rB F S
set_option maxHeartbeats 4000000 in
theorem spec_IsValidOrder_ok {w0:World} {a0:Int} {u1:Value} {a1:List T2_} {u2:Value} {a2:List Int} {u3:Value} {a3:List Int} (ha1:R6_.rd w0 [u1] a1) (ha2:R0_.rd w0 [u2] a2) (ha3:R0_.rd w0 [u3] a3) {N:Nat} {r:Bool} (F:spec_IsValidOrder N a0 a1 a2 a3=some r): Calls Tryz.prog 69 #[.agg #[i_ a0,u1,u2],u3] w0 fun e w'=>e=.returned (.bool r)∧Ext w0 w' := by
 unfold spec_IsValidOrder at F;refine calls_E Tryz.func69 rfl rfl (dt rfl) ?_;have S:=Sat.start w0;refine sR fun _ q101=>?_;refine el_box [i_ a0,u1,u2] rfl S (dt rfl) ?_;intro w102 b103 S hx104;refine pa (.bool false) (en q101 ?_);refine sR fun _ q106=>?_;refine pe (.agg #[i_ a0,u1,u2]) (pv_loada (cs:=[i_ a0,u1,u2]) rfl rfl (boxc0 (S.boxAt 0 rfl))) ?_;obtain ⟨r107,hr107,F⟩:=ob F;refine ec0 goes107 (spec_IsValidQuery_ok (S.up ha1) (S.up ha2) hr107) (ca (mapc rfl rfl)) S fun w108 hx109 S=>?_;refine pm (.bool r107) ?_;rcases oif F with ⟨hb110,F⟩|⟨hb110,F⟩
 ·refine ei hb110 (pm u3 (ei hb110 (pe (i_ (a3.length:Int)) (pv_len rfl ha3) (ei hb110 (pe (.pointer (some ⟨b103,0 + 0,none⟩)) (pv_fieldAddr rfl) (ei hb110 (pe (i_ a0) (pv_loadc rfl ((S.boxAt 0 rfl) 0 _ rfl)) (ei hb110 (pe (.bool ((a3.length:Int) == a0)) (pv_eql rfl rfl) (pe (.bool ((a3.length:Int) == a0)) (pv_pick_t rfl hb110 rfl) (pm (.bool ((a3.length:Int) == a0)) ?_)))))))))));rcases oif F with ⟨hb111,F⟩|⟨hb111,F⟩
  ·refine ei hb111 (pm u3 (ei hb111 ?_));obtain ⟨r112,hr112,F⟩:=ob F;refine ec0 goes109 (spec_IsPermutation_ok (S.up ha3) hr112) (ca (mapc rfl rfl)) S fun w113 hx114 S=>?_;refine pe (.bool r112) (pv_pick_t rfl hb111 rfl) (pa (.bool r112) (en q106 (cw_ret (fin1 rfl rfl ?_))));exact rB F S
  refine eo hb111 (eo hb111 (pe (.bool false) (pv_pick_f rfl hb111 rfl) (pa (.bool false) (en q106 (cw_ret (fin1 rfl rfl ?_))))));exact rB F S
 refine eo hb110 (eo hb110 (eo hb110 (eo hb110 (eo hb110 (pe (.bool false) (pv_pick_f rfl hb110 rfl) (pm (.bool false) (eo rfl (eo rfl (pe (.bool false) (pv_pick_f rfl rfl rfl) (pa (.bool false) (en q106 (cw_ret (fin1 rfl rfl ?_)))))))))))));exact rB F S
set_option maxHeartbeats 4000000 in
theorem spec_l5Sort_ok' (N:Nat):∀ {w0:World} {u0:Value} {a0:List T0_} (_:R2_.rd w0 [u0] a0) {r:T1_} (_:spec_l5Sort N a0=some r), Calls Tryz.prog 79 #[u0] w0 fun e w'=>∃ (q0:Value),e=.returned (q0)∧Ext w0 w'∧R2_.rd w' [q0] r := by
 induction N with
 | zero=>intros; exact nomatch (show none=some _ by assumption)
 | succ N ih=>
  intro w0 u0 a0 ha0 r F;refine calls_E Tryz.func79 rfl rfl (dt rfl) ?_;have S:=Sat.start w0;refine sR fun _ q101=>?_;refine pa n_ (en q101 ?_);refine sg fun _ q102=>?_;refine sR fun _ q103=>?_;refine pm u0 (pe (i_ (a0.length:Int)) (pv_len rfl ha0) (pe (.bool (decide ((a0.length:Int) < 2))) (pv_lss rfl rfl) (en q103 ?_)));rcases oif F with ⟨hb104,F⟩|⟨hb104,F⟩
  ·refine ct hb104 ?_;refine sR fun _ q105=>?_;refine pm u0 (pa u0 (en q105 (cw_ret (tr q102 (fin1 rfl rfl ?_)))));have hr:=Option.some.inj F;exact ⟨u0,congrArg (fun (r:T1_)=>Ending.returned (u0)) hr,S.below,Eq.mp (congrArg (fun (r:T1_)=>R2_.rd w0 [u0] r) hr) (S.up ha0)⟩
  refine cf hb104 (sn q102 ?_);refine sR fun _ q106=>?_;refine pm u0 (pe (i_ (a0.length:Int)) (pv_len rfl ha0) ?_);obtain ⟨x107,hx107,F⟩:=ob F;refine pe (i_ x107) (pv_quo rfl rfl hx107) (pa (i_ x107) (en q106 ?_));refine sR fun _ q108=>?_;refine pm u0 (pm (i_ x107) ?_);obtain ⟨x109,hx109,F⟩:=ob F;refine el_slice (wA:=w0) rfl rfl ha0 (.inr ⟨rfl,rfl⟩) (.inl (congrArg some rfl)) hx109 (dt rfl) ?_;intro v110 hr111;obtain ⟨r112,hr112,F⟩:=ob F;refine el_call goes79 (ih (S.up hr111) hr112) (ca (mapc rfl rfl)) (dt rfl) ?_;rintro _ w115 ⟨v113,rfl,hx116,hz114⟩;refine ⟨_,rfl,?_⟩;replace S:=S.ext hx116;have hE117:Ext w0 w115:=S.below;have hr118:=S.up ha0;have hr119:=S.up ha0;have hr120:=S.up hr111;replace S:=Sat.start w115;refine pa v113 (en q108 ?_);refine sR fun _ q121=>?_;refine pm u0 (pm (i_ x107) ?_);obtain ⟨x122,hx122,F⟩:=ob F;refine el_slice (wA:=w115) rfl rfl hr118 (.inl (congrArg some rfl)) (.inr ⟨rfl,rfl⟩) hx122 (dt rfl) ?_;intro v123 hr124;obtain ⟨r125,hr125,F⟩:=ob F;refine el_call goes79 (ih (S.up hr124) hr125) (ca (mapc rfl rfl)) (dt rfl) ?_;rintro _ w128 ⟨v126,rfl,hx129,hz127⟩;refine ⟨_,rfl,?_⟩;replace S:=S.ext hx129;have hE130:Ext w0 w128:=(S.rebase hE117).below;have hr131:=S.up hr118;have hr132:=S.up hz114;have hr133:=S.up hr118;have hr134:=S.up hr124;replace S:=Sat.start w128;refine pa v126 (en q121 ?_);refine sR fun _ q135=>?_;refine el_buildSlice0 (roR w128 R0_) S (dt rfl) ?_;intro w136 v138 S hx137;refine pa v138 (en q135 ?_);refine sg fun _ q140=>?_;refine bg fun _ q141=>?_;obtain ⟨s142,hL,hK143⟩:=ob F;refine cw_loopS (fun k e w=>∃ (v145:Value),∃ (x144:List T0_),∃ (v148:Value),∃ (x147:List T0_),∃ (v151:Value),∃ (x150:List T0_),e 4=v145∧e 5=v148∧e 6=v151∧Sat w128 w [Own (sliceR (roR w128 R0_) 26) [v151] x150]∧R2_.rd w128 [v145] x144∧R2_.rd w128 [v148] x147∧spec_l5Sort_L1 (spec_l5Sort N) N k x144 x147 x150=some s142) N ?_ ?_ ?_
  ·exact ⟨v113,r112,v126,r125,v138,[],rfl,rfl,rfl,S,hr132,hz127,hL⟩
  ·rintro e w ⟨_,_,_,_,_,_,_,_,_,_,_,_,hz⟩; exact nomatch (show none=some _ from hz)
  rintro k e156 w155 ⟨v145,x144,v148,x147,v151,x150,he152,he153,he154,S,hr146,hr149,F⟩;refine gn fun _ q157=>?_;refine sg fun _ q158=>?_;refine sR fun _ q159=>?_;refine pM v145 he152 (pe (i_ (x144.length:Int)) (pv_len rfl hr146) (pe (.bool (decide (0 < (x144.length:Int)))) (pv_gtr rfl rfl) (pm (.bool (decide (0 < (x144.length:Int)))) ?_)));rcases oif F with ⟨hb160,F⟩|⟨hb160,F⟩
  ·refine eo hb160 (eo hb160 (eo hb160 (pe (.bool true) (pv_pick_t rfl hb160 rfl) (en q159 (ct rfl (sn q158 ?_))))));refine bg fun _ q161=>?_;refine sR fun _ q162=>?_;refine pa (i_ 0) (en q162 ?_);refine sg fun _ q163=>?_;refine bg fun _ q164=>?_;refine sR fun _ q165=>?_;refine pM v145 he152 (pe (i_ (x144.length:Int)) (pv_len rfl hr146) (pe (.bool ((x144.length:Int) == 0)) (pv_eql rfl rfl) (pa (.bool ((x144.length:Int) == 0)) (en q165 ?_))));rcases oif F with ⟨hb166,F⟩|⟨hb166,F⟩
   ·refine ct hb166 (cw_reg (pa (i_ 1) (el_nil (bn q164 (tn q163 ?_)))));refine sR fun _ q167=>?_;refine el_buildSlice0 intR S (dt rfl) ?_;intro w168 v170 S hx169;refine pa v170 (en q167 ?_);refine sg fun _ q172=>?_;refine sg fun _ q173=>?_;replace S:Sat w128 w168 [Own (sliceR (roR w128 R0_) 26) [v151] x150]:=S.rems 2 [0] rfl;refine cw_reg (pm (i_ 1) (pe (.bool (decide (0 < (1:Int)))) (pv_gtr rfl rfl) (en q173 ?_)));rcases oif F with ⟨hb174,F⟩|⟨hb174,F⟩
    ·refine ct hb174 ?_;refine sR fun _ q175=>?_;refine pM v148 he153 ?_;obtain ⟨x176,hx176,F⟩:=ob F;refine el_index (wA:=w128) rfl hr149 rfl (dt rfl) rfl hx176 (dt rfl) ?_;intro b177 of178 c179 hr180 hm181;obtain ⟨v182,rfl⟩:=slice_one hr180;refine pe v182 (pv_loadc rfl ((cells_up S.below hm181) 0 _ rfl)) (pa v182 (en q175 (cw_reg (pM v148 he153 ?_))));obtain ⟨x183,hx183,F⟩:=ob F;refine el_slice (wA:=w128) rfl rfl hr149 (.inl (congrArg some rfl)) (.inr ⟨rfl,rfl⟩) hx183 (dt rfl) ?_;intro v184 hr185;refine pa v184 (en q172 ?_);refine sR fun _ q186=>?_;refine pM v151 he154 (pe (i_ (x150.length:Int)) (pv_len rfl (S.rdAt (R:=(sliceR (roR w128 R0_) 26)) 0 rfl)) (pe (.bool ((x150.length:Int) == 0)) (pv_eql rfl rfl) (pm (.bool ((x150.length:Int) == 0)) ?_)));rcases oif F with ⟨hb187,F⟩|⟨hb187,F⟩
     ·refine eo hb187 (eo hb187 (eo hb187 (eo hb187 (eo hb187 (eo hb187 (eo hb187 (eo hb187 (eo hb187 (pe (.bool true) (pv_pick_t rfl hb187 rfl) (en q186 (ct rfl (cw_reg (pM v151 he154 (pm v182 ?_))))))))))))));refine el_buildSlice1 [v182] (cells_of rfl (oc hr180)) (by rfl) (dt rfl) rfl (dt rfl) S (dt rfl) ?_;intro w188 b190 S hx189;obtain ⟨x194,hx194,F⟩:=ob F;have hrow195:=S.boxRow 0 rfl;replace S:Sat w128 w188 [Own (sliceR (roR w128 R0_) 26) [v151] x150,Box b190 26 [v182]]:=S.top 1 rfl;replace S:=S.roOne (R:=R0_) (W:=w128) hr180;replace S:=S.one;refine el_append rfl (dt rfl) rfl (dt rfl) S rfl rfl rfl (by simp) hrow195 hx194 (dt rfl) ?_;intro w192 v193 S;refine pa v193 (el_nil (bn q161 (tn q157 ?_)));replace S:=S.keep 1;exact ⟨v145,x144,v184,x183,v193,x194,he152,rfl,rfl,S,hr146,hr185,F⟩
     refine ei hb187 (pM v151 he154 (ei hb187 (pM v151 he154 (ei hb187 (pe (i_ (x150.length:Int)) (pv_len rfl (S.rdAt (R:=(sliceR (roR w128 R0_) 26)) 0 rfl)) (ei hb187 ?_))))));obtain ⟨x197,hx197,F⟩:=ob F;refine pe (i_ x197) (pv_sub rfl rfl hx197) (ei hb187 ?_);obtain ⟨x198,hx198,F⟩:=ob F;refine el_index (wA:=w168) rfl (S.rdAt (R:=(sliceR (roR w128 R0_) 26)) 0 rfl) rfl (dt rfl) rfl hx198 (dt rfl) ?_;intro b199 of200 c201 hr202 hm203;replace hr202:R0_.rd w128 _ _:=hr202;obtain ⟨v204,rfl⟩:=slice_one hr202;refine ei hb187 (pe v204 (pv_loadc rfl (hm203 0 _ rfl)) (ei hb187 (pm v182 (ei hb187 ?_))));obtain ⟨r205,hr205,F⟩:=ob F;refine ec0 goes114 (spec_CompareRows_ok (S.up hr202) (S.up hr180) hr205) (ca (mapc rfl (mapc rfl rfl))) S fun w206 hx207 S=>?_;have hm203:=cells_up hx207 hm203;refine ei hb187 (pe (.bool (r205 != 0)) (pv_neq rfl rfl) (pe (.bool (r205 != 0)) (pv_pick_f rfl hb187 rfl) (en q186 ?_)));rcases oif F with ⟨hb208,F⟩|⟨hb208,F⟩
     ·refine ct hb208 (cw_reg (pM v151 he154 (pm v182 ?_)));refine el_buildSlice1 [v182] (cells_of rfl (oc hr180)) (by rfl) (dt rfl) rfl (dt rfl) S (dt rfl) ?_;intro w209 b211 S hx210;have hm203:=cells_up hx210 hm203;obtain ⟨x215,hx215,F⟩:=ob F;have hrow216:=S.boxRow 0 rfl;replace S:Sat w128 w209 [Own (sliceR (roR w128 R0_) 26) [v151] x150,Box b211 26 [v182]]:=S.top 1 rfl;replace S:=S.roOne (R:=R0_) (W:=w128) hr180;replace S:=S.one;refine el_append rfl (dt rfl) rfl (dt rfl) S rfl rfl rfl (by simp) hrow216 hx215 (dt rfl) ?_;intro w213 v214 S;refine pa v214 (el_nil (bn q161 (tn q157 ?_)));replace S:=S.keep 1;exact ⟨v145,x144,v184,x183,v214,x215,he152,rfl,rfl,S,hr146,hr185,F⟩
     refine cf hb208 (cw_skip (bn q161 (tn q157 ?_)));replace S:=S.keep 1;exact ⟨v145,x144,v184,x183,v151,x150,he152,rfl,he154,S,hr146,hr185,F⟩
    refine cf hb174 ?_;refine sR fun _ q218=>?_;refine pM v145 he152 ?_;obtain ⟨x219,hx219,F⟩:=ob F;refine el_index (wA:=w128) rfl hr146 rfl (dt rfl) rfl hx219 (dt rfl) ?_;intro b220 of221 c222 hr223 hm224;obtain ⟨v225,rfl⟩:=slice_one hr223;refine pe v225 (pv_loadc rfl ((cells_up S.below hm224) 0 _ rfl)) (pa v225 (en q218 (cw_reg (pM v145 he152 ?_))));obtain ⟨x226,hx226,F⟩:=ob F;refine el_slice (wA:=w128) rfl rfl hr146 (.inl (congrArg some rfl)) (.inr ⟨rfl,rfl⟩) hx226 (dt rfl) ?_;intro v227 hr228;refine pa v227 (en q172 ?_);refine sR fun _ q229=>?_;refine pM v151 he154 (pe (i_ (x150.length:Int)) (pv_len rfl (S.rdAt (R:=(sliceR (roR w128 R0_) 26)) 0 rfl)) (pe (.bool ((x150.length:Int) == 0)) (pv_eql rfl rfl) (pm (.bool ((x150.length:Int) == 0)) ?_)));rcases oif F with ⟨hb230,F⟩|⟨hb230,F⟩
    ·refine eo hb230 (eo hb230 (eo hb230 (eo hb230 (eo hb230 (eo hb230 (eo hb230 (eo hb230 (eo hb230 (pe (.bool true) (pv_pick_t rfl hb230 rfl) (en q229 (ct rfl (cw_reg (pM v151 he154 (pm v225 ?_))))))))))))));refine el_buildSlice1 [v225] (cells_of rfl (oc hr223)) (by rfl) (dt rfl) rfl (dt rfl) S (dt rfl) ?_;intro w231 b233 S hx232;obtain ⟨x237,hx237,F⟩:=ob F;have hrow238:=S.boxRow 0 rfl;replace S:Sat w128 w231 [Own (sliceR (roR w128 R0_) 26) [v151] x150,Box b233 26 [v225]]:=S.top 1 rfl;replace S:=S.roOne (R:=R0_) (W:=w128) hr223;replace S:=S.one;refine el_append rfl (dt rfl) rfl (dt rfl) S rfl rfl rfl (by simp) hrow238 hx237 (dt rfl) ?_;intro w235 v236 S;refine pa v236 (el_nil (bn q161 (tn q157 ?_)));replace S:=S.keep 1;exact ⟨v227,x226,v148,x147,v236,x237,rfl,he153,rfl,S,hr228,hr149,F⟩
    refine ei hb230 (pM v151 he154 (ei hb230 (pM v151 he154 (ei hb230 (pe (i_ (x150.length:Int)) (pv_len rfl (S.rdAt (R:=(sliceR (roR w128 R0_) 26)) 0 rfl)) (ei hb230 ?_))))));obtain ⟨x240,hx240,F⟩:=ob F;refine pe (i_ x240) (pv_sub rfl rfl hx240) (ei hb230 ?_);obtain ⟨x241,hx241,F⟩:=ob F;refine el_index (wA:=w168) rfl (S.rdAt (R:=(sliceR (roR w128 R0_) 26)) 0 rfl) rfl (dt rfl) rfl hx241 (dt rfl) ?_;intro b242 of243 c244 hr245 hm246;replace hr245:R0_.rd w128 _ _:=hr245;obtain ⟨v247,rfl⟩:=slice_one hr245;refine ei hb230 (pe v247 (pv_loadc rfl (hm246 0 _ rfl)) (ei hb230 (pm v225 (ei hb230 ?_))));obtain ⟨r248,hr248,F⟩:=ob F;refine ec0 goes114 (spec_CompareRows_ok (S.up hr245) (S.up hr223) hr248) (ca (mapc rfl (mapc rfl rfl))) S fun w249 hx250 S=>?_;have hm246:=cells_up hx250 hm246;refine ei hb230 (pe (.bool (r248 != 0)) (pv_neq rfl rfl) (pe (.bool (r248 != 0)) (pv_pick_f rfl hb230 rfl) (en q229 ?_)));rcases oif F with ⟨hb251,F⟩|⟨hb251,F⟩
    ·refine ct hb251 (cw_reg (pM v151 he154 (pm v225 ?_)));refine el_buildSlice1 [v225] (cells_of rfl (oc hr223)) (by rfl) (dt rfl) rfl (dt rfl) S (dt rfl) ?_;intro w252 b254 S hx253;have hm246:=cells_up hx253 hm246;obtain ⟨x258,hx258,F⟩:=ob F;have hrow259:=S.boxRow 0 rfl;replace S:Sat w128 w252 [Own (sliceR (roR w128 R0_) 26) [v151] x150,Box b254 26 [v225]]:=S.top 1 rfl;replace S:=S.roOne (R:=R0_) (W:=w128) hr223;replace S:=S.one;refine el_append rfl (dt rfl) rfl (dt rfl) S rfl rfl rfl (by simp) hrow259 hx258 (dt rfl) ?_;intro w256 v257 S;refine pa v257 (el_nil (bn q161 (tn q157 ?_)));replace S:=S.keep 1;exact ⟨v227,x226,v148,x147,v257,x258,rfl,he153,rfl,S,hr228,hr149,F⟩
    refine cf hb251 (cw_skip (bn q161 (tn q157 ?_)));replace S:=S.keep 1;exact ⟨v227,x226,v148,x147,v151,x150,rfl,he153,he154,S,hr228,hr149,F⟩
   refine cf hb166 ?_;refine sR fun _ q261=>?_;refine pM v148 he153 (pe (i_ (x147.length:Int)) (pv_len rfl hr149) (pe (.bool (decide (0 < (x147.length:Int)))) (pv_gtr rfl rfl) (pa (.bool (decide (0 < (x147.length:Int)))) (en q261 ?_))));rcases oif F with ⟨hb262,F⟩|⟨hb262,F⟩
   ·refine ct hb262 ?_;refine cw_regq (by kernel_rfl) (by kernel_rfl) ?_;refine qM v145 he152 ?_;obtain ⟨x263,hx263,F⟩:=ob F;refine ql_index (wA:=w128) rfl hr146 rfl (dt rfl) rfl hx263 (dt rfl) ?_;intro b264 of265 c266 hr267 hm268;obtain ⟨v269,rfl⟩:=slice_one hr267;refine qe v269 (pv_loadc rfl ((cells_up S.below hm268) 0 _ rfl)) (qM v148 he153 ?_);obtain ⟨x270,hx270,F⟩:=ob F;refine ql_index (wA:=w128) rfl hr149 rfl (dt rfl) rfl hx270 (dt rfl) ?_;intro b271 of272 c273 hr274 hm275;obtain ⟨v276,rfl⟩:=slice_one hr274;refine qe v276 (pv_loadc rfl ((cells_up S.below hm275) 0 _ rfl)) ?_;obtain ⟨r277,hr277,F⟩:=ob F;refine ql_call (i_ r277) goes114 (fun w' hw'=>spec_CompareRows_ok (rd_up (S.up hr267) hw') (rd_up (S.up hr274) hw') hr277) (ca (mapc rfl (mapc rfl rfl))) (dt rfl) ?_;refine qe (i_ r277) (pv_assign rfl) (ql_nil ?_);intro w278 hx279;replace S:=S.ext hx279;refine bn q164 (tn q163 ?_);refine sR fun _ q280=>?_;refine el_buildSlice0 intR S (dt rfl) ?_;intro w281 v283 S hx282;refine pa v283 (en q280 ?_);refine sg fun _ q285=>?_;refine sg fun _ q286=>?_;replace S:Sat w128 w281 [Own (sliceR (roR w128 R0_) 26) [v151] x150]:=S.rems 2 [0] rfl;refine cw_reg (pm (i_ r277) (pe (.bool (decide (0 < r277))) (pv_gtr rfl rfl) (en q286 ?_)));rcases oif F with ⟨hb287,F⟩|⟨hb287,F⟩
    ·refine ct hb287 ?_;refine sR fun _ q288=>?_;refine pM v148 he153 ?_;obtain ⟨x289,hx289,F⟩:=ob F;refine el_index (wA:=w128) rfl hr149 rfl (dt rfl) rfl hx289 (dt rfl) ?_;intro b290 of291 c292 hr293 hm294;obtain ⟨v295,rfl⟩:=slice_one hr293;refine pe v295 (pv_loadc rfl ((cells_up S.below hm294) 0 _ rfl)) (pa v295 (en q288 (cw_reg (pM v148 he153 ?_))));obtain ⟨x296,hx296,F⟩:=ob F;refine el_slice (wA:=w128) rfl rfl hr149 (.inl (congrArg some rfl)) (.inr ⟨rfl,rfl⟩) hx296 (dt rfl) ?_;intro v297 hr298;refine pa v297 (en q285 ?_);refine sR fun _ q299=>?_;refine pM v151 he154 (pe (i_ (x150.length:Int)) (pv_len rfl (S.rdAt (R:=(sliceR (roR w128 R0_) 26)) 0 rfl)) (pe (.bool ((x150.length:Int) == 0)) (pv_eql rfl rfl) (pm (.bool ((x150.length:Int) == 0)) ?_)));rcases oif F with ⟨hb300,F⟩|⟨hb300,F⟩
     ·refine eo hb300 (eo hb300 (eo hb300 (eo hb300 (eo hb300 (eo hb300 (eo hb300 (eo hb300 (eo hb300 (pe (.bool true) (pv_pick_t rfl hb300 rfl) (en q299 (ct rfl (cw_reg (pM v151 he154 (pm v295 ?_))))))))))))));refine el_buildSlice1 [v295] (cells_of rfl (oc hr293)) (by rfl) (dt rfl) rfl (dt rfl) S (dt rfl) ?_;intro w301 b303 S hx302;obtain ⟨x307,hx307,F⟩:=ob F;have hrow308:=S.boxRow 0 rfl;replace S:Sat w128 w301 [Own (sliceR (roR w128 R0_) 26) [v151] x150,Box b303 26 [v295]]:=S.top 1 rfl;replace S:=S.roOne (R:=R0_) (W:=w128) hr293;replace S:=S.one;refine el_append rfl (dt rfl) rfl (dt rfl) S rfl rfl rfl (by simp) hrow308 hx307 (dt rfl) ?_;intro w305 v306 S;refine pa v306 (el_nil (bn q161 (tn q157 ?_)));replace S:=S.keep 1;exact ⟨v145,x144,v297,x296,v306,x307,he152,rfl,rfl,S,hr146,hr298,F⟩
     refine ei hb300 (pM v151 he154 (ei hb300 (pM v151 he154 (ei hb300 (pe (i_ (x150.length:Int)) (pv_len rfl (S.rdAt (R:=(sliceR (roR w128 R0_) 26)) 0 rfl)) (ei hb300 ?_))))));obtain ⟨x310,hx310,F⟩:=ob F;refine pe (i_ x310) (pv_sub rfl rfl hx310) (ei hb300 ?_);obtain ⟨x311,hx311,F⟩:=ob F;refine el_index (wA:=w281) rfl (S.rdAt (R:=(sliceR (roR w128 R0_) 26)) 0 rfl) rfl (dt rfl) rfl hx311 (dt rfl) ?_;intro b312 of313 c314 hr315 hm316;replace hr315:R0_.rd w128 _ _:=hr315;obtain ⟨v317,rfl⟩:=slice_one hr315;refine ei hb300 (pe v317 (pv_loadc rfl (hm316 0 _ rfl)) (ei hb300 (pm v295 (ei hb300 ?_))));obtain ⟨r318,hr318,F⟩:=ob F;refine ec0 goes114 (spec_CompareRows_ok (S.up hr315) (S.up hr293) hr318) (ca (mapc rfl (mapc rfl rfl))) S fun w319 hx320 S=>?_;have hm316:=cells_up hx320 hm316;refine ei hb300 (pe (.bool (r318 != 0)) (pv_neq rfl rfl) (pe (.bool (r318 != 0)) (pv_pick_f rfl hb300 rfl) (en q299 ?_)));rcases oif F with ⟨hb321,F⟩|⟨hb321,F⟩
     ·refine ct hb321 (cw_reg (pM v151 he154 (pm v295 ?_)));refine el_buildSlice1 [v295] (cells_of rfl (oc hr293)) (by rfl) (dt rfl) rfl (dt rfl) S (dt rfl) ?_;intro w322 b324 S hx323;have hm316:=cells_up hx323 hm316;obtain ⟨x328,hx328,F⟩:=ob F;have hrow329:=S.boxRow 0 rfl;replace S:Sat w128 w322 [Own (sliceR (roR w128 R0_) 26) [v151] x150,Box b324 26 [v295]]:=S.top 1 rfl;replace S:=S.roOne (R:=R0_) (W:=w128) hr293;replace S:=S.one;refine el_append rfl (dt rfl) rfl (dt rfl) S rfl rfl rfl (by simp) hrow329 hx328 (dt rfl) ?_;intro w326 v327 S;refine pa v327 (el_nil (bn q161 (tn q157 ?_)));replace S:=S.keep 1;exact ⟨v145,x144,v297,x296,v327,x328,he152,rfl,rfl,S,hr146,hr298,F⟩
     refine cf hb321 (cw_skip (bn q161 (tn q157 ?_)));replace S:=S.keep 1;exact ⟨v145,x144,v297,x296,v151,x150,he152,rfl,he154,S,hr146,hr298,F⟩
    refine cf hb287 ?_;refine sR fun _ q331=>?_;refine pM v145 he152 ?_;obtain ⟨x332,hx332,F⟩:=ob F;refine el_index (wA:=w128) rfl hr146 rfl (dt rfl) rfl hx332 (dt rfl) ?_;intro b333 of334 c335 hr336 hm337;obtain ⟨v338,rfl⟩:=slice_one hr336;refine pe v338 (pv_loadc rfl ((cells_up S.below hm337) 0 _ rfl)) (pa v338 (en q331 (cw_reg (pM v145 he152 ?_))));obtain ⟨x339,hx339,F⟩:=ob F;refine el_slice (wA:=w128) rfl rfl hr146 (.inl (congrArg some rfl)) (.inr ⟨rfl,rfl⟩) hx339 (dt rfl) ?_;intro v340 hr341;refine pa v340 (en q285 ?_);refine sR fun _ q342=>?_;refine pM v151 he154 (pe (i_ (x150.length:Int)) (pv_len rfl (S.rdAt (R:=(sliceR (roR w128 R0_) 26)) 0 rfl)) (pe (.bool ((x150.length:Int) == 0)) (pv_eql rfl rfl) (pm (.bool ((x150.length:Int) == 0)) ?_)));rcases oif F with ⟨hb343,F⟩|⟨hb343,F⟩
    ·refine eo hb343 (eo hb343 (eo hb343 (eo hb343 (eo hb343 (eo hb343 (eo hb343 (eo hb343 (eo hb343 (pe (.bool true) (pv_pick_t rfl hb343 rfl) (en q342 (ct rfl (cw_reg (pM v151 he154 (pm v338 ?_))))))))))))));refine el_buildSlice1 [v338] (cells_of rfl (oc hr336)) (by rfl) (dt rfl) rfl (dt rfl) S (dt rfl) ?_;intro w344 b346 S hx345;obtain ⟨x350,hx350,F⟩:=ob F;have hrow351:=S.boxRow 0 rfl;replace S:Sat w128 w344 [Own (sliceR (roR w128 R0_) 26) [v151] x150,Box b346 26 [v338]]:=S.top 1 rfl;replace S:=S.roOne (R:=R0_) (W:=w128) hr336;replace S:=S.one;refine el_append rfl (dt rfl) rfl (dt rfl) S rfl rfl rfl (by simp) hrow351 hx350 (dt rfl) ?_;intro w348 v349 S;refine pa v349 (el_nil (bn q161 (tn q157 ?_)));replace S:=S.keep 1;exact ⟨v340,x339,v148,x147,v349,x350,rfl,he153,rfl,S,hr341,hr149,F⟩
    refine ei hb343 (pM v151 he154 (ei hb343 (pM v151 he154 (ei hb343 (pe (i_ (x150.length:Int)) (pv_len rfl (S.rdAt (R:=(sliceR (roR w128 R0_) 26)) 0 rfl)) (ei hb343 ?_))))));obtain ⟨x353,hx353,F⟩:=ob F;refine pe (i_ x353) (pv_sub rfl rfl hx353) (ei hb343 ?_);obtain ⟨x354,hx354,F⟩:=ob F;refine el_index (wA:=w281) rfl (S.rdAt (R:=(sliceR (roR w128 R0_) 26)) 0 rfl) rfl (dt rfl) rfl hx354 (dt rfl) ?_;intro b355 of356 c357 hr358 hm359;replace hr358:R0_.rd w128 _ _:=hr358;obtain ⟨v360,rfl⟩:=slice_one hr358;refine ei hb343 (pe v360 (pv_loadc rfl (hm359 0 _ rfl)) (ei hb343 (pm v338 (ei hb343 ?_))));obtain ⟨r361,hr361,F⟩:=ob F;refine ec0 goes114 (spec_CompareRows_ok (S.up hr358) (S.up hr336) hr361) (ca (mapc rfl (mapc rfl rfl))) S fun w362 hx363 S=>?_;have hm359:=cells_up hx363 hm359;refine ei hb343 (pe (.bool (r361 != 0)) (pv_neq rfl rfl) (pe (.bool (r361 != 0)) (pv_pick_f rfl hb343 rfl) (en q342 ?_)));rcases oif F with ⟨hb364,F⟩|⟨hb364,F⟩
    ·refine ct hb364 (cw_reg (pM v151 he154 (pm v338 ?_)));refine el_buildSlice1 [v338] (cells_of rfl (oc hr336)) (by rfl) (dt rfl) rfl (dt rfl) S (dt rfl) ?_;intro w365 b367 S hx366;have hm359:=cells_up hx366 hm359;obtain ⟨x371,hx371,F⟩:=ob F;have hrow372:=S.boxRow 0 rfl;replace S:Sat w128 w365 [Own (sliceR (roR w128 R0_) 26) [v151] x150,Box b367 26 [v338]]:=S.top 1 rfl;replace S:=S.roOne (R:=R0_) (W:=w128) hr336;replace S:=S.one;refine el_append rfl (dt rfl) rfl (dt rfl) S rfl rfl rfl (by simp) hrow372 hx371 (dt rfl) ?_;intro w369 v370 S;refine pa v370 (el_nil (bn q161 (tn q157 ?_)));replace S:=S.keep 1;exact ⟨v340,x339,v148,x147,v370,x371,rfl,he153,rfl,S,hr341,hr149,F⟩
    refine cf hb364 (cw_skip (bn q161 (tn q157 ?_)));replace S:=S.keep 1;exact ⟨v340,x339,v148,x147,v151,x150,rfl,he153,he154,S,hr341,hr149,F⟩
   refine cf hb262 (cw_reg (pa (i_ (-1)) (el_nil (bn q164 (tn q163 ?_)))));refine sR fun _ q374=>?_;refine el_buildSlice0 intR S (dt rfl) ?_;intro w375 v377 S hx376;refine pa v377 (en q374 ?_);refine sg fun _ q379=>?_;refine sg fun _ q380=>?_;replace S:Sat w128 w375 [Own (sliceR (roR w128 R0_) 26) [v151] x150]:=S.rems 2 [0] rfl;refine cw_reg (pm (i_ (-1)) (pe (.bool (decide (0 < ((-1):Int)))) (pv_gtr rfl rfl) (en q380 ?_)));rcases oif F with ⟨hb381,F⟩|⟨hb381,F⟩
   ·refine ct hb381 ?_;refine sR fun _ q382=>?_;refine pM v148 he153 ?_;obtain ⟨x383,hx383,F⟩:=ob F;refine el_index (wA:=w128) rfl hr149 rfl (dt rfl) rfl hx383 (dt rfl) ?_;intro b384 of385 c386 hr387 hm388;obtain ⟨v389,rfl⟩:=slice_one hr387;refine pe v389 (pv_loadc rfl ((cells_up S.below hm388) 0 _ rfl)) (pa v389 (en q382 (cw_reg (pM v148 he153 ?_))));obtain ⟨x390,hx390,F⟩:=ob F;refine el_slice (wA:=w128) rfl rfl hr149 (.inl (congrArg some rfl)) (.inr ⟨rfl,rfl⟩) hx390 (dt rfl) ?_;intro v391 hr392;refine pa v391 (en q379 ?_);refine sR fun _ q393=>?_;refine pM v151 he154 (pe (i_ (x150.length:Int)) (pv_len rfl (S.rdAt (R:=(sliceR (roR w128 R0_) 26)) 0 rfl)) (pe (.bool ((x150.length:Int) == 0)) (pv_eql rfl rfl) (pm (.bool ((x150.length:Int) == 0)) ?_)));rcases oif F with ⟨hb394,F⟩|⟨hb394,F⟩
    ·refine eo hb394 (eo hb394 (eo hb394 (eo hb394 (eo hb394 (eo hb394 (eo hb394 (eo hb394 (eo hb394 (pe (.bool true) (pv_pick_t rfl hb394 rfl) (en q393 (ct rfl (cw_reg (pM v151 he154 (pm v389 ?_))))))))))))));refine el_buildSlice1 [v389] (cells_of rfl (oc hr387)) (by rfl) (dt rfl) rfl (dt rfl) S (dt rfl) ?_;intro w395 b397 S hx396;obtain ⟨x401,hx401,F⟩:=ob F;have hrow402:=S.boxRow 0 rfl;replace S:Sat w128 w395 [Own (sliceR (roR w128 R0_) 26) [v151] x150,Box b397 26 [v389]]:=S.top 1 rfl;replace S:=S.roOne (R:=R0_) (W:=w128) hr387;replace S:=S.one;refine el_append rfl (dt rfl) rfl (dt rfl) S rfl rfl rfl (by simp) hrow402 hx401 (dt rfl) ?_;intro w399 v400 S;refine pa v400 (el_nil (bn q161 (tn q157 ?_)));replace S:=S.keep 1;exact ⟨v145,x144,v391,x390,v400,x401,he152,rfl,rfl,S,hr146,hr392,F⟩
    refine ei hb394 (pM v151 he154 (ei hb394 (pM v151 he154 (ei hb394 (pe (i_ (x150.length:Int)) (pv_len rfl (S.rdAt (R:=(sliceR (roR w128 R0_) 26)) 0 rfl)) (ei hb394 ?_))))));obtain ⟨x404,hx404,F⟩:=ob F;refine pe (i_ x404) (pv_sub rfl rfl hx404) (ei hb394 ?_);obtain ⟨x405,hx405,F⟩:=ob F;refine el_index (wA:=w375) rfl (S.rdAt (R:=(sliceR (roR w128 R0_) 26)) 0 rfl) rfl (dt rfl) rfl hx405 (dt rfl) ?_;intro b406 of407 c408 hr409 hm410;replace hr409:R0_.rd w128 _ _:=hr409;obtain ⟨v411,rfl⟩:=slice_one hr409;refine ei hb394 (pe v411 (pv_loadc rfl (hm410 0 _ rfl)) (ei hb394 (pm v389 (ei hb394 ?_))));obtain ⟨r412,hr412,F⟩:=ob F;refine ec0 goes114 (spec_CompareRows_ok (S.up hr409) (S.up hr387) hr412) (ca (mapc rfl (mapc rfl rfl))) S fun w413 hx414 S=>?_;have hm410:=cells_up hx414 hm410;refine ei hb394 (pe (.bool (r412 != 0)) (pv_neq rfl rfl) (pe (.bool (r412 != 0)) (pv_pick_f rfl hb394 rfl) (en q393 ?_)));rcases oif F with ⟨hb415,F⟩|⟨hb415,F⟩
    ·refine ct hb415 (cw_reg (pM v151 he154 (pm v389 ?_)));refine el_buildSlice1 [v389] (cells_of rfl (oc hr387)) (by rfl) (dt rfl) rfl (dt rfl) S (dt rfl) ?_;intro w416 b418 S hx417;have hm410:=cells_up hx417 hm410;obtain ⟨x422,hx422,F⟩:=ob F;have hrow423:=S.boxRow 0 rfl;replace S:Sat w128 w416 [Own (sliceR (roR w128 R0_) 26) [v151] x150,Box b418 26 [v389]]:=S.top 1 rfl;replace S:=S.roOne (R:=R0_) (W:=w128) hr387;replace S:=S.one;refine el_append rfl (dt rfl) rfl (dt rfl) S rfl rfl rfl (by simp) hrow423 hx422 (dt rfl) ?_;intro w420 v421 S;refine pa v421 (el_nil (bn q161 (tn q157 ?_)));replace S:=S.keep 1;exact ⟨v145,x144,v391,x390,v421,x422,he152,rfl,rfl,S,hr146,hr392,F⟩
    refine cf hb415 (cw_skip (bn q161 (tn q157 ?_)));replace S:=S.keep 1;exact ⟨v145,x144,v391,x390,v151,x150,he152,rfl,he154,S,hr146,hr392,F⟩
   refine cf hb381 ?_;refine sR fun _ q425=>?_;refine pM v145 he152 ?_;obtain ⟨x426,hx426,F⟩:=ob F;refine el_index (wA:=w128) rfl hr146 rfl (dt rfl) rfl hx426 (dt rfl) ?_;intro b427 of428 c429 hr430 hm431;obtain ⟨v432,rfl⟩:=slice_one hr430;refine pe v432 (pv_loadc rfl ((cells_up S.below hm431) 0 _ rfl)) (pa v432 (en q425 (cw_reg (pM v145 he152 ?_))));obtain ⟨x433,hx433,F⟩:=ob F;refine el_slice (wA:=w128) rfl rfl hr146 (.inl (congrArg some rfl)) (.inr ⟨rfl,rfl⟩) hx433 (dt rfl) ?_;intro v434 hr435;refine pa v434 (en q379 ?_);refine sR fun _ q436=>?_;refine pM v151 he154 (pe (i_ (x150.length:Int)) (pv_len rfl (S.rdAt (R:=(sliceR (roR w128 R0_) 26)) 0 rfl)) (pe (.bool ((x150.length:Int) == 0)) (pv_eql rfl rfl) (pm (.bool ((x150.length:Int) == 0)) ?_)));rcases oif F with ⟨hb437,F⟩|⟨hb437,F⟩
   ·refine eo hb437 (eo hb437 (eo hb437 (eo hb437 (eo hb437 (eo hb437 (eo hb437 (eo hb437 (eo hb437 (pe (.bool true) (pv_pick_t rfl hb437 rfl) (en q436 (ct rfl (cw_reg (pM v151 he154 (pm v432 ?_))))))))))))));refine el_buildSlice1 [v432] (cells_of rfl (oc hr430)) (by rfl) (dt rfl) rfl (dt rfl) S (dt rfl) ?_;intro w438 b440 S hx439;obtain ⟨x444,hx444,F⟩:=ob F;have hrow445:=S.boxRow 0 rfl;replace S:Sat w128 w438 [Own (sliceR (roR w128 R0_) 26) [v151] x150,Box b440 26 [v432]]:=S.top 1 rfl;replace S:=S.roOne (R:=R0_) (W:=w128) hr430;replace S:=S.one;refine el_append rfl (dt rfl) rfl (dt rfl) S rfl rfl rfl (by simp) hrow445 hx444 (dt rfl) ?_;intro w442 v443 S;refine pa v443 (el_nil (bn q161 (tn q157 ?_)));replace S:=S.keep 1;exact ⟨v434,x433,v148,x147,v443,x444,rfl,he153,rfl,S,hr435,hr149,F⟩
   refine ei hb437 (pM v151 he154 (ei hb437 (pM v151 he154 (ei hb437 (pe (i_ (x150.length:Int)) (pv_len rfl (S.rdAt (R:=(sliceR (roR w128 R0_) 26)) 0 rfl)) (ei hb437 ?_))))));obtain ⟨x447,hx447,F⟩:=ob F;refine pe (i_ x447) (pv_sub rfl rfl hx447) (ei hb437 ?_);obtain ⟨x448,hx448,F⟩:=ob F;refine el_index (wA:=w375) rfl (S.rdAt (R:=(sliceR (roR w128 R0_) 26)) 0 rfl) rfl (dt rfl) rfl hx448 (dt rfl) ?_;intro b449 of450 c451 hr452 hm453;replace hr452:R0_.rd w128 _ _:=hr452;obtain ⟨v454,rfl⟩:=slice_one hr452;refine ei hb437 (pe v454 (pv_loadc rfl (hm453 0 _ rfl)) (ei hb437 (pm v432 (ei hb437 ?_))));obtain ⟨r455,hr455,F⟩:=ob F;refine ec0 goes114 (spec_CompareRows_ok (S.up hr452) (S.up hr430) hr455) (ca (mapc rfl (mapc rfl rfl))) S fun w456 hx457 S=>?_;have hm453:=cells_up hx457 hm453;refine ei hb437 (pe (.bool (r455 != 0)) (pv_neq rfl rfl) (pe (.bool (r455 != 0)) (pv_pick_f rfl hb437 rfl) (en q436 ?_)));rcases oif F with ⟨hb458,F⟩|⟨hb458,F⟩
   ·refine ct hb458 (cw_reg (pM v151 he154 (pm v432 ?_)));refine el_buildSlice1 [v432] (cells_of rfl (oc hr430)) (by rfl) (dt rfl) rfl (dt rfl) S (dt rfl) ?_;intro w459 b461 S hx460;have hm453:=cells_up hx460 hm453;obtain ⟨x465,hx465,F⟩:=ob F;have hrow466:=S.boxRow 0 rfl;replace S:Sat w128 w459 [Own (sliceR (roR w128 R0_) 26) [v151] x150,Box b461 26 [v432]]:=S.top 1 rfl;replace S:=S.roOne (R:=R0_) (W:=w128) hr430;replace S:=S.one;refine el_append rfl (dt rfl) rfl (dt rfl) S rfl rfl rfl (by simp) hrow466 hx465 (dt rfl) ?_;intro w463 v464 S;refine pa v464 (el_nil (bn q161 (tn q157 ?_)));replace S:=S.keep 1;exact ⟨v434,x433,v148,x147,v464,x465,rfl,he153,rfl,S,hr435,hr149,F⟩
   refine cf hb458 (cw_skip (bn q161 (tn q157 ?_)));replace S:=S.keep 1;exact ⟨v434,x433,v148,x147,v151,x150,rfl,he153,he154,S,hr435,hr149,F⟩
  refine ei hb160 (pM v148 he153 (ei hb160 (pe (i_ (x147.length:Int)) (pv_len rfl hr149) (ei hb160 (pe (.bool (decide (0 < (x147.length:Int)))) (pv_gtr rfl rfl) (pe (.bool (decide (0 < (x147.length:Int)))) (pv_pick_f rfl hb160 rfl) (en q159 ?_)))))));rcases oif F with ⟨hb468,F⟩|⟨hb468,F⟩
  ·refine ct hb468 (sn q158 ?_);refine bg fun _ q469=>?_;refine sR fun _ q470=>?_;refine pa (i_ 0) (en q470 ?_);refine sg fun _ q471=>?_;refine bg fun _ q472=>?_;refine sR fun _ q473=>?_;refine pM v145 he152 (pe (i_ (x144.length:Int)) (pv_len rfl hr146) (pe (.bool ((x144.length:Int) == 0)) (pv_eql rfl rfl) (pa (.bool ((x144.length:Int) == 0)) (en q473 ?_))));rcases oif F with ⟨hb474,F⟩|⟨hb474,F⟩
   ·refine ct hb474 (cw_reg (pa (i_ 1) (el_nil (bn q472 (tn q471 ?_)))));refine sR fun _ q475=>?_;refine el_buildSlice0 intR S (dt rfl) ?_;intro w476 v478 S hx477;refine pa v478 (en q475 ?_);refine sg fun _ q480=>?_;refine sg fun _ q481=>?_;replace S:Sat w128 w476 [Own (sliceR (roR w128 R0_) 26) [v151] x150]:=S.rems 2 [0] rfl;refine cw_reg (pm (i_ 1) (pe (.bool (decide (0 < (1:Int)))) (pv_gtr rfl rfl) (en q481 ?_)));rcases oif F with ⟨hb482,F⟩|⟨hb482,F⟩
    ·refine ct hb482 ?_;refine sR fun _ q483=>?_;refine pM v148 he153 ?_;obtain ⟨x484,hx484,F⟩:=ob F;refine el_index (wA:=w128) rfl hr149 rfl (dt rfl) rfl hx484 (dt rfl) ?_;intro b485 of486 c487 hr488 hm489;obtain ⟨v490,rfl⟩:=slice_one hr488;refine pe v490 (pv_loadc rfl ((cells_up S.below hm489) 0 _ rfl)) (pa v490 (en q483 (cw_reg (pM v148 he153 ?_))));obtain ⟨x491,hx491,F⟩:=ob F;refine el_slice (wA:=w128) rfl rfl hr149 (.inl (congrArg some rfl)) (.inr ⟨rfl,rfl⟩) hx491 (dt rfl) ?_;intro v492 hr493;refine pa v492 (en q480 ?_);refine sR fun _ q494=>?_;refine pM v151 he154 (pe (i_ (x150.length:Int)) (pv_len rfl (S.rdAt (R:=(sliceR (roR w128 R0_) 26)) 0 rfl)) (pe (.bool ((x150.length:Int) == 0)) (pv_eql rfl rfl) (pm (.bool ((x150.length:Int) == 0)) ?_)));rcases oif F with ⟨hb495,F⟩|⟨hb495,F⟩
     ·refine eo hb495 (eo hb495 (eo hb495 (eo hb495 (eo hb495 (eo hb495 (eo hb495 (eo hb495 (eo hb495 (pe (.bool true) (pv_pick_t rfl hb495 rfl) (en q494 (ct rfl (cw_reg (pM v151 he154 (pm v490 ?_))))))))))))));refine el_buildSlice1 [v490] (cells_of rfl (oc hr488)) (by rfl) (dt rfl) rfl (dt rfl) S (dt rfl) ?_;intro w496 b498 S hx497;obtain ⟨x502,hx502,F⟩:=ob F;have hrow503:=S.boxRow 0 rfl;replace S:Sat w128 w496 [Own (sliceR (roR w128 R0_) 26) [v151] x150,Box b498 26 [v490]]:=S.top 1 rfl;replace S:=S.roOne (R:=R0_) (W:=w128) hr488;replace S:=S.one;refine el_append rfl (dt rfl) rfl (dt rfl) S rfl rfl rfl (by simp) hrow503 hx502 (dt rfl) ?_;intro w500 v501 S;refine pa v501 (el_nil (bn q469 (tn q157 ?_)));replace S:=S.keep 1;exact ⟨v145,x144,v492,x491,v501,x502,he152,rfl,rfl,S,hr146,hr493,F⟩
     refine ei hb495 (pM v151 he154 (ei hb495 (pM v151 he154 (ei hb495 (pe (i_ (x150.length:Int)) (pv_len rfl (S.rdAt (R:=(sliceR (roR w128 R0_) 26)) 0 rfl)) (ei hb495 ?_))))));obtain ⟨x505,hx505,F⟩:=ob F;refine pe (i_ x505) (pv_sub rfl rfl hx505) (ei hb495 ?_);obtain ⟨x506,hx506,F⟩:=ob F;refine el_index (wA:=w476) rfl (S.rdAt (R:=(sliceR (roR w128 R0_) 26)) 0 rfl) rfl (dt rfl) rfl hx506 (dt rfl) ?_;intro b507 of508 c509 hr510 hm511;replace hr510:R0_.rd w128 _ _:=hr510;obtain ⟨v512,rfl⟩:=slice_one hr510;refine ei hb495 (pe v512 (pv_loadc rfl (hm511 0 _ rfl)) (ei hb495 (pm v490 (ei hb495 ?_))));obtain ⟨r513,hr513,F⟩:=ob F;refine ec0 goes114 (spec_CompareRows_ok (S.up hr510) (S.up hr488) hr513) (ca (mapc rfl (mapc rfl rfl))) S fun w514 hx515 S=>?_;have hm511:=cells_up hx515 hm511;refine ei hb495 (pe (.bool (r513 != 0)) (pv_neq rfl rfl) (pe (.bool (r513 != 0)) (pv_pick_f rfl hb495 rfl) (en q494 ?_)));rcases oif F with ⟨hb516,F⟩|⟨hb516,F⟩
     ·refine ct hb516 (cw_reg (pM v151 he154 (pm v490 ?_)));refine el_buildSlice1 [v490] (cells_of rfl (oc hr488)) (by rfl) (dt rfl) rfl (dt rfl) S (dt rfl) ?_;intro w517 b519 S hx518;have hm511:=cells_up hx518 hm511;obtain ⟨x523,hx523,F⟩:=ob F;have hrow524:=S.boxRow 0 rfl;replace S:Sat w128 w517 [Own (sliceR (roR w128 R0_) 26) [v151] x150,Box b519 26 [v490]]:=S.top 1 rfl;replace S:=S.roOne (R:=R0_) (W:=w128) hr488;replace S:=S.one;refine el_append rfl (dt rfl) rfl (dt rfl) S rfl rfl rfl (by simp) hrow524 hx523 (dt rfl) ?_;intro w521 v522 S;refine pa v522 (el_nil (bn q469 (tn q157 ?_)));replace S:=S.keep 1;exact ⟨v145,x144,v492,x491,v522,x523,he152,rfl,rfl,S,hr146,hr493,F⟩
     refine cf hb516 (cw_skip (bn q469 (tn q157 ?_)));replace S:=S.keep 1;exact ⟨v145,x144,v492,x491,v151,x150,he152,rfl,he154,S,hr146,hr493,F⟩
    refine cf hb482 ?_;refine sR fun _ q526=>?_;refine pM v145 he152 ?_;obtain ⟨x527,hx527,F⟩:=ob F;refine el_index (wA:=w128) rfl hr146 rfl (dt rfl) rfl hx527 (dt rfl) ?_;intro b528 of529 c530 hr531 hm532;obtain ⟨v533,rfl⟩:=slice_one hr531;refine pe v533 (pv_loadc rfl ((cells_up S.below hm532) 0 _ rfl)) (pa v533 (en q526 (cw_reg (pM v145 he152 ?_))));obtain ⟨x534,hx534,F⟩:=ob F;refine el_slice (wA:=w128) rfl rfl hr146 (.inl (congrArg some rfl)) (.inr ⟨rfl,rfl⟩) hx534 (dt rfl) ?_;intro v535 hr536;refine pa v535 (en q480 ?_);refine sR fun _ q537=>?_;refine pM v151 he154 (pe (i_ (x150.length:Int)) (pv_len rfl (S.rdAt (R:=(sliceR (roR w128 R0_) 26)) 0 rfl)) (pe (.bool ((x150.length:Int) == 0)) (pv_eql rfl rfl) (pm (.bool ((x150.length:Int) == 0)) ?_)));rcases oif F with ⟨hb538,F⟩|⟨hb538,F⟩
    ·refine eo hb538 (eo hb538 (eo hb538 (eo hb538 (eo hb538 (eo hb538 (eo hb538 (eo hb538 (eo hb538 (pe (.bool true) (pv_pick_t rfl hb538 rfl) (en q537 (ct rfl (cw_reg (pM v151 he154 (pm v533 ?_))))))))))))));refine el_buildSlice1 [v533] (cells_of rfl (oc hr531)) (by rfl) (dt rfl) rfl (dt rfl) S (dt rfl) ?_;intro w539 b541 S hx540;obtain ⟨x545,hx545,F⟩:=ob F;have hrow546:=S.boxRow 0 rfl;replace S:Sat w128 w539 [Own (sliceR (roR w128 R0_) 26) [v151] x150,Box b541 26 [v533]]:=S.top 1 rfl;replace S:=S.roOne (R:=R0_) (W:=w128) hr531;replace S:=S.one;refine el_append rfl (dt rfl) rfl (dt rfl) S rfl rfl rfl (by simp) hrow546 hx545 (dt rfl) ?_;intro w543 v544 S;refine pa v544 (el_nil (bn q469 (tn q157 ?_)));replace S:=S.keep 1;exact ⟨v535,x534,v148,x147,v544,x545,rfl,he153,rfl,S,hr536,hr149,F⟩
    refine ei hb538 (pM v151 he154 (ei hb538 (pM v151 he154 (ei hb538 (pe (i_ (x150.length:Int)) (pv_len rfl (S.rdAt (R:=(sliceR (roR w128 R0_) 26)) 0 rfl)) (ei hb538 ?_))))));obtain ⟨x548,hx548,F⟩:=ob F;refine pe (i_ x548) (pv_sub rfl rfl hx548) (ei hb538 ?_);obtain ⟨x549,hx549,F⟩:=ob F;refine el_index (wA:=w476) rfl (S.rdAt (R:=(sliceR (roR w128 R0_) 26)) 0 rfl) rfl (dt rfl) rfl hx549 (dt rfl) ?_;intro b550 of551 c552 hr553 hm554;replace hr553:R0_.rd w128 _ _:=hr553;obtain ⟨v555,rfl⟩:=slice_one hr553;refine ei hb538 (pe v555 (pv_loadc rfl (hm554 0 _ rfl)) (ei hb538 (pm v533 (ei hb538 ?_))));obtain ⟨r556,hr556,F⟩:=ob F;refine ec0 goes114 (spec_CompareRows_ok (S.up hr553) (S.up hr531) hr556) (ca (mapc rfl (mapc rfl rfl))) S fun w557 hx558 S=>?_;have hm554:=cells_up hx558 hm554;refine ei hb538 (pe (.bool (r556 != 0)) (pv_neq rfl rfl) (pe (.bool (r556 != 0)) (pv_pick_f rfl hb538 rfl) (en q537 ?_)));rcases oif F with ⟨hb559,F⟩|⟨hb559,F⟩
    ·refine ct hb559 (cw_reg (pM v151 he154 (pm v533 ?_)));refine el_buildSlice1 [v533] (cells_of rfl (oc hr531)) (by rfl) (dt rfl) rfl (dt rfl) S (dt rfl) ?_;intro w560 b562 S hx561;have hm554:=cells_up hx561 hm554;obtain ⟨x566,hx566,F⟩:=ob F;have hrow567:=S.boxRow 0 rfl;replace S:Sat w128 w560 [Own (sliceR (roR w128 R0_) 26) [v151] x150,Box b562 26 [v533]]:=S.top 1 rfl;replace S:=S.roOne (R:=R0_) (W:=w128) hr531;replace S:=S.one;refine el_append rfl (dt rfl) rfl (dt rfl) S rfl rfl rfl (by simp) hrow567 hx566 (dt rfl) ?_;intro w564 v565 S;refine pa v565 (el_nil (bn q469 (tn q157 ?_)));replace S:=S.keep 1;exact ⟨v535,x534,v148,x147,v565,x566,rfl,he153,rfl,S,hr536,hr149,F⟩
    refine cf hb559 (cw_skip (bn q469 (tn q157 ?_)));replace S:=S.keep 1;exact ⟨v535,x534,v148,x147,v151,x150,rfl,he153,he154,S,hr536,hr149,F⟩
   refine cf hb474 ?_;refine sR fun _ q569=>?_;refine pM v148 he153 (pe (i_ (x147.length:Int)) (pv_len rfl hr149) (pe (.bool (decide (0 < (x147.length:Int)))) (pv_gtr rfl rfl) (pa (.bool (decide (0 < (x147.length:Int)))) (en q569 (ct hb468 ?_)))));refine cw_regq (by kernel_rfl) (by kernel_rfl) ?_;refine qM v145 he152 ?_;obtain ⟨x570,hx570,F⟩:=ob F;refine ql_index (wA:=w128) rfl hr146 rfl (dt rfl) rfl hx570 (dt rfl) ?_;intro b571 of572 c573 hr574 hm575;obtain ⟨v576,rfl⟩:=slice_one hr574;refine qe v576 (pv_loadc rfl ((cells_up S.below hm575) 0 _ rfl)) (qM v148 he153 ?_);obtain ⟨x577,hx577,F⟩:=ob F;refine ql_index (wA:=w128) rfl hr149 rfl (dt rfl) rfl hx577 (dt rfl) ?_;intro b578 of579 c580 hr581 hm582;obtain ⟨v583,rfl⟩:=slice_one hr581;refine qe v583 (pv_loadc rfl ((cells_up S.below hm582) 0 _ rfl)) ?_;obtain ⟨r584,hr584,F⟩:=ob F;refine ql_call (i_ r584) goes114 (fun w' hw'=>spec_CompareRows_ok (rd_up (S.up hr574) hw') (rd_up (S.up hr581) hw') hr584) (ca (mapc rfl (mapc rfl rfl))) (dt rfl) ?_;refine qe (i_ r584) (pv_assign rfl) (ql_nil ?_);intro w585 hx586;replace S:=S.ext hx586;refine bn q472 (tn q471 ?_);refine sR fun _ q587=>?_;refine el_buildSlice0 intR S (dt rfl) ?_;intro w588 v590 S hx589;refine pa v590 (en q587 ?_);refine sg fun _ q592=>?_;refine sg fun _ q593=>?_;replace S:Sat w128 w588 [Own (sliceR (roR w128 R0_) 26) [v151] x150]:=S.rems 2 [0] rfl;refine cw_reg (pm (i_ r584) (pe (.bool (decide (0 < r584))) (pv_gtr rfl rfl) (en q593 ?_)));rcases oif F with ⟨hb594,F⟩|⟨hb594,F⟩
   ·refine ct hb594 ?_;refine sR fun _ q595=>?_;refine pM v148 he153 ?_;obtain ⟨x596,hx596,F⟩:=ob F;refine el_index (wA:=w128) rfl hr149 rfl (dt rfl) rfl hx596 (dt rfl) ?_;intro b597 of598 c599 hr600 hm601;obtain ⟨v602,rfl⟩:=slice_one hr600;refine pe v602 (pv_loadc rfl ((cells_up S.below hm601) 0 _ rfl)) (pa v602 (en q595 (cw_reg (pM v148 he153 ?_))));obtain ⟨x603,hx603,F⟩:=ob F;refine el_slice (wA:=w128) rfl rfl hr149 (.inl (congrArg some rfl)) (.inr ⟨rfl,rfl⟩) hx603 (dt rfl) ?_;intro v604 hr605;refine pa v604 (en q592 ?_);refine sR fun _ q606=>?_;refine pM v151 he154 (pe (i_ (x150.length:Int)) (pv_len rfl (S.rdAt (R:=(sliceR (roR w128 R0_) 26)) 0 rfl)) (pe (.bool ((x150.length:Int) == 0)) (pv_eql rfl rfl) (pm (.bool ((x150.length:Int) == 0)) ?_)));rcases oif F with ⟨hb607,F⟩|⟨hb607,F⟩
    ·refine eo hb607 (eo hb607 (eo hb607 (eo hb607 (eo hb607 (eo hb607 (eo hb607 (eo hb607 (eo hb607 (pe (.bool true) (pv_pick_t rfl hb607 rfl) (en q606 (ct rfl (cw_reg (pM v151 he154 (pm v602 ?_))))))))))))));refine el_buildSlice1 [v602] (cells_of rfl (oc hr600)) (by rfl) (dt rfl) rfl (dt rfl) S (dt rfl) ?_;intro w608 b610 S hx609;obtain ⟨x614,hx614,F⟩:=ob F;have hrow615:=S.boxRow 0 rfl;replace S:Sat w128 w608 [Own (sliceR (roR w128 R0_) 26) [v151] x150,Box b610 26 [v602]]:=S.top 1 rfl;replace S:=S.roOne (R:=R0_) (W:=w128) hr600;replace S:=S.one;refine el_append rfl (dt rfl) rfl (dt rfl) S rfl rfl rfl (by simp) hrow615 hx614 (dt rfl) ?_;intro w612 v613 S;refine pa v613 (el_nil (bn q469 (tn q157 ?_)));replace S:=S.keep 1;exact ⟨v145,x144,v604,x603,v613,x614,he152,rfl,rfl,S,hr146,hr605,F⟩
    refine ei hb607 (pM v151 he154 (ei hb607 (pM v151 he154 (ei hb607 (pe (i_ (x150.length:Int)) (pv_len rfl (S.rdAt (R:=(sliceR (roR w128 R0_) 26)) 0 rfl)) (ei hb607 ?_))))));obtain ⟨x617,hx617,F⟩:=ob F;refine pe (i_ x617) (pv_sub rfl rfl hx617) (ei hb607 ?_);obtain ⟨x618,hx618,F⟩:=ob F;refine el_index (wA:=w588) rfl (S.rdAt (R:=(sliceR (roR w128 R0_) 26)) 0 rfl) rfl (dt rfl) rfl hx618 (dt rfl) ?_;intro b619 of620 c621 hr622 hm623;replace hr622:R0_.rd w128 _ _:=hr622;obtain ⟨v624,rfl⟩:=slice_one hr622;refine ei hb607 (pe v624 (pv_loadc rfl (hm623 0 _ rfl)) (ei hb607 (pm v602 (ei hb607 ?_))));obtain ⟨r625,hr625,F⟩:=ob F;refine ec0 goes114 (spec_CompareRows_ok (S.up hr622) (S.up hr600) hr625) (ca (mapc rfl (mapc rfl rfl))) S fun w626 hx627 S=>?_;have hm623:=cells_up hx627 hm623;refine ei hb607 (pe (.bool (r625 != 0)) (pv_neq rfl rfl) (pe (.bool (r625 != 0)) (pv_pick_f rfl hb607 rfl) (en q606 ?_)));rcases oif F with ⟨hb628,F⟩|⟨hb628,F⟩
    ·refine ct hb628 (cw_reg (pM v151 he154 (pm v602 ?_)));refine el_buildSlice1 [v602] (cells_of rfl (oc hr600)) (by rfl) (dt rfl) rfl (dt rfl) S (dt rfl) ?_;intro w629 b631 S hx630;have hm623:=cells_up hx630 hm623;obtain ⟨x635,hx635,F⟩:=ob F;have hrow636:=S.boxRow 0 rfl;replace S:Sat w128 w629 [Own (sliceR (roR w128 R0_) 26) [v151] x150,Box b631 26 [v602]]:=S.top 1 rfl;replace S:=S.roOne (R:=R0_) (W:=w128) hr600;replace S:=S.one;refine el_append rfl (dt rfl) rfl (dt rfl) S rfl rfl rfl (by simp) hrow636 hx635 (dt rfl) ?_;intro w633 v634 S;refine pa v634 (el_nil (bn q469 (tn q157 ?_)));replace S:=S.keep 1;exact ⟨v145,x144,v604,x603,v634,x635,he152,rfl,rfl,S,hr146,hr605,F⟩
    refine cf hb628 (cw_skip (bn q469 (tn q157 ?_)));replace S:=S.keep 1;exact ⟨v145,x144,v604,x603,v151,x150,he152,rfl,he154,S,hr146,hr605,F⟩
   refine cf hb594 ?_;refine sR fun _ q638=>?_;refine pM v145 he152 ?_;obtain ⟨x639,hx639,F⟩:=ob F;refine el_index (wA:=w128) rfl hr146 rfl (dt rfl) rfl hx639 (dt rfl) ?_;intro b640 of641 c642 hr643 hm644;obtain ⟨v645,rfl⟩:=slice_one hr643;refine pe v645 (pv_loadc rfl ((cells_up S.below hm644) 0 _ rfl)) (pa v645 (en q638 (cw_reg (pM v145 he152 ?_))));obtain ⟨x646,hx646,F⟩:=ob F;refine el_slice (wA:=w128) rfl rfl hr146 (.inl (congrArg some rfl)) (.inr ⟨rfl,rfl⟩) hx646 (dt rfl) ?_;intro v647 hr648;refine pa v647 (en q592 ?_);refine sR fun _ q649=>?_;refine pM v151 he154 (pe (i_ (x150.length:Int)) (pv_len rfl (S.rdAt (R:=(sliceR (roR w128 R0_) 26)) 0 rfl)) (pe (.bool ((x150.length:Int) == 0)) (pv_eql rfl rfl) (pm (.bool ((x150.length:Int) == 0)) ?_)));rcases oif F with ⟨hb650,F⟩|⟨hb650,F⟩
   ·refine eo hb650 (eo hb650 (eo hb650 (eo hb650 (eo hb650 (eo hb650 (eo hb650 (eo hb650 (eo hb650 (pe (.bool true) (pv_pick_t rfl hb650 rfl) (en q649 (ct rfl (cw_reg (pM v151 he154 (pm v645 ?_))))))))))))));refine el_buildSlice1 [v645] (cells_of rfl (oc hr643)) (by rfl) (dt rfl) rfl (dt rfl) S (dt rfl) ?_;intro w651 b653 S hx652;obtain ⟨x657,hx657,F⟩:=ob F;have hrow658:=S.boxRow 0 rfl;replace S:Sat w128 w651 [Own (sliceR (roR w128 R0_) 26) [v151] x150,Box b653 26 [v645]]:=S.top 1 rfl;replace S:=S.roOne (R:=R0_) (W:=w128) hr643;replace S:=S.one;refine el_append rfl (dt rfl) rfl (dt rfl) S rfl rfl rfl (by simp) hrow658 hx657 (dt rfl) ?_;intro w655 v656 S;refine pa v656 (el_nil (bn q469 (tn q157 ?_)));replace S:=S.keep 1;exact ⟨v647,x646,v148,x147,v656,x657,rfl,he153,rfl,S,hr648,hr149,F⟩
   refine ei hb650 (pM v151 he154 (ei hb650 (pM v151 he154 (ei hb650 (pe (i_ (x150.length:Int)) (pv_len rfl (S.rdAt (R:=(sliceR (roR w128 R0_) 26)) 0 rfl)) (ei hb650 ?_))))));obtain ⟨x660,hx660,F⟩:=ob F;refine pe (i_ x660) (pv_sub rfl rfl hx660) (ei hb650 ?_);obtain ⟨x661,hx661,F⟩:=ob F;refine el_index (wA:=w588) rfl (S.rdAt (R:=(sliceR (roR w128 R0_) 26)) 0 rfl) rfl (dt rfl) rfl hx661 (dt rfl) ?_;intro b662 of663 c664 hr665 hm666;replace hr665:R0_.rd w128 _ _:=hr665;obtain ⟨v667,rfl⟩:=slice_one hr665;refine ei hb650 (pe v667 (pv_loadc rfl (hm666 0 _ rfl)) (ei hb650 (pm v645 (ei hb650 ?_))));obtain ⟨r668,hr668,F⟩:=ob F;refine ec0 goes114 (spec_CompareRows_ok (S.up hr665) (S.up hr643) hr668) (ca (mapc rfl (mapc rfl rfl))) S fun w669 hx670 S=>?_;have hm666:=cells_up hx670 hm666;refine ei hb650 (pe (.bool (r668 != 0)) (pv_neq rfl rfl) (pe (.bool (r668 != 0)) (pv_pick_f rfl hb650 rfl) (en q649 ?_)));rcases oif F with ⟨hb671,F⟩|⟨hb671,F⟩
   ·refine ct hb671 (cw_reg (pM v151 he154 (pm v645 ?_)));refine el_buildSlice1 [v645] (cells_of rfl (oc hr643)) (by rfl) (dt rfl) rfl (dt rfl) S (dt rfl) ?_;intro w672 b674 S hx673;have hm666:=cells_up hx673 hm666;obtain ⟨x678,hx678,F⟩:=ob F;have hrow679:=S.boxRow 0 rfl;replace S:Sat w128 w672 [Own (sliceR (roR w128 R0_) 26) [v151] x150,Box b674 26 [v645]]:=S.top 1 rfl;replace S:=S.roOne (R:=R0_) (W:=w128) hr643;replace S:=S.one;refine el_append rfl (dt rfl) rfl (dt rfl) S rfl rfl rfl (by simp) hrow679 hx678 (dt rfl) ?_;intro w676 v677 S;refine pa v677 (el_nil (bn q469 (tn q157 ?_)));replace S:=S.keep 1;exact ⟨v647,x646,v148,x147,v677,x678,rfl,he153,rfl,S,hr648,hr149,F⟩
   refine cf hb671 (cw_skip (bn q469 (tn q157 ?_)));replace S:=S.keep 1;exact ⟨v647,x646,v148,x147,v151,x150,rfl,he153,he154,S,hr648,hr149,F⟩
  refine cf hb468 (cw_exit (tx q158 (tx q157 ?_)));replace F:=exB F hK143;refine bS q141 (tn q140 ?_);refine sR fun _ q681=>?_;refine pM v151 he154 (pa v151 (en q681 (cw_ret (fin1 rfl rfl ?_))));have hr:=Option.some.inj F;exact ⟨v151,congrArg (fun (r:T1_)=>Ending.returned (v151)) hr,(S.rebase hE130).below,Eq.mp (congrArg (fun (r:T1_)=>R2_.rd w155 [v151] r) hr) (ro_rd S.below (S.rdAt (R:=(sliceR (roR w128 R0_) 26)) 0 rfl))⟩
theorem spec_l5Sort_ok {w0 : World} {u0 : Value} {a0 : List T0_} (ha0 : R2_.rd w0 [u0] a0) {N : Nat} {r : T1_} (hF : spec_l5Sort N a0 = some r) :
    Calls Tryz.prog 79 #[u0] w0 fun e w' => ∃ (q0 : Value), e = .returned (q0) ∧ Ext w0 w' ∧ R2_.rd w' [q0] r := spec_l5Sort_ok' N ha0 hF

end Go.Proofs.YtbdnoljojebebaaGreat
