/- Plain laws: LeapfrogIntersect: the rounds. -/
import Derived.Test.YtmnbfjhefejmoaaGreatV1
namespace Go.Proofs.YtmnbfjhefejmoaaGreat
open Go.RowKit

theorem uP (Ls:aN) (A:List Nat) (most:Int) (out:List Int) (s:Nat):(lkO Ls A most out s).length≤out.length+1:=by
 unfold lkO;split
 ·simp
 ·omega
theorem wr (A:List Nat):(cz A).length=A.length:=by simp [cz]
theorem ms (a b:Nat):((a:Int) == (b:Int))=decide (a=b):=by
 by_cases h:a=b
 ·rw [decide_eq_true h,h];simp
 ·rw [decide_eq_false h];simp;omega
section
variable {N:Nat}
theorem A6 (hN:1073741824≤N) {Ls:aN} (hb:∀ l∈Ls,l.length≤1000000):∀ (m:Nat) (A:List Nat) (most:Int) (out:List Int) (s k:Nat),LInv Ls A most out s→kc Ls A<m→m≤k→out.length+m≤1073741824→s+m≤1073741824 →
  cV N k Ls (cz A) most out ((s+1:Nat):Int)=some ((e9 Ls m A most out s).1,((e9 Ls m A most out s).2:Int)):=by
 intro m
 induction m with
 | zero=>intro A most out s k _ h;omega
 | succ m ih =>
  intro A most out s k I h hmk h1 h2
  obtain ⟨k,rfl⟩:∃ g,k=g+1:=⟨k-1,by omega⟩
  obtain ⟨hk,ha,hgt,hle,_,hstep⟩:=py I
  have hkA:s % Ls.length<A.length:=by rw [I.len];exact hk
  have ha':lkP Ls A s<(lkL Ls s).length:=ha
  have hle':lkA Ls A most s≤(lkL Ls s).length:=hle
  have hlb:=hb _ (fz hk)
  have hlb':(lkL Ls s).length≤1000000:=hlb
  have hset:s % Ls.length<(A.set (s % Ls.length) (lkA Ls A most s)).length:=by rw [List.length_set];exact hkA
  have hrec:¬ lkA Ls A most s=(lkL Ls s).length→cV N k Ls (cz (A.set (s % Ls.length) (lkA Ls A most s))) ((lkL Ls s).getD (lkA Ls A most s) 0) (lkO Ls A most out s) ((s+1+1:Nat):Int)=some ((e9 Ls (m+1) A most out s).1,((e9 Ls (m+1) A most out s).2:Int)):=fun hne=>by
   have hr:=nJ Ls A (s % Ls.length) (lkA Ls A most s) hk I.len (by
    have h4:lkP Ls A s<lkA Ls A most s:=hgt
    show (lkL Ls s).length-lkA Ls A most s<(lkL Ls s).length-lkP Ls A s
    omega)
   have hol:=uP Ls A most out s
   rw [ih _ _ _ (s+1) k (hstep hne) (by omega) (by omega) (by omega) (by omega),e9,if_neg hne]
  have hend:lkA Ls A most s=(lkL Ls s).length→(e9 Ls (m+1) A most out s)=(lkO Ls A most out s,s+1):=fun he=>by rw [e9,if_pos he]
  rw [cV,fJ (by omega) (by omega),bs,show (((s+1:Nat):Int)-1)=(s:Int) by omega,AZ I.pos,bs,ixR hk,bs]
  show ((ix (cz A) ((s % Ls.length:Nat):Int)).bind fun x854=>(ix (lkL Ls s) x854).bind _)=_
  rw [oq hkA,bs]
  show ((ix (lkL Ls s) ((lkP Ls A s:Nat):Int)).bind _)=_
  rw [ixD ha',bs]
  by_cases e:(lkL Ls s).getD (lkP Ls A s) 0=most
  ·have eA:lkA Ls A most s=lkP Ls A s+1:=if_pos e
   have eO:lkO Ls A most out s=out++[most]:=if_pos e
   rw [show ((lkL Ls s).getD (lkP Ls A s) 0 == most)=true by rw [e];simp,cond_true,bB (by decide) (by simp;omega),bs,bs,ad1 (show A.getD (s % Ls.length) 0<1099511627776 by have:lkP Ls A s=A.getD (s % Ls.length) 0:=rfl;omega),bs,bs]
   show ((sto (cz A) ((s % Ls.length:Nat):Int) ((lkP Ls A s+1:Nat):Int)).bind _)=_
   rw [rO hkA,bs,← eA,← eO,oq hset,bs,qJ hkA]
   show (bif (((lkA Ls A most s:Nat):Int) == ((lkL Ls s).length:Int)) then _ else _)=_
   rw [ms]
   by_cases he:lkA Ls A most s=(lkL Ls s).length
   ·rw [decide_eq_true he,cond_true,hend he]
   ·rw [decide_eq_false he,cond_false,bs]
    show ((ix (lkL Ls s) ((lkA Ls A most s:Nat):Int)).bind _)=_
    rw [ixD (show lkA Ls A most s<(lkL Ls s).length by omega),bs,ad1 (by omega),bs]
    exact hrec he
  ·have eA:lkA Ls A most s=dB (lkL Ls s) (lkP Ls A s) most:=if_neg e
   have eO:lkO Ls A most out s=out:=if_neg e
   rw [show ((lkL Ls s).getD (lkP Ls A s) 0 == most)=false by simpa using e,cond_false,bs]
   show ((gL N (lkL Ls s) ((lkP Ls A s:Nat):Int) most).bind _)=_
   rw [pV hN (by omega) (by omega),bs,bs,← eA]
   show ((sto (cz A) ((s % Ls.length:Nat):Int) ((lkA Ls A most s:Nat):Int)).bind _)=_
   rw [rO hkA,bs,oq hset,bs,qJ hkA]
   show (bif (((lkA Ls A most s:Nat):Int) == ((lkL Ls s).length:Int)) then _ else _)=_
   rw [ms]
   by_cases he:lkA Ls A most s=(lkL Ls s).length
   ·rw [decide_eq_true he,cond_true,hend he,eO]
   ·rw [decide_eq_false he,cond_false,bs]
    show ((ix (lkL Ls s) ((lkA Ls A most s:Nat):Int)).bind _)=_
    rw [ixD (show lkA Ls A most s<(lkL Ls s).length by omega),bs,ad1 (by omega),bs]
    have:=hrec he
    rw [eO] at this
    exact this
def atO (O:List Int) (B:List Nat):List Nat:=O.map fun j=>B.getD j.toNat 0
theorem AN {O:List Int} {B:List Nat} {k:Nat} (h:k<O.length):(atO O B).getD k 0=B.getD O[k].toNat 0:=by unfold atO;simp [h]
theorem yJ {O:List Int} {B:List Nat} {k a n:Nat} (hn:O.Nodup) (hO:∀ j∈O,0≤j∧j<n) (hB:B.length=n) (h:k<O.length):atO O (B.set O[k].toNat a)=(atO O B).set k a:=by
 unfold atO
 refine List.ext_getElem (by simp) fun i h1 h2=>?_
 rw [List.length_map] at h1
 rw [List.getElem_map,List.getElem_set,List.getElem_map]
 have hj:=hO _ (List.getElem_mem h)
 have hi:=hO _ (List.getElem_mem h1)
 by_cases e:k=i
 ·subst e
  rw [if_pos rfl,qJ (by omega)]
 ·rw [if_neg e,sE]
  intro e2
  exact e (o7 hn h h1 (by omega))
theorem A0 (hN:1073741824≤N) {ls:aN} {O:List Int} (hO:OrdOk ls O ls.length) (hb:∀ l∈ls,l.length≤1000000):∀ (m:Nat) (B:List Nat) (most:Int) (out:List Int) (s k:Nat),B.length=ls.length→LInv (lsO ls O) (atO O B) most out s→kc (lsO ls O) (atO O B)<m→m≤k→out.length+m≤1073741824→s+m≤1073741824 →
  cT N k ls out O (cz B) ((s % (lsO ls O).length:Nat):Int) most (s:Int)=some ((e9 (lsO ls O) m (atO O B) most out s).1,((e9 (lsO ls O) m (atO O B) most out s).2:Int)):=by
 have hLO:(lsO ls O).length=O.length:=by unfold lsO;rw [List.length_map]
 intro m
 induction m with
 | zero=>intro B most out s k _ _ h;omega
 | succ m ih =>
  intro B most out s k hB I h hmk h1 h2
  obtain ⟨k,rfl⟩:∃ g,k=g+1:=⟨k-1,by omega⟩
  obtain ⟨hk,ha,hgt,hle,_,hstep⟩:=py I
  have hkO:s % (lsO ls O).length<O.length:=by rw [← hLO];exact hk
  have hj:=hO.bd _ (List.getElem_mem hkO)
  have hjB:O[s % (lsO ls O).length].toNat<B.length:=by omega
  have hjl:O[s % (lsO ls O).length].toNat<ls.length:=by omega
  have ej:(O[s % (lsO ls O).length]:Int)=((O[s % (lsO ls O).length].toNat:Nat):Int):=by omega
  have eL:ls.getD O[s % (lsO ls O).length].toNat []=lkL (lsO ls O) s:=(rA hkO).symm
  have eP:B.getD O[s % (lsO ls O).length].toNat 0=lkP (lsO ls O) (atO O B) s:=(AN hkO).symm
  have hkA:s % (lsO ls O).length<(atO O B).length:=by rw [I.len];exact hk
  have ha':lkP (lsO ls O) (atO O B) s<(lkL (lsO ls O) s).length:=ha
  have hle':lkA (lsO ls O) (atO O B) most s≤(lkL (lsO ls O) s).length:=hle
  have hlb':(lkL (lsO ls O) s).length≤1000000:=by rw [← eL];exact hb _ (fz hjl)
  have hset:O[s % (lsO ls O).length].toNat<(B.set O[s % (lsO ls O).length].toNat (lkA (lsO ls O) (atO O B) most s)).length:=by rw [List.length_set];exact hjB
  have eset:=yJ (a:=lkA (lsO ls O) (atO O B) most s) hO.nd hO.bd hB hkO
  have hmod:((s % (lsO ls O).length+1:Nat):Int).tmod (O.length:Int)=((s+1) % (lsO ls O).length:Nat):=by
   rw [← hLO,← Int.ofNat_tmod]
   congr 1
   rw [Nat.add_mod s 1]
   simp
  have hrec:¬ lkA (lsO ls O) (atO O B) most s=(lkL (lsO ls O) s).length→cT N k ls (lkO (lsO ls O) (atO O B) most out s) O (cz (B.set O[s % (lsO ls O).length].toNat (lkA (lsO ls O) (atO O B) most s))) (((s+1) % (lsO ls O).length:Nat):Int) ((lkL (lsO ls O) s).getD (lkA (lsO ls O) (atO O B) most s) 0) ((s+1:Nat):Int)=some ((e9 (lsO ls O) (m+1) (atO O B) most out s).1,((e9 (lsO ls O) (m+1) (atO O B) most out s).2:Int)):=fun hne=>by
   have hr:=nJ (lsO ls O) (atO O B) (s % (lsO ls O).length) (lkA (lsO ls O) (atO O B) most s) hk I.len (by
    have h4:lkP (lsO ls O) (atO O B) s<lkA (lsO ls O) (atO O B) most s:=hgt
    show (lkL (lsO ls O) s).length-lkA (lsO ls O) (atO O B) most s<(lkL (lsO ls O) s).length-lkP (lsO ls O) (atO O B) s
    omega)
   have hol:=uP (lsO ls O) (atO O B) most out s
   have hI:=hstep hne
   rw [ih (B.set O[s % (lsO ls O).length].toNat (lkA (lsO ls O) (atO O B) most s)) _ _ (s+1) k (by rw [List.length_set];exact hB) (by rw [eset];exact hI) (by rw [eset];omega) (by omega) (by omega) (by omega),eset,e9,if_neg hne]
  have hend:lkA (lsO ls O) (atO O B) most s=(lkL (lsO ls O) s).length→(e9 (lsO ls O) (m+1) (atO O B) most out s)=(lkO (lsO ls O) (atO O B) most out s,s+1):=fun he=>by rw [e9,if_pos he]
  have hOp:0<O.length:=by omega
  have hms:s % (lsO ls O).length≤s:=Nat.mod_le _ _
  rw [cT,aR hkO,bs,ej,ixR hjl,bs,oq hjB,bs,eL,eP,ixD ha',bs,ad1 (by omega),bs]
  by_cases e:(lkL (lsO ls O) s).getD (lkP (lsO ls O) (atO O B) s) 0=most
  ·have eA:lkA (lsO ls O) (atO O B) most s=lkP (lsO ls O) (atO O B) s+1:=if_pos e
   have eO:lkO (lsO ls O) (atO O B) most out s=out++[most]:=if_pos e
   rw [e,show (most == most)=true by simp,cond_true,bB (by decide) (by simp;omega),bs,bs,ad1 (by omega),bs,bs,rO hjB,bs,← eA,← eO,oq hset,bs,qJ hjB,bs,ms]
   by_cases he:lkA (lsO ls O) (atO O B) most s=(lkL (lsO ls O) s).length
   ·rw [decide_eq_true he,cond_true,hend he]
   ·rw [decide_eq_false he,cond_false,bs,bs,ixD (show lkA (lsO ls O) (atO O B) most s<(lkL (lsO ls O) s).length by omega),bs,ad1 (by omega),bs,vL (by omega),bs,hmod]
    exact hrec he
  ·have eA:lkA (lsO ls O) (atO O B) most s=dB (lkL (lsO ls O) s) (lkP (lsO ls O) (atO O B) s) most:=if_neg e
   have eO:lkO (lsO ls O) (atO O B) most out s=out:=if_neg e
   rw [show ((lkL (lsO ls O) s).getD (lkP (lsO ls O) (atO O B) s) 0 == most)=false by simpa using e,cond_false,bs,bs,pS hN (by omega) (by omega),bs,bs,← eA,rO hjB,bs,oq hset,bs,qJ hjB,bs,ms]
   by_cases he:lkA (lsO ls O) (atO O B) most s=(lkL (lsO ls O) s).length
   ·rw [decide_eq_true he,cond_true,hend he,eO]
   ·rw [decide_eq_false he,cond_false,bs,bs,ixD (show lkA (lsO ls O) (atO O B) most s<(lkL (lsO ls O) s).length by omega),bs,ad1 (by omega),bs,vL (by omega),bs,hmod]
    have:=hrec he
    rw [eO] at this
    exact this
theorem t8 (n:Nat):List.replicate n (0:Int)=cz (d4 n):=by unfold cz d4;rw [List.map_replicate];rfl
theorem pb {O:List Int} {n:Nat} (h:O.length=n):atO O (d4 n)=d4 n:=by
 unfold atO d4
 refine List.ext_getElem (by simp [h]) fun i h1 h2=>?_
 rw [List.getElem_map,List.getElem_replicate]
 exact qX n _
theorem md (hN:1073741824≤N) {ls:aN} (hl:ls.length≤1000) (hb:∀ l∈ls,l.length≤1000000):eS N ls=some (jD ls):=by
 have hok:dV ls:=⟨by omega,fun l h=>⟨by have:=hb l h;omega,fun _ _=>trivial⟩⟩
 unfold eS jD
 rw [qd hN hok,bs]
 cases h1:jp ls with
 | false=>rfl
 | true =>
  rw [cond_true,ni hN (by omega),bs,Bool.true_and]
  cases h2:(shT ls ls.length == 0) with
  | true=>rfl
  | false =>
   obtain ⟨I,hne⟩:=om (ls:=ls) (by rw [h1,h2];rfl)
   have hpos:=I.pos
   have hlen:=pF ls
   have hrem:=m3 (lsO ls (cF ls ls.length)) 1000000 ls.length fun l hl=>hb l (i8.1 hl)
   rw [hlen] at hrem
   have hmul:=Nat.mul_le_mul_right 1000000 hl
   have h1p:0<((lsO ls (cF ls ls.length)).getD (ls.length-1) []).length:=hne _ (i8.1 (fz (by omega)))
   rw [cond_false,Bool.not_false,cond_true,zg hN hne hl,bs,lpB]
   show ((mk 8 (0:Int) ((lsO ls (cF ls ls.length)).length:Int)).bind _)=_
   rw [hlen,pL (by decide) (by omega),bs,t8,fJ (by omega) (by omega),bs,show ((ls.length:Int)-1)=((ls.length-1:Nat):Int) by omega,ixR (by omega),bs,ixH h1p,bs]
   have:=A6 hN (Ls:=lsO ls (cF ls ls.length)) (fun l h=>hb l (i8.1 h)) (kc (lsO ls (cF ls ls.length)) (d4 ls.length)+1) (d4 ls.length) _ [] 0 N I (by omega) (by omega) (by simp;omega) (by omega)
   exact this
theorem mc (hN:1073741824≤N) {ls:aN} (hl:ls.length≤1000) (hb:∀ l∈ls,l.length≤1000000):dR N ls=some (jD ls):=by
 have hok:dV ls:=⟨by omega,fun l h=>⟨by have:=hb l h;omega,fun _ _=>trivial⟩⟩
 unfold dR jD
 rw [wL hN hok,bs]
 cases h1:jp ls with
 | false=>rfl
 | true =>
  rw [cond_true,nf hN (by omega),bs,Bool.true_and]
  cases h2:(shT ls ls.length == 0) with
  | true=>rfl
  | false =>
   obtain ⟨I,hne⟩:=om (ls:=ls) (by rw [h1,h2];rfl)
   have hpos:=I.pos
   have hlen:=pF ls
   have ho:=lj ls ls.length
   have hol:=ho.len
   have hrem:=m3 (lsO ls (cF ls ls.length)) 1000000 ls.length fun l hl=>hb l (i8.1 hl)
   rw [hlen] at hrem
   have hmul:=Nat.mul_le_mul_right 1000000 hl
   have hlast:ls.length-1<(cF ls ls.length).length:=by omega
   have hj:=ho.bd _ (List.getElem_mem hlast)
   have eL:ls.getD (cF ls ls.length)[ls.length-1].toNat []=(lsO ls (cF ls ls.length)).getD (ls.length-1) []:=(rA hlast).symm
   have h1p:0<((lsO ls (cF ls ls.length)).getD (ls.length-1) []).length:=hne _ (i8.1 (fz (by omega)))
   rw [cond_false,Bool.not_false,cond_true,uz hN hne hl,bs,pL (by decide) (by omega),bs,t8,hol,fJ (by omega) (by omega),bs,show ((ls.length:Int)-1)=((ls.length-1:Nat):Int) by omega,aR hlast,bs,ixL hj,bs,eL,ixH h1p,bs]
   have hI:LInv (lsO ls (cF ls ls.length)) (atO (cF ls ls.length) (d4 ls.length)) (fh ((lsO ls (cF ls ls.length)).getD (ls.length-1) [])) [] 0:=by rw [pb hol];exact I
   have:=A0 hN ho hb (kc (lsO ls (cF ls ls.length)) (d4 ls.length)+1) (d4 ls.length) _ [] 0 N (by simp [d4]) hI (by rw [pb hol];omega) (by omega) (by simp;omega) (by omega)
   rw [pb hol,Nat.zero_mod] at this
   exact this
end
end Go.Proofs.YtmnbfjhefejmoaaGreat
namespace Go.Proofs.YtmnbfjhefejmoaaGreat
open Go.RowKit

theorem ym {A:List Nat} {k:Nat} (h:k<A.length):A.getD k 0=A[k]:=by simp [h]
def e7 (atoms:List ba) (i:Nat):ba:=atoms.getD i (ByteArray.empty,[])
theorem kK {atoms:List ba} {i:Nat} (h:i<atoms.length):e7 atoms i=atoms[i]:=by unfold e7;simp [h]
def jS (atoms:List ba) (v:Int) (n:Nat):List Nat:=(List.range' 0 n).filter fun i=>decide (v∈(e7 atoms i).2)
def iT (atoms:List ba) (v:Int):List Nat:=jS atoms v atoms.length
def ks (vs order p:List Int) (n:Nat):List Int:=((List.range' 0 n).filter fun k=>decide (order.getD k 0∈vs)).map fun k=>p.getD k 0
def re (vs order p:List Int):List Int:=ks vs order p p.length
def atV (ts:List bw) (order:List Int) (atoms:List ba) (p:List Int) (i:Nat):List Int :=
 kU (k6 ts order (e7 atoms i)).1 (k6 ts order (e7 atoms i)).2 (re (e7 atoms i).2 order p)
def jK (ts:List bw) (order:List Int) (atoms:List ba) (p:List Int):aN:=(iT atoms (order.getD p.length 0)).map (atV ts order atoms p)
theorem sI (atoms:List ba) (v:Int) (n:Nat):jS atoms v (n+1)=bif decide (v∈(e7 atoms n).2) then jS atoms v n++[n] else jS atoms v n:=by
 unfold jS
 rw [List.range'_concat,List.filter_append]
 simp only [Nat.zero_add,Nat.one_mul,List.filter_cons,List.filter_nil]
 cases decide (v∈(e7 atoms n).2) <;> simp
theorem nY (atoms:List ba) (v:Int) (n:Nat):(jS atoms v n).length≤n:=by
 unfold jS
 refine Nat.le_trans (List.length_filter_le _ _) ?_
 simp
theorem tN {atoms:List ba} {v:Int} {i:Nat}:i∈iT atoms v↔i<atoms.length∧v∈(e7 atoms i).2:=by
 unfold iT jS
 rw [List.mem_filter,decide_eq_true_eq]
 simp
theorem sN (vs order p:List Int) (n:Nat):ks vs order p (n+1)=bif decide (order.getD n 0∈vs) then ks vs order p n++[p.getD n 0] else ks vs order p n:=by
 unfold ks
 rw [List.range'_concat,List.filter_append,List.map_append]
 simp only [Nat.zero_add,Nat.one_mul,List.filter_cons,List.filter_nil]
 cases decide (order.getD n 0∈vs) <;> simp
theorem ug (vs order p:List Int) (n:Nat):(ks vs order p n).length≤n:=by
 unfold ks
 rw [List.length_map]
 refine Nat.le_trans (List.length_filter_le _ _) ?_
 simp
theorem sS {ts:List bw} {order:List Int} {atoms:List ba} {i:Nat} (h:i<atoms.length):ix (bp ts order atoms) (i:Int)=some (k6 ts order (e7 atoms i)):=by
 rw [aR (by rw [k9];exact h)]
 unfold bp
 rw [List.getElem_map,kK h]
theorem rg {atoms:List ba} {i:Nat} (h:i<atoms.length):e7 atoms i∈atoms:=by rw [kK h];exact List.getElem_mem h
theorem sY {atoms:List ba} (ha:cG atoms) {i:Nat} (h:i<atoms.length):okI (e7 atoms i).2:=by rw [kK h];exact kw ha h
theorem ub {atoms:List ba} {i:Nat} (h:i<atoms.length):ix atoms (i:Int)=some (e7 atoms i):=by rw [aR h,kK h]
theorem nW (ts:List bw) (order:List Int) (atoms:List ba) (p:List Int):(jK ts order atoms p).length≤atoms.length:=by
 unfold jK;rw [List.length_map];exact nY _ _ _
theorem mS {ts:List bw} {n:Nat} {atoms:List ba} {order p:List Int} (q:QFor ts n atoms order):∀ l∈jK ts order atoms p,l.length≤16∧i4 l∧∀ v∈l,0≤v∧v≤99:=by
 intro l hl
 obtain ⟨i,hi,rfl⟩:=List.mem_map.1 hl
 have hm:=rg (tN.1 hi).1
 obtain ⟨_,_,g3,g4,_⟩:=mz q hm
 unfold atV
 exact ⟨Nat.le_trans (wd _ _ _) g4,wK g3,vA g3⟩
section
variable {N:Nat}
theorem zA (hN:1073741824≤N) {t1:List mV} {order p vs:List Int} {s:ByteArray} {b1:aN} {b2 b5 b6:Int} {b4:List ba} (hv:okI vs) (hp:p.length≤1000) (ho:p.length≤order.length) :
  cL N N t1 order p b1 b2 s vs [] b4 b5 b6 p (p.length:Int) 0=some (re vs order p,(p.length:Int)) :=
 dz (fun k (o:List Int) i=>cL N k t1 order p b1 b2 s vs o b4 b5 b6 p (p.length:Int) i) p.length (ks vs order p) (re vs order p,(p.length:Int))
  (fun k i h=>by
   have hl:=ug vs order p i
   show cL N (k+1) t1 order p b1 b2 s vs (ks vs order p i) b4 b5 b6 p (p.length:Int) (i:Int)=cL N k t1 order p b1 b2 s vs (ks vs order p (i+1)) b4 b5 b6 p (p.length:Int) ((i+1:Nat):Int)
   rw [cL,dlt h,cond_true,ixD h,bs,ixD (show i<order.length by omega),bs,gZ hN hv,bs,ad1 (by omega),sN]
   cases decide (order.getD i 0∈vs) with
   | true=>rw [cond_true,cond_true,bB (by decide) (by simp;omega),bs,bs]
   | false=>rw [cond_false,cond_false,bs])
  (fun k=>by
   show cL N (k+1) t1 order p b1 b2 s vs (ks vs order p p.length) b4 b5 b6 p (p.length:Int) (p.length:Int)=_
   rw [cL,dge (by omega),cond_false];rfl) N 0 (by omega) (by omega)
theorem tC (hN:1073741824≤N) {ts:List bw} {n:Nat} {m:Int} {atoms:List ba} {out order p:List Int} (q:QFor ts n atoms order) (ha:cG atoms) (hp:p.length<n) :
  i7 N m atoms out (bp ts order atoms) order p=some (jK ts order atoms p):=by
 have hn5:=q.n5
 have hol:=q.ol
 have h4:=q.a4
 have h:=dz (fun k (o:aN) i=>cN N k (bp ts order atoms) order p o atoms (atoms.length:Int) i) atoms.length (fun i=>(jS atoms (order.getD p.length 0) i).map (atV ts order atoms p)) (jK ts order atoms p,(atoms.length:Int))
  (fun k i h=>by
   have hl:=nY atoms (order.getD p.length 0) i
   have hm:=List.getElem_mem h
   obtain ⟨_,_,g3,_,_⟩:=mz q (rg h)
   show cN N (k+1) (bp ts order atoms) order p ((jS atoms (order.getD p.length 0) i).map (atV ts order atoms p)) atoms (atoms.length:Int) (i:Int)=cN N k (bp ts order atoms) order p ((jS atoms (order.getD p.length 0) (i+1)).map (atV ts order atoms p)) atoms (atoms.length:Int) ((i+1:Nat):Int)
   rw [cN,dlt h,cond_true,ub h,bs,ixD (show p.length<order.length by omega),bs,gZ hN (sY ha h),bs,ad1 (by omega),sI]
   cases decide (order.getD p.length 0∈(e7 atoms i).2) with
   | true =>
    rw [cond_true,cond_true,zA hN (sY ha h) (by omega) (by omega),bs,lpB]
    show ((ix (bp ts order atoms) (i:Int)).bind _)=_
    rw [sS h,bs,nR hN g3,bs,bB (by decide) (by rw [List.length_map,List.length_singleton];omega),bs,bs,List.map_append];rfl
   | false=>rw [cond_false,cond_false,bs])
  (fun k=>by
   show cN N (k+1) (bp ts order atoms) order p ((jS atoms (order.getD p.length 0) atoms.length).map (atV ts order atoms p)) atoms (atoms.length:Int) (atoms.length:Int)=_
   rw [cN,dge (by omega),cond_false];rfl) N 0 (by omega) (by omega)
 have h':cN N N (bp ts order atoms) order p [] atoms (atoms.length:Int) 0=_:=h
 unfold i7
 rw [h',bs,lpB]
theorem oo (hN:1073741824≤N) {n:Int} {atoms:List ba} {out:List Int} {v:Int} (ha:cG atoms) (ho:okI out) (hq:ef n atoms out=true) :
  eR N n atoms out v=some (cz (iT atoms v)):=by
 have h4:=(mU hq).2.2.2
 have h:=dz (fun k (o:List Int) i=>bH N k v n atoms out o i) atoms.length (fun i=>cz (jS atoms v i)) (cz (iT atoms v),(atoms.length:Int))
  (fun k i h=>by
   have hl:=nY atoms v i
   have hcl:=wr (jS atoms v i)
   show bH N (k+1) v n atoms out (cz (jS atoms v i)) (i:Int)=bH N k v n atoms out (cz (jS atoms v (i+1))) ((i+1:Nat):Int)
   rw [bH,dlt h,cond_true,jh hN ha ho,bs,hq,cond_true,aR h,bs,fq hN (kw ha h),bs,ad1 (by omega),sI,kK h]
   cases decide (v∈atoms[i].2) with
   | true =>
    rw [cond_true,cond_true,bB (by decide) (by simp;omega),bs,bs]
    unfold cz
    rw [List.map_append];rfl
   | false=>rw [cond_false,cond_false,bs])
  (fun k=>by
   show bH N (k+1) v n atoms out (cz (jS atoms v atoms.length)) (atoms.length:Int)=_
   rw [bH,dge (by omega),cond_false];rfl) N 0 (by omega) (by omega)
 have h':bH N N v n atoms out [] 0=_:=h
 unfold eR
 rw [h',bs,lpB]
theorem tZ (hN:1073741824≤N) {order p vs:List Int} {s:ByteArray} (hv:okI vs) (hp:p.length≤1000) (ho:p.length≤order.length):gJ N s vs order p=some (re vs order p):=by
 have h:=dz (fun k (o:List Int) i=>cM N k order p s vs o i) p.length (ks vs order p) (re vs order p,(p.length:Int))
  (fun k i h=>by
   have hl:=ug vs order p i
   show cM N (k+1) order p s vs (ks vs order p i) (i:Int)=cM N k order p s vs (ks vs order p (i+1)) ((i+1:Nat):Int)
   rw [cM,dlt h,cond_true,ixD (show i<order.length by omega),bs,fq hN hv,bs,ad1 (by omega),ixD h,sN]
   cases decide (order.getD i 0∈vs) with
   | true=>rw [cond_true,cond_true,bs,bB (by decide) (by simp;omega),bs,bs]
   | false=>rw [cond_false,cond_false,bs])
  (fun k=>by
   show cM N (k+1) order p s vs (ks vs order p p.length) (p.length:Int)=_
   rw [cM,dge (by omega),cond_false];rfl) N 0 (by omega) (by omega)
 have h':cM N N order p s vs [] 0=_:=h
 unfold gJ
 rw [h',bs,lpB]
theorem zE (hN:1073741824≤N) {ts:List bw} {n:Nat} {atoms:List ba} {order p:List Int} (q:QFor ts n atoms order) (ha:cG atoms) (hp:p.length<n) {i:Nat} (h:i<atoms.length) :
  gJ N (e7 atoms i).1 (e7 atoms i).2 order p=some (re (e7 atoms i).2 order p)∧fC N (k6 ts order (e7 atoms i)).1 (k6 ts order (e7 atoms i)).2 (re (e7 atoms i).2 order p)=some (atV ts order atoms p i):=by
 have hn5:=q.n5
 have hol:=q.ol
 obtain ⟨_,_,g3,_,_⟩:=mz q (rg h)
 refine ⟨tZ hN ?_ (by omega) (by omega),nK hN g3⟩
 rw [kK h];exact kw ha h
theorem ow {α β:Type} {xs:List α} {f:α→β} {i:Nat} (h:i<xs.length):(xs.take (i+1)).map f=(xs.take i).map f++[f xs[i]]:=by
 rw [List.take_succ_eq_append_getElem h,List.map_append];rfl
theorem vT (hN:1073741824≤N) {ts:List bw} {n:Nat} {atoms:List ba} {out order p:List Int} (q:QFor ts n atoms order) (ha:cG atoms) (ho:okI out) (hq:ef (n:Int) atoms out=true) (hp:p.length<n) :
  jZ N (bp ts order atoms) (n:Int) atoms out order p=some (jD (jK ts order atoms p)):=by
 have hol:=q.ol
 have h4:=q.a4
 have hil:=nY atoms (order.getD p.length 0) atoms.length
 have hcl:=wr (iT atoms (order.getD p.length 0))
 have hil':(iT atoms (order.getD p.length 0)).length≤atoms.length:=hil
 have h:=dz (fun k (o:aN) i=>dA N k (bp ts order atoms) order p (n:Int) atoms out (cz (iT atoms (order.getD p.length 0))) o i) (iT atoms (order.getD p.length 0)).length (fun i=>((iT atoms (order.getD p.length 0)).take i).map (atV ts order atoms p)) (jK ts order atoms p,((iT atoms (order.getD p.length 0)).length:Int))
  (fun k i h=>by
   have hc:=oq h
   rw [ym h] at hc
   have hi:=(tN.1 (List.getElem_mem h)).1
   obtain ⟨o1,o2⟩:=zE hN q ha hp hi
   show dA N (k+1) (bp ts order atoms) order p (n:Int) atoms out (cz (iT atoms (order.getD p.length 0))) (((iT atoms (order.getD p.length 0)).take i).map (atV ts order atoms p)) (i:Int)=dA N k (bp ts order atoms) order p (n:Int) atoms out (cz (iT atoms (order.getD p.length 0))) (((iT atoms (order.getD p.length 0)).take (i+1)).map (atV ts order atoms p)) ((i+1:Nat):Int)
   rw [dA,hcl,dlt h,cond_true,hc,bs,sS hi,bs,bs,ub hi,bs,o1,bs,o2,bs,bB (by decide) (by rw [List.length_map,List.length_take,List.length_singleton];omega),bs,ad1 (by omega),bs,ow h])
  (fun k=>by
   show dA N (k+1) (bp ts order atoms) order p (n:Int) atoms out (cz (iT atoms (order.getD p.length 0))) (((iT atoms (order.getD p.length 0)).take (iT atoms (order.getD p.length 0)).length).map (atV ts order atoms p)) ((iT atoms (order.getD p.length 0)).length:Int)=_
   rw [dA,hcl,dge (by omega),cond_false,List.take_length];rfl) N 0 (by omega) (by omega)
 have h':dA N N (bp ts order atoms) order p (n:Int) atoms out (cz (iT atoms (order.getD p.length 0))) [] 0=_:=h
 have hll:=nW ts order atoms p
 unfold jZ
 rw [ixD (show p.length<order.length by omega),bs,oo hN ha ho hq,bs,h',bs,lpB]
 show ((dR N (jK ts order atoms p)).bind _)=_
 rw [mc hN (by omega) (fun l hl=>by have:=(mS q l hl).1;omega),bs]
end
end Go.Proofs.YtmnbfjhefejmoaaGreat
namespace Go.Proofs.YtmnbfjhefejmoaaGreat
open Go.RowKit

def bf (ts:List bw) (order:List Int) (atoms:List ba):Nxt:=fun p=>jD (jK ts order atoms p)
theorem vK {xs:List Int} (h:i4 xs):xs.Nodup:=List.Pairwise.imp (fun {a b} (hab:a<b) (e:a=b)=>by omega) h
theorem w9 {ls:aN} {xs:List Int} (h:∀ l∈ls,l.length≤16∧i4 l∧∀ v∈l,0≤v∧v≤99) (ha:i4 xs) (hx:∀ x∈xs,∀ l∈ls,x∈l) (he:ls=[]→xs=[]):xs.length≤16∧∀ v∈xs,0≤v∧v≤99:=by
 cases ls with
 | nil=>rw [he rfl];simp
 | cons l ls =>
  obtain ⟨h1,_,h3⟩:=h l List.mem_cons_self
  refine ⟨Nat.le_trans (rT xs l (vK ha) fun x hx'=>hx x hx' l List.mem_cons_self) h1,fun v hv=>h3 v (hx v hv l List.mem_cons_self)⟩
theorem wG:(jD []).1=[]:=rfl
theorem lm {ts:List bw} {n:Nat} {atoms:List ba} {order:List Int} (q:QFor ts n atoms order):NxtOk (bf ts order atoms):=by
 have h4:=q.a4
 have key:=fun p=>vy (ls:=jK ts order atoms p) (B:=16) fun l hl=>(mS q l hl).1
 have com:=fun p=>w9 (fun l hl=>mS q (p:=p) l hl) (key p).1 (key p).2.1 fun e=>by rw [e];exact wG
 have hll:=fun p=>nW ts order atoms p
 refine ⟨fun p=>(com p).1,fun p=>(key p).1,fun p=>(com p).2,fun p=>(key p).2.2.1,fun p=>?_⟩
 have h1:=(key p).2.2.2.1
 have h2:=hll p
 show (jD (jK ts order atoms p)).2≤1000
 omega
end Go.Proofs.YtmnbfjhefejmoaaGreat
namespace Go.Proofs.YtmnbfjhefejmoaaGreat
open Go.RowKit

theorem qB {α β:Type} {xs:List α} {g:α→List β} {i:Nat} (h:i<xs.length):(xs.take (i+1)).flatMap g=(xs.take i).flatMap g++g xs[i]:=by
 rw [List.take_succ_eq_append_getElem h,List.flatMap_append];simp
theorem rt {α:Type} {xs:List α} {g:α→Int} {i:Nat} (h:i<xs.length):((xs.take (i+1)).map g).sum=((xs.take i).map g).sum+g xs[i]:=by
 rw [ow h,List.sum_append];simp
theorem tI {f:Nxt} {rows:aN} {i:Nat} (h:i<rows.length):iZ f (rows.take (i+1))=iZ f (rows.take i)+(f rows[i]).2:=rt h
theorem sW (f:Nxt):∀ (m:Nat) (L:aN) (c:Int),jy f (m+1) L c=((jy f m L c).1.flatMap (nb f),(jy f m L c).2+iZ f (jy f m L c).1)
 | 0,_,_=>rfl
 | m+1,L,c=>by
  rw [jy,sW f m];rfl
theorem ud:∀ {i:Nat},i≤5→k7 i≤1000000000
 | 0,_=>by decide
 | 1,_=>by decide
 | 2,_=>by decide
 | 3,_=>by decide
 | 4,_=>by decide
 | 5,_=>by decide
section
variable {N:Nat}
theorem uI {xs:List Int} (h:xs.length≤1048576):eb N xs=some xs:=by
 unfold eb
 rw [kz (by decide) (by omega),bs]
theorem tQ (hN:1073741824≤N) {t1:List mV} {order out p vs:List Int} {b1 b2 b3 b4 b5 b6:Int} {atoms:List ba} {next rows:aN} (hp:p.length≤1000) (hv:vs.length≤1000) (hn:next.length≤1073741824) :
  bb N N t1 order b1 b2 atoms out b3 b4 next p rows b5 b6 vs (vs.length:Int) 0=some (next++vs.map (fun v=>p++[v]),(vs.length:Int)):=by
 have h:=dz (fun k (o:aN) i=>bb N k t1 order b1 b2 atoms out b3 b4 o p rows b5 b6 vs (vs.length:Int) i) vs.length (fun i=>next++(vs.take i).map (fun v=>p++[v])) (next++vs.map (fun v=>p++[v]),(vs.length:Int))
  (fun k i h=>by
   show bb N (k+1) t1 order b1 b2 atoms out b3 b4 (next++(vs.take i).map (fun v=>p++[v])) p rows b5 b6 vs (vs.length:Int) (i:Int)=bb N k t1 order b1 b2 atoms out b3 b4 (next++(vs.take (i+1)).map (fun v=>p++[v])) p rows b5 b6 vs (vs.length:Int) ((i+1:Nat):Int)
   rw [bb,dlt h,cond_true,aR h,bs,uI (by omega),bs,bB (by decide) (by simp;omega),bs,bB (by decide) (by rw [List.length_append,List.length_map,List.length_take,List.length_singleton];omega),bs,ad1 (by omega),bs,ow h,List.append_assoc])
  (fun k=>by
   show bb N (k+1) t1 order b1 b2 atoms out b3 b4 (next++(vs.take vs.length).map (fun v=>p++[v])) p rows b5 b6 vs (vs.length:Int) (vs.length:Int)=_
   rw [bb,dge (by omega),cond_false,List.take_length]) N 0 (by omega) (by omega)
 rw [List.take_zero,List.map_nil,List.append_nil] at h
 exact h
theorem th (hN:1073741824≤N) {ts:List bw} {n:Nat} {m b1 b4 c:Int} {atoms:List ba} {out order:List Int} (q:QFor ts n atoms order) (ha:cG atoms) {rows:aN} {lv:Nat} (hlv:lv<n) (hrow:∀ r∈rows,r.length=lv) (hl:rows.length≤1048576) (hc:0≤c∧c≤1073741824) :
  bc N N (bp ts order atoms) order b1 m atoms out c b4 [] rows (rows.length:Int) 0=some (c+iZ (bf ts order atoms) rows,rows.flatMap (nb (bf ts order atoms)),(rows.length:Int)):=by
 have hf:=lm q
 have hn5:=q.n5
 have h4:=q.a4
 have h:=dz (fun k (s:Int × aN) i=>bc N k (bp ts order atoms) order b1 m atoms out s.1 b4 s.2 rows (rows.length:Int) i) rows.length (fun i=>(c+iZ (bf ts order atoms) (rows.take i),(rows.take i).flatMap (nb (bf ts order atoms)))) (c+iZ (bf ts order atoms) rows,rows.flatMap (nb (bf ts order atoms)),(rows.length:Int))
  (fun k i h=>by
   have hr:=hrow _ (List.getElem_mem h)
   have hll:=nW ts order atoms rows[i]
   have hk:=hf.len rows[i];have h0:=hf.st0 rows[i];have h1:=hf.st1 rows[i]
   have hsb:=rQ (g:=fun p=>((bf ts order atoms) p).2) hf.st0 hf.st1 (rows.take i)
   have hsb2:0≤iZ (bf ts order atoms) (rows.take i)∧iZ (bf ts order atoms) (rows.take i)≤(((rows.take i).length:Nat):Int)*1000:=hsb
   have hfl:=lD (xR hf) (rows.take i)
   rw [List.length_take] at hsb2 hfl
   show bc N (k+1) (bp ts order atoms) order b1 m atoms out (c+iZ (bf ts order atoms) (rows.take i)) b4 ((rows.take i).flatMap (nb (bf ts order atoms))) rows (rows.length:Int) (i:Int)=bc N k (bp ts order atoms) order b1 m atoms out (c+iZ (bf ts order atoms) (rows.take (i+1))) b4 ((rows.take (i+1)).flatMap (nb (bf ts order atoms))) rows (rows.length:Int) ((i+1:Nat):Int)
   rw [bc,dlt h,cond_true,aR h,bs,tC hN q ha (by omega),bs,md hN (by omega) (fun l hl=>by have:=(mS q l hl).1;omega),bs]
   show ((ad _ ((bf ts order atoms) rows[i]).2).bind fun x501=>(bb N N (bp ts order atoms) order b1 m atoms out x501 b4 _ rows[i] rows (rows.length:Int) (i:Int) ((bf ts order atoms) rows[i]).1 (((bf ts order atoms) rows[i]).1.length:Int) 0).bind _)=_
   rw [mo (by omega) (by omega),bs,tQ hN (by omega) (by omega) (by omega),bs,lpB,qB h,tI h,← Int.add_assoc,ad1 (by omega)];rfl)
  (fun k=>by
   show bc N (k+1) (bp ts order atoms) order b1 m atoms out (c+iZ (bf ts order atoms) (rows.take rows.length)) b4 ((rows.take rows.length).flatMap (nb (bf ts order atoms))) rows (rows.length:Int) (rows.length:Int)=_
   rw [bc,dge (by omega),cond_false,List.take_length]) N 0 (by omega) (by omega)
 have h':bc N N (bp ts order atoms) order b1 m atoms out (c+0) b4 [] rows (rows.length:Int) 0=_:=h
 rw [Int.add_zero] at h'
 exact h'
theorem tj (hN:1073741824≤N) {ts:List bw} {n:Nat} {m:Int} {atoms:List ba} {out order:List Int} (q:QFor ts n atoms order) (ha:cG atoms) {len:Nat} (hlen:len≤n) :
  cj N m atoms out (bp ts order atoms) order (len:Int)=some ((bV (bf ts order atoms) len []).1,(bV (bf ts order atoms) len []).2,decide (((bV (bf ts order atoms) len []).1.length:Int)≤4000)):=by
 have hf:=lm q
 have hn5:=q.n5
 have h:=dz (fun k (s:aN × Int) i=>bi N k (bp ts order atoms) order (len:Int) m atoms out s.1 s.2 i) len (fun i=>jy (bf ts order atoms) i [[]] 0) ((jy (bf ts order atoms) len [[]] 0).1,(jy (bf ts order atoms) len [[]] 0).2,(len:Int))
  (fun k i h=>by
   have hw:=ue (bf ts order atoms) i
   have hl:=lQ hf i []
   have hs:=ll hf i []
   have hp:16 ^ i≤16 ^ 5:=Nat.pow_le_pow_right (by decide) (by omega)
   have hb:=ud (show i≤5 by omega)
   show bi N (k+1) (bp ts order atoms) order (len:Int) m atoms out (jy (bf ts order atoms) i [[]] 0).1 (jy (bf ts order atoms) i [[]] 0).2 (i:Int)=bi N k (bp ts order atoms) order (len:Int) m atoms out (jy (bf ts order atoms) (i+1) [[]] 0).1 (jy (bf ts order atoms) (i+1) [[]] 0).2 ((i+1:Nat):Int)
   rw [sW,hw,bi,dlt h,cond_true,th hN q ha (show i<n by omega) (fun r hr=>by obtain ⟨s,e1,e⟩:=lU hr;rw [e1];exact e) (by omega) (by omega),bs,lpB,ad1 (by omega)];rfl)
  (fun k=>by
   show bi N (k+1) (bp ts order atoms) order (len:Int) m atoms out (jy (bf ts order atoms) len [[]] 0).1 (jy (bf ts order atoms) len [[]] 0).2 (len:Int)=_
   rw [bi,dge (by omega),cond_false]) N 0 (by omega) (by omega)
 have h':bi N N (bp ts order atoms) order (len:Int) m atoms out [[]] 0 0=_:=h
 unfold cj
 rw [h',ue,bs,lpB]
theorem vQ {ts:List bw} {n:Nat} {atoms:List ba} {out order:List Int} (q:QFor ts n atoms order) (ha:cG atoms) (ho:okI out) (hq:ef (n:Int) atoms out=true) :
  ∀ (m:Nat) (M:Nat) (p:List Int),p.length+m=n→1073741824+m+1≤M→c5 M (bp ts order atoms) (n:Int) atoms out order p=some (bV (bf ts order atoms) m p):=by
 have hf:=lm q
 have hn5:=q.n5
 have hol:=q.ol
 intro m
 induction m with
 | zero =>
  intro M p hp hM
  obtain ⟨M,rfl⟩:∃ K,M=K+1:=⟨M-1,by omega⟩
  rw [c5,show ((p.length:Int) == (order.length:Int))=true by simp;omega,cond_true,kz (by decide) (by omega),bs];rfl
 | succ m ih =>
  intro M p hp hM
  obtain ⟨M,rfl⟩:∃ K,M=K+1:=⟨M-1,by omega⟩
  have h0:=hf.st0 p;have h1:=hf.st1 p;have hk:=hf.len p
  rw [c5,show ((p.length:Int) == (order.length:Int))=false by simp;omega,cond_false,vT (by omega) q ha ho hq (by omega),bs]
  show ((dg (c5 M) M M (bp ts order atoms) order p (n:Int) atoms out [] ((bf ts order atoms) p).1 ((bf ts order atoms) p).2 0).bind _)=_
  have h:=dz (fun k (s:aN × Int) i=>dg (c5 M) M k (bp ts order atoms) order p (n:Int) atoms out s.1 ((bf ts order atoms) p).1 s.2 i) ((bf ts order atoms) p).1.length (fun i=>((((bf ts order atoms) p).1.take i).flatMap (fun v=>(bV (bf ts order atoms) m (p++[v])).1),((bf ts order atoms) p).2+((((bf ts order atoms) p).1.take i).map fun v=>(bV (bf ts order atoms) m (p++[v])).2).sum)) ((bV (bf ts order atoms) (m+1) p).1,(bV (bf ts order atoms) (m+1) p).2,(((bf ts order atoms) p).1.length:Int))
   (fun k i h=>by
    have hp16:16 ^ m≤16 ^ 5:=Nat.pow_le_pow_right (by decide) (by omega)
    have hw:=lQ hf m (p++[((bf ts order atoms) p).1[i]])
    have hfl:=lD (g:=fun v=>(bV (bf ts order atoms) m (p++[v])).1) (fun v=>lQ hf m _) (((bf ts order atoms) p).1.take i)
    have hst:=ll hf m (p++[((bf ts order atoms) p).1[i]])
    have hsb:=rQ (g:=fun v=>(bV (bf ts order atoms) m (p++[v])).2) (fun v=>(ll hf m _).1) (fun v=>(ll hf m _).2) (((bf ts order atoms) p).1.take i)
    have hb:=ud (show m≤5 by omega)
    have hb0:=sA m
    rw [List.length_take] at hfl hsb
    have hmul:=Nat.mul_le_mul (show min i ((bf ts order atoms) p).1.length≤16 by omega) hp16
    have hmul2:((min i ((bf ts order atoms) p).1.length:Nat):Int)*k7 m≤16*k7 m:=Int.mul_le_mul_of_nonneg_right (by omega) hb0
    show dg (c5 M) M (k+1) (bp ts order atoms) order p (n:Int) atoms out ((((bf ts order atoms) p).1.take i).flatMap (fun v=>(bV (bf ts order atoms) m (p++[v])).1)) ((bf ts order atoms) p).1 (((bf ts order atoms) p).2+((((bf ts order atoms) p).1.take i).map fun v=>(bV (bf ts order atoms) m (p++[v])).2).sum) (i:Int)=dg (c5 M) M k (bp ts order atoms) order p (n:Int) atoms out ((((bf ts order atoms) p).1.take (i+1)).flatMap (fun v=>(bV (bf ts order atoms) m (p++[v])).1)) ((bf ts order atoms) p).1 (((bf ts order atoms) p).2+((((bf ts order atoms) p).1.take (i+1)).map fun v=>(bV (bf ts order atoms) m (p++[v])).2).sum) ((i+1:Nat):Int)
    rw [dg,dlt h,cond_true,aR h,bs,kz (by decide) (by omega),bs,bB (by decide) (by simp;omega),bs,ih M (p++[((bf ts order atoms) p).1[i]]) (by rw [List.length_append,List.length_singleton];omega) (by omega),bs,bB (by decide) (by omega),bs,mo (by omega) (by omega),bs,ad1 (by omega),bs,qB h,rt h,Int.add_assoc])
   (fun k=>by
    show dg (c5 M) M (k+1) (bp ts order atoms) order p (n:Int) atoms out ((((bf ts order atoms) p).1.take ((bf ts order atoms) p).1.length).flatMap (fun v=>(bV (bf ts order atoms) m (p++[v])).1)) ((bf ts order atoms) p).1 (((bf ts order atoms) p).2+((((bf ts order atoms) p).1.take ((bf ts order atoms) p).1.length).map fun v=>(bV (bf ts order atoms) m (p++[v])).2).sum) (((bf ts order atoms) p).1.length:Int)=_
    rw [dg,dge (by omega),cond_false,List.take_length];rfl) M 0 (by omega) (by omega)
  have h':dg (c5 M) M M (bp ts order atoms) order p (n:Int) atoms out [] ((bf ts order atoms) p).1 (((bf ts order atoms) p).2+0) 0=_:=h
  rw [Int.add_zero] at h'
  rw [h',bs,lpB]
end
end Go.Proofs.YtmnbfjhefejmoaaGreat
namespace Go.Proofs.YtmnbfjhefejmoaaGreat
open Go.RowKit

def jN (ts:List mV):Bool:=ts.any fun t=>decide (t.2.length=0)
def okQ (ts:List bw) (n:Int) (atoms:List ba) (out order:List Int):Bool:=gm ts n atoms out&&ju n atoms out order
abbrev s8:=(Int × aN) × Int × Bool
def mH:s8:=((0,[]),0,false)
def jJ (k:Int) (w:aN × Int):s8:=bif decide ((w.1.length:Int)≤4000) then ((k,w.1),w.2,true) else mH
def dx (ts:List bw) (n:Int) (atoms:List ba) (out order:List Int):s8 :=
 bif okQ ts n atoms out order then (bif jN (bp ts order atoms) then ((n,[]),0,true) else jJ n (bV (bf ts order atoms) n.toNat [])) else mH
theorem oM {f:Nxt} (hf:NxtOk f) {k:Nat} (hk:k≤5):dV (bV f k []).1∧(∀ r∈(bV f k []).1,r.length=k∧bI r=true)∧gS (bV f k []).1:=by
 have h1:=lQ hf k []
 have hp:16 ^ k≤16 ^ 5:=Nat.pow_le_pow_right (by decide) (by omega)
 have h2:∀ r∈(bV f k []).1,r.length=k∧bI r=true:=fun r hr=>by
  obtain ⟨s,e1,e⟩:=lU hr
  exact ⟨by rw [e1];exact e,rX hf rfl hr⟩
 exact ⟨⟨by omega,fun r hr=>⟨by have:=(h2 r hr).1;omega,fun _ _=>trivial⟩⟩,h2,sT hf k []⟩
theorem xp {f:Nxt} (hf:NxtOk f) {k:Nat} (hk:k≤5):iV (k:Int) (bV f k []).1=((jJ k (bV f k [])).1,(jJ k (bV f k [])).2.2):=by
 obtain ⟨h1,h2,h3⟩:=oM hf hk
 rw [uA (by omega) h1.1 (fun r hr=>by have:=h2 r hr;exact ⟨by omega,this.2⟩) h3]
 unfold jJ
 cases decide (((bV f k []).1.length:Int)≤4000) <;> rfl
theorem vB {ts:List bw} {n:Int} {atoms:List ba} {out order:List Int} (h:okQ ts n atoms out order=true):∃ m:Nat,n=(m:Int)∧QFor ts m atoms order∧ef n atoms out=true:=by
 unfold okQ at h
 rw [Bool.and_eq_true] at h
 obtain ⟨m,e,q⟩:=tk h.1 h.2
 refine ⟨m,e,q,?_⟩
 have:=h.1
 unfold gm at this
 rw [Bool.and_eq_true] at this
 exact this.1
theorem nj {α:Type} (p:α→Bool):∀ xs:List α,(xs.all fun x=>!p x)=!xs.any p
 | []=>rfl
 | x :: xs=>by rw [List.all_cons,List.any_cons,nj p xs,Bool.not_or]
section
variable {N:Nat}
theorem tM (hN:1073741824≤N) {ts:List mV} (hl:ts.length≤1048576):gN N ts=some (jN ts):=by
 have h:=gi (L:=fun k i=>dm N k ts (ts.length:Int) i) ts.length (by omega) true (fun i=>if h:i<ts.length then !decide (ts[i].2.length=0) else true) (ts.length:Int)
  (fun k i h=>by
   show dm N (k+1) ts (ts.length:Int) (i:Int)=_
   rw [dm,dlt h,cond_true,aR h,bs,show ((ts[i].2.length:Int) == 0)=decide (ts[i].2.length=0) from ms _ 0,ad1 (by omega),bs]
   simp only [dif_pos h]
   cases decide (ts[i].2.length=0) <;> rfl)
  (fun k=>by
   show dm N (k+1) ts (ts.length:Int) (ts.length:Int)=_
   rw [dm,dge (by omega),cond_false]) N 0 (by omega) (by omega)
 rw [Nat.sub_zero,gc ts (fun t=>!decide (t.2.length=0)) _ (fun i hi=>by rw [dif_pos hi]),nj] at h
 have h':dm N N ts (ts.length:Int) 0=some (bif !jN ts then .inr (ts.length:Int) else .inl true):=h
 unfold gN
 rw [h',bs]
 cases jN ts <;> rfl
theorem ur (hN:1073741824≤N) {ts:List mV} (hl:ts.length≤1048576):hQ N ts=some (jN ts):=by
 have h:=gi (L:=fun k i=>dH N k ts i) ts.length (by omega) true (fun i=>if h:i<ts.length then !decide (ts[i].2.length=0) else true) (ts.length:Int)
  (fun k i h=>by
   show dH N (k+1) ts (i:Int)=_
   rw [dH,dlt h,cond_true,aR h,bs,show ((ts[i].2.length:Int) == 0)=decide (ts[i].2.length=0) from ms _ 0,ad1 (by omega),bs]
   simp only [dif_pos h]
   cases decide (ts[i].2.length=0) <;> rfl)
  (fun k=>by
   show dH N (k+1) ts (ts.length:Int)=_
   rw [dH,dge (by omega),cond_false]) N 0 (by omega) (by omega)
 rw [Nat.sub_zero,gc ts (fun t=>!decide (t.2.length=0)) _ (fun i hi=>by rw [dif_pos hi]),nj] at h
 have h':dH N N ts 0=some (bif !jN ts then .inr (ts.length:Int) else .inl true):=h
 unfold hQ
 rw [h',bs]
 cases jN ts <;> rfl
theorem tq (ts:List bw) (n:Int) (atoms:List ba) (out order:List Int):tE ts n atoms out order=bif okQ ts n atoms out order then (bp ts order atoms,true) else ([],false):=rfl
theorem nV (hM:1073742848≤N) {ts:List bw} {n:Int} {atoms:List ba} {out order:List Int} (ht:jx ts) (ha:cG atoms) (ho:okI out) (hr:okI order):gw N ts n atoms out order=some (dx ts n atoms out order):=by
 unfold gw dx
 rw [o6 hM ht ha ho hr,bs,tq]
 cases h:okQ ts n atoms out order with
 | false=>rfl
 | true =>
  obtain ⟨m,rfl,q,_⟩:=vB h
  have h4:=q.a4
  rw [cond_true,cond_true]
  show ((gN N (bp ts order atoms)).bind _)=_
  rw [tM (by omega) (by rw [k9];omega),bs]
  cases jN (bp ts order atoms) with
  | true=>rfl
  | false =>
   rw [cond_false,cond_false]
   show ((cj N (m:Int) atoms out (bp ts order atoms) order (m:Int)).bind _)=_
   rw [tj (by omega) q ha (Nat.le_refl _),bs]
   unfold jJ
   rw [show ((m:Nat):Int).toNat=m from rfl]
   show (bif decide (((bV (bf ts order atoms) m []).1.length:Int)≤4000) then _ else _)=_
   cases decide (((bV (bf ts order atoms) m []).1.length:Int)≤4000) <;> rfl
theorem n4 (hM:1073742848≤N) {ts:List bw} {n:Int} {atoms:List ba} {out order:List Int} (ht:jx ts) (ha:cG atoms) (ho:okI out) (hr:okI order):gq N ts n atoms out order=some (dx ts n atoms out order):=by
 unfold gq dx
 rw [pv hM ht ha ho hr,bs,tq]
 cases h:okQ ts n atoms out order with
 | false=>rfl
 | true =>
  obtain ⟨m,rfl,q,hq⟩:=vB h
  have h4:=q.a4
  have h5:=q.n5
  have hol:=q.ol
  rw [cond_true,cond_true]
  show ((hQ N (bp ts order atoms)).bind _)=_
  rw [ur (by omega) (by rw [k9];omega),bs,hol]
  cases jN (bp ts order atoms) with
  | true=>rfl
  | false =>
   obtain ⟨w1,_,_⟩:=oM (lm q) h5
   rw [cond_false,cond_false]
   show ((c5 N (bp ts order atoms) (m:Int) atoms out order []).bind _)=_
   rw [vQ q ha ho hq m N [] (by simp) (by omega),bs,jB hM w1,bs,xp (lm q) h5]
   unfold jJ
   rw [show ((m:Nat):Int).toNat=m from rfl]
   cases decide (((bV (bf ts order atoms) m []).1.length:Int)≤4000) <;> rfl
end
end Go.Proofs.YtmnbfjhefejmoaaGreat
namespace Go.Proofs.YtmnbfjhefejmoaaGreat
open Go.RowKit

theorem uB {f:Nxt} (hf:NxtOk f) {k:Nat} (hk:k≤5):(∀ r∈(jJ k (bV f k [])).1.2,r.length=k)∧gS (jJ k (bV f k [])).1.2∧(jJ k (bV f k [])).1.2.length≤4000:=by
 obtain ⟨_,h2,h3⟩:=oM hf hk
 unfold jJ
 cases h:decide (((bV f k []).1.length:Int)≤4000) with
 | false=>exact ⟨by simp [mH],List.Pairwise.nil,by simp [mH]⟩
 | true =>
  rw [decide_eq_true_eq] at h
  exact ⟨fun r hr=>(h2 r hr).1,h3,by rw [cond_true];show (bV f k []).1.length≤4000;omega⟩
theorem tf {ts:List bw} {n:Int} {atoms:List ba} {out order:List Int}:∃ k:Nat,1≤k∧k≤5∧((dx ts n atoms out order).2.2=true→n=(k:Int))∧(∀ r∈(dx ts n atoms out order).1.2,r.length=k)∧gS (dx ts n atoms out order).1.2∧(dx ts n atoms out order).1.2.length≤4000:=by
 unfold dx
 cases h:okQ ts n atoms out order with
 | false=>exact ⟨1,by omega,by omega,by simp [mH],by simp [mH],List.Pairwise.nil,by simp [mH]⟩
 | true =>
  obtain ⟨m,rfl,q,_⟩:=vB h
  cases jN (bp ts order atoms)
  ·obtain ⟨h1,h2,h3⟩:=uB (lm q) q.n5
   exact ⟨m,q.n1,q.n5,fun _=>rfl,h1,h2,h3⟩
  ·exact ⟨m,q.n1,q.n5,fun _=>rfl,by simp,List.Pairwise.nil,by simp⟩
def lF (j:s8) (order:List Int):(List Int × List cc) × Bool:=bif j.2.2 then ((order,nO j.1.1.toNat j.1.2),true) else (([],[]),false)
end Go.Proofs.YtmnbfjhefejmoaaGreat
namespace Go.Proofs.YtmnbfjhefejmoaaGreat
open Go.RowKit

section
variable {N:Nat}
theorem nk {ts:List bw} {n:Int} {atoms:List ba} {out order:List Int} (h:(dx ts n atoms out order).2.2=true):∃ k:Nat,k≤5∧(dx ts n atoms out order).1.1=(k:Int)∧jW k (dx ts n atoms out order).1.2:=by
 obtain ⟨k,k1,k5,hk,hr,_,hl⟩:=tf (ts:=ts) (n:=n) (atoms:=atoms) (out:=out) (order:=order)
 refine ⟨k,k5,?_,hl,fun i hi=>by rw [dl hi];exact hr _ (List.getElem_mem hi)⟩
 have e:=hk h
 unfold dx at h ⊢
 cases h2:okQ ts n atoms out order with
 | false=>rw [h2] at h;cases h
 | true =>
  rw [h2,cond_true] at h
  rw [cond_true]
  cases h3:jN (bp ts order atoms) with
  | true=>exact e
  | false =>
   rw [h3,cond_false] at h
   rw [cond_false]
   unfold jJ at h ⊢
   cases h4:decide (((bV (bf ts order atoms) n.toNat []).1.length:Int)≤4000) with
   | true=>exact e
   | false=>rw [h4] at h;cases h
theorem xB {ts:List bw} {n:Int} {atoms:List ba} {out order:List Int} (hr:okI order):okI (lF (dx ts n atoms out order) order).1.1∧okN (lF (dx ts n atoms out order) order).1.2:=by
 unfold lF
 cases h:(dx ts n atoms out order).2.2 with
 | false=>exact ⟨⟨Nat.zero_le _,fun _ _=>trivial⟩,⟨Nat.zero_le _,fun x hx=>by simp at hx⟩⟩
 | true =>
  obtain ⟨k,k5,e,ha⟩:=nk h
  rw [cond_true,e]
  exact ⟨hr,xi k5 ha⟩
theorem pR (hM:1073742848≤N) {ts:List bw} {n:Int} {atoms:List ba} {out order:List Int} (ht:jx ts) (ha:cG atoms) (ho:okI out) (hr:okI order):gK N ts n atoms out order=some (lF (dx ts n atoms out order) order):=by
 unfold gK lF
 rw [nV hM ht ha ho hr,bs]
 cases h:(dx ts n atoms out order).2.2 with
 | false=>rfl
 | true =>
  obtain ⟨k,k5,e,hall⟩:=nk h
  rw [cond_true,cond_true,s5 hM k5 hall hr.1,bs,e];rfl
theorem pP (hM:1073742848≤N) {ts:List bw} {n:Int} {atoms:List ba} {out order:List Int} (ht:jx ts) (ha:cG atoms) (ho:okI out) (hr:okI order):iW N ts n atoms out order=some (lF (dx ts n atoms out order) order):=by
 unfold iW lF
 rw [n4 hM ht ha ho hr,bs]
 cases h:(dx ts n atoms out order).2.2 with
 | false=>rfl
 | true =>
  obtain ⟨k,k5,e,hall⟩:=nk h
  rw [cond_true,cond_true,xo hM k5 hall hr.1,bs,e];rfl
end
end Go.Proofs.YtmnbfjhefejmoaaGreat
namespace Go.Proofs.YtmnbfjhefejmoaaGreat
open Go.RowKit
theorem n7 {N:Nat} (hM:1073742848≤N) {x0:List (ByteArray × (Int × List (List Int)))} (hb0:(fun x=>(aM (fun x=>(fun s=>s.size≤9223372036854775807) x.1∧(fun x=>(aM (aM (fun _=>True) 9223372036854775807) 9223372036854775807) x.2) x.2) 9223372036854775807) x) x0) {x1:Int × List (ByteArray × List Int) × List Int} (hb1:(fun x=>(aM (fun x=>(fun s=>s.size≤9223372036854775807) x.1∧(aM (fun _=>True) 9223372036854775807) x.2) 9223372036854775807) x.2.1∧(aM (fun _=>True) 9223372036854775807) x.2.2) x1) {x2:List Int} (hb2:(aM (fun _=>True) 9223372036854775807) x2):gj N x0 x1.1 x1.2.1 x1.2.2 x2=some true:=by
 have hN:1073741824≤N:=by omega
 unfold gj
 by_cases hc2:(1048576:Int)<(x2.length:Int)
 ·rw [decide_eq_true hc2];rfl
 rw [decide_eq_false hc2,cond_false]
 have o2:aM (fun _=>True) 1048576 x2:=⟨by omega,fun _ _=>trivial⟩
 obtain ⟨r0,e0,k0⟩:=uL hN hb0 (l:=1048576) (by omega) (by omega)
 rw [e0,bs]
 by_cases hr0:r0<0
 ·rw [decide_eq_true hr0];rfl
 rw [decide_eq_false hr0,cond_false]
 obtain ⟨o0,m0⟩:=k0 (by omega)
 obtain ⟨r1,e1,k1⟩:=ye hN hb1 (l:=r0) (by omega) (by omega)
 rw [e1,bs]
 by_cases hr1:r1<0
 ·rw [decide_eq_true hr1];rfl
 rw [decide_eq_false hr1,cond_false]
 obtain ⟨o1,m1⟩:=k1 (by omega)
 have hspec:=pP (n:=x1.1) hM o0 o1.1 o1.2 o2
 have himpl:=pR (n:=x1.1) hM o0 o1.1 o1.2 o2
 obtain ⟨m0,me0,ma0,mb0⟩:=uu hN o0 (k:=1) (by omega) (by omega)
 obtain ⟨m1,me1,ma1,mb1⟩:=xN hN o1 (k:=m0.1) (by omega) (by omega)
 obtain ⟨m2,me2,ma2,mb2,_⟩:=lA hN o2 (k:=m1.1) (by omega) (by omega)
 have hok0:=xB (ts:=x0) (n:=x1.1) (atoms:=x1.2.1) (out:=x1.2.2) (order:=x2) o2
 obtain ⟨q0,qe0,qa0,qb0,qd0⟩:=qR (x:=(lF (dx x0 x1.1 x1.2.1 x1.2.2 x2) x2).1) hN hok0 (k:=1) (by omega) (by omega)
 simp only [uG hN o0,uH hN o0 o0,xJ hN o1,xm hN o1 o1,pE hN o2,lr hN o2 o2,rh (x:=(lF (dx x0 x1.1 x1.2.1 x1.2.2 x2) x2).1) (y:=(lF (dx x0 x1.1 x1.2.1 x1.2.2 x2) x2).1) hN hok0 hok0,me0,me1,me2,qe0,qd0,decide_eq_false (by omega:¬ m0.1<0),decide_eq_false (by omega:¬ m1.1<0),decide_eq_false (by omega:¬ m2.1<0),decide_eq_false (by omega:¬ q0.1<0),bs,hspec,himpl,bne_self_eq_false,cond_false,cond_true,decide_true,jc]
end Go.Proofs.YtmnbfjhefejmoaaGreat
namespace Go.Proofs.YtmnbfjhefejmoaaGreat
open Go.RowKit
section
variable {P:Program} {n:Nat} {Q Q':Exit→Env→World→Prop} {K:Env→World→Prop} {KQ:Env→Prop} {e:Env} {w w0:World} {c y:Code} {x:Exit} {ops:Array Oper} {rest:List Oper}
variable {d:Nat} {op:Op} {ty:TypeId} {pos:String} {af:Array Edge} {o z1 z2 z3:Operand} {v:Value} {q1:Oper}
theorem dt {p:Prop} [Decidable p] (h:decide p=true):p:=of_decide_eq_true h
theorem sg (h:∀ Q':Exit→Env→World→Prop,(∀ x e w,thn (fun e w=>CW P n y Q e w) Q x e w→Q' x e w)→CW P n c Q' e w):CW P n (.seq c y) Q e w:=wl (rD h)
theorem sR {id:Nat} {l:List Oper} (h:∀ Q':Exit→Env→World→Prop,(∀ x e w,thn (fun e w=>CW P n y Q e w) Q x e w→Q' x e w)→EL P n l.toArray (fun e w=>Q' .normal e w) l e w):CW P n (.seq (.region id l.toArray false) y) Q e w:=wl (rD fun Q' q=>ah (h Q' q))
theorem gn (h:∀ Q':Exit→Env→World→Prop,(∀ x e w,Q x e w→Q' x e w)→CW P n c Q' e w):CW P n c Q e w:=rD h
theorem bg {i:Nat} (h:∀ Q':Exit→Env→World→Prop,(∀ x e w,inb i Q x e w→Q' x e w)→CW P n c Q' e w):CW P n (.block i c) Q e w:=xn (rD h)
theorem hq {f:Exit→Env→World→Prop} (h:∀ x e w,f x e w→Q' x e w) (k:f x e w):Q' x e w:=h _ _ _ k
theorem tn (h:∀ x e w,thn K Q x e w→Q' x e w) (k:K e w):Q' .normal e w:=h _ _ _ k
theorem tr (h:∀ x e w,thn K Q x e w→Q' x e w) (k:Q .ret e w):Q' .ret e w:=h _ _ _ k
theorem tx {i:Nat} (h:∀ x e w,thn K Q x e w→Q' x e w) (k:Q (.exit i) e w):Q' (.exit i) e w:=h _ _ _ k
theorem bn {i:Nat} (h:∀ x e w,inb i Q x e w→Q' x e w) (k:Q .normal e w):Q' .normal e w:=h _ _ _ k
theorem br {i:Nat} (h:∀ x e w,inb i Q x e w→Q' x e w) (k:Q .ret e w):Q' .ret e w:=h _ _ _ k
theorem bS {i:Nat} (h:∀ x e w,inb i Q x e w→Q' x e w) (k:Q .normal e w):Q' (.exit i) e w:=h _ _ _ (Bf k)
theorem en (h:∀ x e w,thn K Q x e w→Q' x e w) (k:K e w):EL P n ops (fun e w=>Q' .normal e w) [] e w:=ag (h _ _ _ k)
theorem sn (h:∀ x e w,thn K Q x e w→Q' x e w) (k:K e w):CW P n .skip Q' e w:=aV (h _ _ _ k)
theorem pa (v:Value) (hK:EL P n ops K rest (upd e d v) w) (hx:ev e o=v:=by exact rfl) (hd:d<n:=by decide):EL P n ops K (⟨some d,.assign o,ty,pos,af,none⟩ :: rest) e w:=lI (ez hx) hd hK
theorem pm (v:Value) (hK:EL P n ops K rest (upd e d v) w) (hx:ev e o=v:=by exact rfl) (hd:d<n:=by decide):EL P n ops K (⟨some d,.move o,ty,pos,af,none⟩ :: rest) e w:=lI (aL hx) hd hK
theorem pM (v:Value) (hx:ev e o=v) (hK:EL P n ops K rest (upd e d v) w) (hd:d<n:=by decide):EL P n ops K (⟨some d,.move o,ty,pos,af,none⟩ :: rest) e w:=lI (aL hx) hd hK
theorem pe (v:Value) (hp:PV P ⟨some d,op,ty,pos,af,none⟩ e w v) (hK:EL P n ops K rest (upd e d v) w) (hd:d<n:=by decide):EL P n ops K (⟨some d,op,ty,pos,af,none⟩ :: rest) e w:=lI hp hd hK
theorem qe (v:Value) (hp:PV P ⟨some d,op,ty,pos,af,none⟩ e w v) (hK:QL P n ops w KQ rest (upd e d v)) (hd:d<n:=by decide):QL P n ops w KQ (⟨some d,op,ty,pos,af,none⟩ :: rest) e:=pG hp hd hK
theorem qm (v:Value) (hK:QL P n ops w KQ rest (upd e d v)) (hx:ev e o=v:=by exact rfl) (hd:d<n:=by decide):QL P n ops w KQ (⟨some d,.move o,ty,pos,af,none⟩ :: rest) e:=pG (aL hx) hd hK
theorem qM (v:Value) (hx:ev e o=v) (hK:QL P n ops w KQ rest (upd e d v)) (hd:d<n:=by decide):QL P n ops w KQ (⟨some d,.move o,ty,pos,af,none⟩ :: rest) e:=pG (aL hx) hd hK
theorem eo {j:Nat} {b b' c:Bool} (hc:c=b) (hK:EL P n ops K rest (upd e d undef) w) (h:yld ops e j=some c:=by exact rfl) (hb:(b == b')=false:=by exact rfl) (hd:d<n:=by decide):EL P n ops K (⟨some d,op,ty,pos,af,some (j,b')⟩ :: rest) e w:=zU h hc hb hd hK
theorem qo {j:Nat} {b b' c:Bool} (hc:c=b) (hK:QL P n ops w KQ rest (upd e d undef)) (h:yld ops e j=some c:=by exact rfl) (hb:(b == b')=false:=by exact rfl) (hd:d<n:=by decide):QL P n ops w KQ (⟨some d,op,ty,pos,af,some (j,b')⟩ :: rest) e:=Ak h hc hb hd hK
theorem ei {j:Nat} {b c:Bool} {dst:Option Nat} (hc:c=b) (hK:EL P n ops K (⟨dst,op,ty,pos,af,none⟩ :: rest) e w) (h:yld ops e j=some c:=by exact rfl):EL P n ops K (⟨dst,op,ty,pos,af,some (j,b)⟩ :: rest) e w:=A4 h hc hK
theorem qi {j:Nat} {b c:Bool} {dst:Option Nat} (hc:c=b) (hK:QL P n ops w KQ (⟨dst,op,ty,pos,af,none⟩ :: rest) e) (h:yld ops e j=some c:=by exact rfl):QL P n ops w KQ (⟨dst,op,ty,pos,af,some (j,b)⟩ :: rest) e:=Bb h hc hK
theorem ct {b:Bool} (hb:b=true) (h:CW P n c Q e w) (hc:ev e o=.bool b:=by exact rfl):CW P n (.cond o c y) Q e w:=wD hc hb h
theorem cf {b:Bool} (hb:b=false) (h:CW P n y Q e w) (hc:ev e o=.bool b:=by exact rfl):CW P n (.cond o c y) Q e w:=wB hc hb h
theorem rB {a b:Bool} {Γ:List Asn} (h:some a=some b) (hS:Sat w0 w Γ):Ending.returned (.bool a)=.returned (.bool b)∧Ext w0 w:=⟨by rw [Option.some.inj h],hS.below⟩
theorem rI {a b:Int} {Γ:List Asn} (h:some a=some b) (hS:Sat w0 w Γ):Ending.returned (.int .i64 a)=.returned (.int .i64 b)∧Ext w0 w:=⟨by rw [Option.some.inj h],hS.below⟩
abbrev i_ (x:Int):Value:=.int .i64 x
abbrev n_:Value:=.slice none 0 0
theorem ec0 {f:FuncId} {args:Array Operand} {tys:Array TypeId} {vals:Array Value} {Γ:List Asn} (hg:Goes P f) (hc:Calls P f vals w fun x w'=>x=.returned v∧Ext w w') (hv:(args.toList.map (ev e)).toArray=vals) (S:Sat w0 w Γ)
  (hK:∀ w',Ext w w'→Sat w0 w' Γ→EL P n ops K rest (upd e d v) w') (hd:d<n:=by decide):EL P n ops K (⟨some d,.call ⟨.value (.func f),args,tys⟩,ty,pos,af,none⟩ :: rest) e w :=
 be hg hc hv hd (by rintro _ w' ⟨rfl,hx⟩;exact ⟨_,rfl,hK w' hx (S.ext hx)⟩)
theorem ec1 {f:FuncId} {args:Array Operand} {tys:Array TypeId} {vals:Array Value} {Γ:List Asn} {G:Value→Value} {A:Value→Asn} (hg:Goes P f) (hc:Calls P f vals w fun x w'=>∃ v,x=.returned (G v)∧Sat w w' [A v]) (hv:(args.toList.map (ev e)).toArray=vals) (S:Sat w0 w Γ)
  (hK:∀ w' v,Ext w w'→Sat w0 w' (A v :: Γ)→EL P n ops K rest (upd e d (G v)) w') (hd:d<n:=by decide):EL P n ops K (⟨some d,.call ⟨.value (.func f),args,tys⟩,ty,pos,af,none⟩ :: rest) e w :=
 be hg hc hv hd (by rintro _ w' ⟨v,rfl,S'⟩;exact ⟨_,rfl,hK w' v S'.below (S.call1 S')⟩)
theorem aO {X:List Nat} {C:World→Prop} (i:Nat) {f:Nat} {L:Array Bool} (ho:ops[i]? = some q1)
  (h:EL P n ops (fun e' w'=>(X.contains i=true→C w')∧AL P n ops X C K f (L.setIfInBounds i true) e' w') [q1] e w) (hr:Region.ready .any ops L=[i]:=by kernel_rfl):AL P n ops X C K (f+1) L e w:=AV i hr ho h
theorem aP {X:List Nat} {C:World→Prop} (v:Value) (i:Nat) {f:Nat} {L:Array Bool} (hi:ops[i]? = some q1) (hdst:q1.dst=some d) (hC:C w)
  (hy:SV P n ops C q1 e v) (hK:AL P n ops X C K f (L.setIfInBounds i true) (upd e d v) w) (hsel:mZ ops=true:=by kernel_rfl) (hdn:d<n:=by decide) (hf:ne ops X L i q1=true:=by kernel_rfl) (hr:(Region.ready .any ops L).contains i=true:=by kernel_rfl):AL P n ops X C K (f+1) L e w:=vR hsel i hi hdst hdn hC hf hr hy hK
theorem ca {α β:Type} {f:α→β} {l:List α} {m:List β} (h:l.map f=m):(l.map f).toArray=m.toArray:=congrArg List.toArray h
end
end Go.Proofs.YtmnbfjhefejmoaaGreat
namespace Go.Proofs.YtmnbfjhefejmoaaGreat
open Go.RowKit
abbrev R0_:=ak a7 3
abbrev R1_:=nT R0_ 26
abbrev R2_:=ak R0_ 26
abbrev R3_:=cu el R0_
abbrev R4_:=cu R0_ R0_
abbrev R5_:=cu a7 R2_
abbrev R6_:=ak R3_ 85
abbrev R7_:=ak R3_ 97
abbrev R8_:=ak R4_ 107
abbrev R9_:=cu el R5_
abbrev bj:=ak R5_ 117
abbrev uh:=ak R9_ 82
abbrev a6:=ak R9_ 95
abbrev T0_:=List Int
abbrev T1_:=List T0_
abbrev T2_:=List Int × List Int
abbrev T3_:=ByteArray × List Int
abbrev T4_:=Int × List T0_
abbrev T5_:=List T2_
abbrev T6_:=List T3_
abbrev T7_:=List T4_
abbrev T8_:=ByteArray × T4_
abbrev T9_:=List Int × List T2_
abbrev l5:=List T8_
end Go.Proofs.YtmnbfjhefejmoaaGreat
namespace Go.Proofs.YtmnbfjhefejmoaaGreat
open Go.RowKit
set_option maxRecDepth 100000
set_option maxHeartbeats 4000000
theorem lw {w0:World} {u0:Value} {a0:List Int} {a1:Int} (ha0:R0_.rd w0 [u0] a0) {N:Nat} {r:Int} (F:ga N a0 a1=some r): Calls Tryz.prog 32 #[u0,i_ a1] w0 fun e w'=>e=.returned (i_ r)∧Ext w0 w' := by
 unfold ga at F;refine aD Tryz.func32 rfl rfl (dt rfl) ?_;have S:=Sat.start w0;refine sR fun _ Z=>?_;refine pa (i_ 0) (en Z ?_);refine sR fun _ Bm=>?_;refine pm (i_ a1) (pm u0 (pe (i_ (a0.length:Int)) (aq rfl ha0) ?_));obtain ⟨D,Y,F⟩:=ob F;refine pe (i_ D) (cb rfl rfl Y) (pa (i_ D) (en Bm ?_));refine sg fun _ U=>?_;refine sR fun _ Bn=>?_;refine pm (i_ D) (pe (.bool (decide (D < 0))) (aF rfl rfl) (en Bn ?_));rcases oif F with ⟨J,F⟩|⟨J,F⟩
 ·refine ct J ?_;refine sR fun _ Bo=>?_;refine pa (i_ (-1)) (en Bo (aj (tr U (aB rfl rfl ?_))));exact rI F S
 refine cf J (sn U ?_);refine sR fun _ Bp=>?_;refine pm (i_ D) (pa (i_ D) (en Bp (aj (aB rfl rfl ?_))));exact rI F S
theorem rl {w0:World} {u0:Value} {a0:List T0_} {a1:Int} (ha0:R2_.rd w0 [u0] a0) {N:Nat} {r:Int} (F:jO N a0 a1=some r): Calls Tryz.prog 92 #[u0,i_ a1] w0 fun e w'=>e=.returned (i_ r)∧Ext w0 w' := by
 unfold jO at F;refine aD Tryz.func92 rfl rfl (dt rfl) ?_;have S:=Sat.start w0;refine sR fun _ BG=>?_;refine pa (i_ 0) (en BG ?_);refine sR fun _ BH=>?_;refine pm (i_ a1) (pm u0 (pe (i_ (a0.length:Int)) (aq rfl ha0) ?_));obtain ⟨U,BB,F⟩:=ob F;refine pe (i_ U) (cb rfl rfl BB) (pa (i_ U) (en BH ?_));refine sg fun _ Bv=>?_;refine sR fun _ BI=>?_;refine pm (i_ U) (pe (.bool (decide (U < 0))) (aF rfl rfl) (en BI ?_));rcases oif F with ⟨Y,F⟩|⟨Y,F⟩
 ·refine ct Y ?_;refine sR fun _ BJ=>?_;refine pa (i_ (-1)) (en BJ (aj (tr Bv (aB rfl rfl ?_))));exact rI F S
 refine cf Y (sn Bv ?_);refine sg fun _ Bw=>?_;refine sR fun _ BK=>?_;refine pa (i_ 0) (en BK ?_);refine bg fun _ Bx=>?_;obtain ⟨BL,hL,Bs⟩:=ob F;refine aH (fun k e w=>∃ (J:Int),∃ (D:Int),e 0=u0∧e 1=i_ J∧e 5=i_ D∧Sat w0 w []∧il N k a0 J D=some BL) N ?_ ?_ ?_
 ·exact ⟨U,0,rfl,rfl,rfl,S,hL⟩
 ·rintro e w ⟨_,_,_,_,_,_,hz⟩; exact nomatch (show none=some _ from hz)
 rintro k BU BV ⟨J,D,Z,Bt,Bm,S,F⟩;refine gn fun _ Bq=>?_;refine sg fun _ By=>?_;refine sR fun _ BM=>?_;refine pM (i_ D) Bm (pM u0 Z (pe (i_ (a0.length:Int)) (aq rfl ha0) (pe (.bool (decide (D < (a0.length:Int)))) (aF rfl rfl) (en BM ?_))));rcases oif F with ⟨Bn,F⟩|⟨Bn,F⟩
 ·refine ct Bn (sn By ?_);refine sg fun _ Bz=>?_;refine bg fun _ BA=>?_;refine sR fun _ BN=>?_;refine pM u0 Z (pM (i_ D) Bm ?_);obtain ⟨BW,BC,F⟩:=ob F;refine aJ (wA:=w0) rfl ha0 rfl (dt rfl) rfl BC (dt rfl) ?_;intro BX BS BY Bu BD;obtain ⟨BO,rfl⟩:=au Bu;refine pe BO (ac rfl ((am S.below BD) 0 _ rfl)) (pM (i_ J) Bt ?_);obtain ⟨Bo,BE,F⟩:=ob F;refine ec0 ui (lw (S.up Bu) BE) (ca (ai rfl (ai rfl rfl))) S fun BZ BT S=>?_;refine pa (i_ Bo) (en BN ?_);refine sR fun _ BP=>?_;refine pm (i_ Bo) (pe (.bool (decide (Bo < 0))) (aF rfl rfl) (en BP ?_));rcases oif F with ⟨Bp,F⟩|⟨Bp,F⟩
  ·refine ct Bp ?_;refine sR fun _ BQ=>?_;refine pa (i_ (-1)) (en BQ (aj (br BA (tr Bz (tr Bq (br Bx (tr Bw ?_)))))));replace F:=exL F Bs;refine aB rfl rfl ?_;exact rI F S
  refine cf Bp (aV (bn BA (tn Bz (ah (pM (i_ D) Bm ?_)))));obtain ⟨Br,BF,F⟩:=ob F;refine pe (i_ Br) (aE rfl rfl BF) (pa (i_ Br) (en Bq ?_));replace S:=S.keep 0;exact ⟨Bo,Br,Z,rfl,rfl,S,F⟩
 refine cf Bn (aG (tx By (tx Bq ?_)));replace F:=exA F Bs;refine bS Bx (tn Bw ?_);refine sR fun _ BR=>?_;refine pM (i_ J) Bt (pa (i_ J) (en BR (aj (aB rfl rfl ?_))));exact rI F S
theorem oX {w0:World} {a0:Int} {u1:Value} {a1:List T0_} {a2:Int} (ha1:R2_.rd w0 [u1] a1) {N:Nat} {r:Int} (F:ia N a0 a1 a2=some r): Calls Tryz.prog 68 #[.agg #[i_ a0,u1],i_ a2] w0 fun e w'=>e=.returned (i_ r)∧Ext w0 w' := by
 unfold ia at F;refine aD Tryz.func68 rfl rfl (dt rfl) ?_;have S:=Sat.start w0;refine sR fun _ Z=>?_;refine aW [i_ a0,u1] rfl S (dt rfl) ?_;intro Bu Bm S Bs;refine pa (i_ 0) (en Z ?_);refine sR fun _ Bn=>?_;refine pe (.pointer (some ⟨Bm,0 + 1,none⟩)) (ae rfl) (pe u1 (ac rfl ((S.boxAt 0 rfl) 1 _ rfl)) (pm (i_ a2) ?_));obtain ⟨D,Y,F⟩:=ob F;refine ec0 zL (rl (S.up ha1) Y) (ca (ai rfl (ai rfl rfl))) S fun Bo Bt S=>?_;refine pa (i_ D) (en Bn ?_);refine sg fun _ U=>?_;refine sg fun _ Bp=>?_;replace S:Sat w0 Bo []:=S.rems 1 [0] rfl;refine ah (pm (i_ D) (pe (.bool (decide (D < 0))) (aF rfl rfl) (en Bp ?_)));rcases oif F with ⟨J,F⟩|⟨J,F⟩
 ·refine ct J ?_;refine sR fun _ Bq=>?_;refine pa (i_ (-1)) (en Bq (aj (tr U (aB rfl rfl ?_))));exact rI F S
 refine cf J (sn U ?_);refine sR fun _ Br=>?_;refine pm (i_ D) (pa (i_ D) (en Br (aj (aB rfl rfl ?_))));exact rI F S
theorem rj {w0:World} {a0:ByteArray} {a1:Int} {u2:Value} {a2:List T0_} {a3:Int} (_:a0.size ≤ 9223372036854775807) (ha2:R2_.rd w0 [u2] a2) {N:Nat} {r:Int} (F:gQ N a0 a1 a2 a3=some r): Calls Tryz.prog 48 #[.agg #[.string a0,i_ a1,u2],i_ a3] w0 fun e w'=>e=.returned (i_ r)∧Ext w0 w' := by
 unfold gQ at F;refine aD Tryz.func48 rfl rfl (dt rfl) ?_;have S:=Sat.start w0;refine sR fun _ Bq=>?_;refine aW [.string a0,i_ a1,u2] rfl S (dt rfl) ?_;intro Br Z S BA;refine pa (i_ 0) (en Bq ?_);refine sR fun _ Bs=>?_;refine pm (i_ a3) (pe (.pointer (some ⟨Z,0 + 0,none⟩)) (ae rfl) (pe (.string a0) (ac rfl ((S.boxAt 0 rfl) 0 _ rfl)) (pe (i_ (a0.size:Int)) (lx Tryz.underlying9 rfl) ?_)));obtain ⟨D,Bo,F⟩:=ob F;refine pe (i_ D) (cb rfl rfl Bo) (pa (i_ D) (en Bs ?_));refine sg fun _ Bm=>?_;refine sR fun _ Bt=>?_;refine pm (i_ D) (pe (.bool (decide (D < 0))) (aF rfl rfl) (en Bt ?_));rcases oif F with ⟨U,F⟩|⟨U,F⟩
 ·refine ct U ?_;refine sg fun _ Bu=>?_;replace S:Sat w0 Br []:=S.rems 1 [0] rfl;refine ah (pa (i_ (-1)) (en Bu (aj (tr Bm (aB rfl rfl ?_)))));exact rI F S
 refine cf U (sn Bm ?_);refine sR fun _ Bv=>?_;refine pe (.pointer (some ⟨Z,0 + 1,none⟩)) (ae rfl) (pe (.agg #[i_ a1,u2]) (ay (cs:=[i_ a1,u2]) rfl rfl (og (S.boxAt 0 rfl) 1 2)) (pm (i_ D) ?_));obtain ⟨J,Bp,F⟩:=ob F;refine ec0 As (oX (S.up ha2) Bp) (ca (ai rfl (ai rfl rfl))) S fun Bw BB S=>?_;refine pa (i_ J) (en Bv ?_);refine sg fun _ Bn=>?_;refine sg fun _ Bx=>?_;replace S:Sat w0 Bw []:=S.rems 1 [0] rfl;refine ah (pm (i_ J) (pe (.bool (decide (J < 0))) (aF rfl rfl) (en Bx ?_)));rcases oif F with ⟨Y,F⟩|⟨Y,F⟩
 ·refine ct Y ?_;refine sR fun _ By=>?_;refine pa (i_ (-1)) (en By (aj (tr Bn (aB rfl rfl ?_))));exact rI F S
 refine cf Y (sn Bn ?_);refine sR fun _ Bz=>?_;refine pm (i_ J) (pa (i_ J) (en Bz (aj (aB rfl rfl ?_))));exact rI F S
theorem qK {w0:World} {u0:Value} {a0:List T8_} {a1:Int} (ha0:uh.rd w0 [u0] a0) {N:Nat} {r:Int} (F:jn N a0 a1=some r): Calls Tryz.prog 30 #[u0,i_ a1] w0 fun e w'=>e=.returned (i_ r)∧Ext w0 w' := by
 unfold jn at F;refine aD Tryz.func30 rfl rfl (dt rfl) ?_;have S:=Sat.start w0;refine sR fun _ BN=>?_;refine pa (i_ 0) (en BN ?_);refine sR fun _ BO=>?_;refine pm (i_ a1) (pm u0 (pe (i_ (a0.length:Int)) (aq rfl ha0) ?_));obtain ⟨U,BD,F⟩:=ob F;refine pe (i_ U) (cb rfl rfl BD) (pa (i_ U) (en BO ?_));refine sg fun _ Bw=>?_;refine sR fun _ BP=>?_;refine pm (i_ U) (pe (.bool (decide (U < 0))) (aF rfl rfl) (en BP ?_));rcases oif F with ⟨Y,F⟩|⟨Y,F⟩
 ·refine ct Y ?_;refine sR fun _ BQ=>?_;refine pa (i_ (-1)) (en BQ (aj (tr Bw (aB rfl rfl ?_))));exact rI F S
 refine cf Y (sn Bw ?_);refine sg fun _ Bx=>?_;refine sR fun _ BR=>?_;refine pa (i_ 0) (en BR ?_);refine bg fun _ By=>?_;obtain ⟨BS,hL,Bt⟩:=ob F;refine aH (fun k e w=>∃ (J:Int),∃ (D:Int),e 0=u0∧e 1=i_ J∧e 5=i_ D∧Sat w0 w []∧gY N k a0 J D=some BS) N ?_ ?_ ?_
 ·exact ⟨U,0,rfl,rfl,rfl,S,hL⟩
 ·rintro e w ⟨_,_,_,_,_,_,hz⟩; exact nomatch (show none=some _ from hz)
 rintro k B0 B1 ⟨J,D,Z,Bu,Bm,S,F⟩;refine gn fun _ Br=>?_;refine sg fun _ Bz=>?_;refine sR fun _ BT=>?_;refine pM (i_ D) Bm (pM u0 Z (pe (i_ (a0.length:Int)) (aq rfl ha0) (pe (.bool (decide (D < (a0.length:Int)))) (aF rfl rfl) (en BT ?_))));rcases oif F with ⟨Bn,F⟩|⟨Bn,F⟩
 ·refine ct Bn (sn Bz ?_);refine sg fun _ BA=>?_;refine bg fun _ BB=>?_;refine sR fun _ BU=>?_;refine pM u0 Z (pM (i_ D) Bm ?_);obtain ⟨Bo,BE,F⟩:=ob F;refine aJ (wA:=w0) rfl ha0 rfl (dt rfl) rfl BE (dt rfl) ?_;intro B2 BY B3 BF BG;obtain ⟨_,_,rfl,BH,BI⟩:=BF;obtain ⟨rfl,BJ⟩:=BH;obtain ⟨_,_,rfl,BK,Bv⟩:=BI;obtain rfl:=BK;obtain ⟨BC,rfl⟩:=au Bv;refine pe (.agg #[.string Bo.1,i_ Bo.2.1,BC]) (ay (cs:=[.string Bo.1,i_ Bo.2.1,BC]) rfl rfl (am S.below BG)) (pM (i_ J) Bu ?_);obtain ⟨Bp,BL,F⟩:=ob F;refine ec0 z7 (rj BJ (S.up Bv) BL) (ca (ai rfl (ai rfl rfl))) S fun B4 BZ S=>?_;refine pa (i_ Bp) (en BU ?_);refine sR fun _ BV=>?_;refine pm (i_ Bp) (pe (.bool (decide (Bp < 0))) (aF rfl rfl) (en BV ?_));rcases oif F with ⟨Bq,F⟩|⟨Bq,F⟩
  ·refine ct Bq ?_;refine sR fun _ BW=>?_;refine pa (i_ (-1)) (en BW (aj (br BB (tr BA (tr Br (br By (tr Bx ?_)))))));replace F:=exL F Bt;refine aB rfl rfl ?_;exact rI F S
  refine cf Bq (aV (bn BB (tn BA (ah (pM (i_ D) Bm ?_)))));obtain ⟨Bs,BM,F⟩:=ob F;refine pe (i_ Bs) (aE rfl rfl BM) (pa (i_ Bs) (en Br ?_));replace S:=S.keep 0;exact ⟨Bp,Bs,Z,rfl,rfl,S,F⟩
 refine cf Bn (aG (tx Bz (tx Br ?_)));replace F:=exA F Bt;refine bS By (tn Bx ?_);refine sR fun _ BX=>?_;refine pM (i_ J) Bu (pa (i_ J) (en BX (aj (aB rfl rfl ?_))));exact rI F S
theorem pn {w0:World} {u0:Value} {a0:List T8_} {a1:Int} (ha0:uh.rd w0 [u0] a0) {N:Nat} {r:Int} (F:iu N a0 a1=some r): Calls Tryz.prog 6 #[.agg #[u0],i_ a1] w0 fun e w'=>e=.returned (i_ r)∧Ext w0 w' := by
 unfold iu at F;refine aD Tryz.func6 rfl rfl (dt rfl) ?_;have S:=Sat.start w0;refine sR fun _ Z=>?_;refine aW [u0] rfl S (dt rfl) ?_;intro Bu Bm S Bs;refine pa (i_ 0) (en Z ?_);refine sR fun _ Bn=>?_;refine pe (.pointer (some ⟨Bm,0 + 0,none⟩)) (ae rfl) (pe u0 (ac rfl ((S.boxAt 0 rfl) 0 _ rfl)) (pm (i_ a1) ?_));obtain ⟨D,Y,F⟩:=ob F;refine ec0 zK (qK (S.up ha0) Y) (ca (ai rfl (ai rfl rfl))) S fun Bo Bt S=>?_;refine pa (i_ D) (en Bn ?_);refine sg fun _ U=>?_;refine sg fun _ Bp=>?_;replace S:Sat w0 Bo []:=S.rems 1 [0] rfl;refine ah (pm (i_ D) (pe (.bool (decide (D < 0))) (aF rfl rfl) (en Bp ?_)));rcases oif F with ⟨J,F⟩|⟨J,F⟩
 ·refine ct J ?_;refine sR fun _ Bq=>?_;refine pa (i_ (-1)) (en Bq (aj (tr U (aB rfl rfl ?_))));exact rI F S
 refine cf J (sn U ?_);refine sR fun _ Br=>?_;refine pm (i_ D) (pa (i_ D) (en Br (aj (aB rfl rfl ?_))));exact rI F S
theorem sC {w0:World} {a0:ByteArray} {u1:Value} {a1:List Int} {a2:Int} (_:a0.size ≤ 9223372036854775807) (ha1:R0_.rd w0 [u1] a1) {N:Nat} {r:Int} (F:iC N a0 a1 a2=some r): Calls Tryz.prog 49 #[.agg #[.string a0,u1],i_ a2] w0 fun e w'=>e=.returned (i_ r)∧Ext w0 w' := by
 unfold iC at F;refine aD Tryz.func49 rfl rfl (dt rfl) ?_;have S:=Sat.start w0;refine sR fun _ Bq=>?_;refine aW [.string a0,u1] rfl S (dt rfl) ?_;intro Br Z S BA;refine pa (i_ 0) (en Bq ?_);refine sR fun _ Bs=>?_;refine pm (i_ a2) (pe (.pointer (some ⟨Z,0 + 0,none⟩)) (ae rfl) (pe (.string a0) (ac rfl ((S.boxAt 0 rfl) 0 _ rfl)) (pe (i_ (a0.size:Int)) (lx Tryz.underlying9 rfl) ?_)));obtain ⟨D,Bo,F⟩:=ob F;refine pe (i_ D) (cb rfl rfl Bo) (pa (i_ D) (en Bs ?_));refine sg fun _ Bm=>?_;refine sR fun _ Bt=>?_;refine pm (i_ D) (pe (.bool (decide (D < 0))) (aF rfl rfl) (en Bt ?_));rcases oif F with ⟨U,F⟩|⟨U,F⟩
 ·refine ct U ?_;refine sg fun _ Bu=>?_;replace S:Sat w0 Br []:=S.rems 1 [0] rfl;refine ah (pa (i_ (-1)) (en Bu (aj (tr Bm (aB rfl rfl ?_)))));exact rI F S
 refine cf U (sn Bm ?_);refine sR fun _ Bv=>?_;refine pe (.pointer (some ⟨Z,0 + 1,none⟩)) (ae rfl) (pe u1 (ac rfl ((S.boxAt 0 rfl) 1 _ rfl)) (pm (i_ D) ?_));obtain ⟨J,Bp,F⟩:=ob F;refine ec0 ui (lw (S.up ha1) Bp) (ca (ai rfl (ai rfl rfl))) S fun Bw BB S=>?_;refine pa (i_ J) (en Bv ?_);refine sg fun _ Bn=>?_;refine sg fun _ Bx=>?_;replace S:Sat w0 Bw []:=S.rems 1 [0] rfl;refine ah (pm (i_ J) (pe (.bool (decide (J < 0))) (aF rfl rfl) (en Bx ?_)));rcases oif F with ⟨Y,F⟩|⟨Y,F⟩
 ·refine ct Y ?_;refine sR fun _ By=>?_;refine pa (i_ (-1)) (en By (aj (tr Bn (aB rfl rfl ?_))));exact rI F S
 refine cf Y (sn Bn ?_);refine sR fun _ Bz=>?_;refine pm (i_ J) (pa (i_ J) (en Bz (aj (aB rfl rfl ?_))));exact rI F S
theorem rp {w0:World} {u0:Value} {a0:List T3_} {a1:Int} (ha0:R6_.rd w0 [u0] a0) {N:Nat} {r:Int} (F:jU N a0 a1=some r): Calls Tryz.prog 31 #[u0,i_ a1] w0 fun e w'=>e=.returned (i_ r)∧Ext w0 w' := by
 unfold jU at F;refine aD Tryz.func31 rfl rfl (dt rfl) ?_;have S:=Sat.start w0;refine sR fun _ BL=>?_;refine pa (i_ 0) (en BL ?_);refine sR fun _ BM=>?_;refine pm (i_ a1) (pm u0 (pe (i_ (a0.length:Int)) (aq rfl ha0) ?_));obtain ⟨U,BD,F⟩:=ob F;refine pe (i_ U) (cb rfl rfl BD) (pa (i_ U) (en BM ?_));refine sg fun _ Bv=>?_;refine sR fun _ BN=>?_;refine pm (i_ U) (pe (.bool (decide (U < 0))) (aF rfl rfl) (en BN ?_));rcases oif F with ⟨Y,F⟩|⟨Y,F⟩
 ·refine ct Y ?_;refine sR fun _ BO=>?_;refine pa (i_ (-1)) (en BO (aj (tr Bv (aB rfl rfl ?_))));exact rI F S
 refine cf Y (sn Bv ?_);refine sg fun _ Bw=>?_;refine sR fun _ BP=>?_;refine pa (i_ 0) (en BP ?_);refine bg fun _ Bx=>?_;obtain ⟨BQ,hL,Bs⟩:=ob F;refine aH (fun k e w=>∃ (J:Int),∃ (D:Int),e 0=u0∧e 1=i_ J∧e 5=i_ D∧Sat w0 w []∧ik N k a0 J D=some BQ) N ?_ ?_ ?_
 ·exact ⟨U,0,rfl,rfl,rfl,S,hL⟩
 ·rintro e w ⟨_,_,_,_,_,_,hz⟩; exact nomatch (show none=some _ from hz)
 rintro k BY BZ ⟨J,D,Z,Bt,Bm,S,F⟩;refine gn fun _ Bq=>?_;refine sg fun _ By=>?_;refine sR fun _ BR=>?_;refine pM (i_ D) Bm (pM u0 Z (pe (i_ (a0.length:Int)) (aq rfl ha0) (pe (.bool (decide (D < (a0.length:Int)))) (aF rfl rfl) (en BR ?_))));rcases oif F with ⟨Bn,F⟩|⟨Bn,F⟩
 ·refine ct Bn (sn By ?_);refine sg fun _ Bz=>?_;refine bg fun _ BA=>?_;refine sR fun _ BS=>?_;refine pM u0 Z (pM (i_ D) Bm ?_);obtain ⟨BB,BE,F⟩:=ob F;refine aJ (wA:=w0) rfl ha0 rfl (dt rfl) rfl BE (dt rfl) ?_;intro B0 BW B1 BF BG;obtain ⟨_,_,rfl,BH,Bu⟩:=BF;obtain ⟨rfl,BI⟩:=BH;obtain ⟨BC,rfl⟩:=au Bu;refine pe (.agg #[.string BB.1,BC]) (ay (cs:=[.string BB.1,BC]) rfl rfl (am S.below BG)) (pM (i_ J) Bt ?_);obtain ⟨Bo,BJ,F⟩:=ob F;refine ec0 zC (sC BI (S.up Bu) BJ) (ca (ai rfl (ai rfl rfl))) S fun B2 BX S=>?_;refine pa (i_ Bo) (en BS ?_);refine sR fun _ BT=>?_;refine pm (i_ Bo) (pe (.bool (decide (Bo < 0))) (aF rfl rfl) (en BT ?_));rcases oif F with ⟨Bp,F⟩|⟨Bp,F⟩
  ·refine ct Bp ?_;refine sR fun _ BU=>?_;refine pa (i_ (-1)) (en BU (aj (br BA (tr Bz (tr Bq (br Bx (tr Bw ?_)))))));replace F:=exL F Bs;refine aB rfl rfl ?_;exact rI F S
  refine cf Bp (aV (bn BA (tn Bz (ah (pM (i_ D) Bm ?_)))));obtain ⟨Br,BK,F⟩:=ob F;refine pe (i_ Br) (aE rfl rfl BK) (pa (i_ Br) (en Bq ?_));replace S:=S.keep 0;exact ⟨Bo,Br,Z,rfl,rfl,S,F⟩
 refine cf Bn (aG (tx By (tx Bq ?_)));replace F:=exA F Bs;refine bS Bx (tn Bw ?_);refine sR fun _ BV=>?_;refine pM (i_ J) Bt (pa (i_ J) (en BV (aj (aB rfl rfl ?_))));exact rI F S
theorem rP {w0:World} {a0:Int} {u1:Value} {a1:List T3_} {u2:Value} {a2:List Int} {a3:Int} (ha1:R6_.rd w0 [u1] a1) (ha2:R0_.rd w0 [u2] a2) {N:Nat} {r:Int} (F:jR N a0 a1 a2 a3=some r): Calls Tryz.prog 7 #[.agg #[i_ a0,u1,u2],i_ a3] w0 fun e w'=>e=.returned (i_ r)∧Ext w0 w' := by
 unfold jR at F;refine aD Tryz.func7 rfl rfl (dt rfl) ?_;have S:=Sat.start w0;refine sR fun _ Bq=>?_;refine aW [i_ a0,u1,u2] rfl S (dt rfl) ?_;intro BD Z S BA;refine pa (i_ 0) (en Bq ?_);refine sR fun _ Br=>?_;refine pe (.pointer (some ⟨Z,0 + 1,none⟩)) (ae rfl) (pe u1 (ac rfl ((S.boxAt 0 rfl) 1 _ rfl)) (pm (i_ a3) ?_));obtain ⟨J,Bo,F⟩:=ob F;refine ec0 AX (rp (S.up ha1) Bo) (ca (ai rfl (ai rfl rfl))) S fun Bs BB S=>?_;refine pa (i_ J) (en Br ?_);refine sg fun _ Bm=>?_;refine sR fun _ Bt=>?_;refine pm (i_ J) (pe (.bool (decide (J < 0))) (aF rfl rfl) (en Bt ?_));rcases oif F with ⟨U,F⟩|⟨U,F⟩
 ·refine ct U ?_;refine sg fun _ Bu=>?_;replace S:Sat w0 Bs []:=S.rems 1 [0] rfl;refine ah (pa (i_ (-1)) (en Bu (aj (tr Bm (aB rfl rfl ?_)))));exact rI F S
 refine cf U (sn Bm ?_);refine sR fun _ Bv=>?_;refine pe (.pointer (some ⟨Z,0 + 2,none⟩)) (ae rfl) (pe u2 (ac rfl ((S.boxAt 0 rfl) 2 _ rfl)) (pm (i_ J) ?_));obtain ⟨D,Bp,F⟩:=ob F;refine ec0 ui (lw (S.up ha2) Bp) (ca (ai rfl (ai rfl rfl))) S fun Bw BC S=>?_;refine pa (i_ D) (en Bv ?_);refine sg fun _ Bn=>?_;refine sg fun _ Bx=>?_;replace S:Sat w0 Bw []:=S.rems 1 [0] rfl;refine ah (pm (i_ D) (pe (.bool (decide (D < 0))) (aF rfl rfl) (en Bx ?_)));rcases oif F with ⟨Y,F⟩|⟨Y,F⟩
 ·refine ct Y ?_;refine sR fun _ By=>?_;refine pa (i_ (-1)) (en By (aj (tr Bn (aB rfl rfl ?_))));exact rI F S
 refine cf Y (sn Bn ?_);refine sR fun _ Bz=>?_;refine pm (i_ D) (pa (i_ D) (en Bz (aj (aB rfl rfl ?_))));exact rI F S
theorem nI {w0:World} {a0:Int} {u1:Value} {a1:List T0_} (ha1:R2_.rd w0 [u1] a1) {N:Nat} {r:Int × List T0_} (F:jv N a0 a1=some r): Calls Tryz.prog 76 #[.agg #[i_ a0,u1]] w0 fun e w'=>∃ (q0:Value),e=.returned (.agg #[i_ r.1,q0])∧Sat w0 w' [Own R2_ [q0] r.2] := by
 unfold jv at F;refine aD Tryz.func76 rfl rfl (dt rfl) ?_;have S:=Sat.start w0;refine sR fun _ BR=>?_;refine aW [i_ a0,u1] rfl S (dt rfl) ?_;intro Cf U S B8;refine aU S (dt rfl) ?_;intro Cg Y S B9;refine en BR ?_;refine sR fun _ BS=>?_;refine pe (.pointer (some ⟨U,0 + 0,none⟩)) (ae rfl) (pe (i_ a0) (ac rfl ((S.boxAt 1 rfl) 0 _ rfl)) (pe (.agg #[i_ a0,n_]) (bo [(0,[i_ a0])] [i_ a0,n_] (eE rfl rfl) rfl) ?_));refine aU S (dt rfl) ?_;intro Ch J S Ca;refine ax (S.top 0 rfl) rfl [i_ a0,n_] rfl rfl (dt rfl) (all_cons rfl (all_cons rfl rfl)) ?_;intro BT S;replace S:Sat w0 BT [Box J 65 [i_ a0,n_],Box Y 65 [i_ 0,n_],Box U 65 [i_ a0,u1]]:=S;refine en BS ?_;refine sg fun _ BU=>?_;refine sR fun _ BV=>?_;refine pa (i_ 0) (en BV ?_);refine bg fun _ BW=>?_;replace S:=S.nil R0_ 26;obtain ⟨BX,hL,BI⟩:=ob F;refine aH (fun k e w=>∃ (D:Value),∃ (Z:List T0_),∃ (Bo:Int),e 1=.pointer (some ⟨U,0,none⟩)∧e 2=.pointer (some ⟨Y,0,none⟩)∧e 3=.pointer (some ⟨J,0,none⟩)∧e 4=i_ Bo∧Sat w0 w [Own R2_ [D] Z,Box J 65 [i_ a0,D],Box Y 65 [i_ 0,n_],Box U 65 [i_ a0,u1]]∧eg N k a0 a1 0 [] a0 Z Bo=some BX) N ?_ ?_ ?_
 ·exact ⟨n_,[],0,rfl,rfl,rfl,rfl,S,hL⟩
 ·rintro e w ⟨_,_,_,_,_,_,_,_,hz⟩; exact nomatch (show none=some _ from hz)
 rintro k Ci BY ⟨D,Z,Bo,Bs,Bt,Bp,Bu,S,F⟩;refine gn fun _ BE=>?_;refine sg fun _ BF=>?_;refine sR fun _ BZ=>?_;refine pM (i_ Bo) Bu (pe (.pointer (some ⟨U,0 + 1,none⟩)) (ae Bs) (pe u1 (ac rfl ((S.boxAt 3 rfl) 1 _ rfl)) (pe (i_ (a1.length:Int)) (aq rfl ha1) (pe (.bool (decide (Bo < (a1.length:Int)))) (aF rfl rfl) (en BZ ?_)))));rcases oif F with ⟨Bv,F⟩|⟨Bv,F⟩
 ·refine ct Bv (sn BF ?_);refine sg fun _ B0=>?_;refine bg fun _ B1=>?_;obtain ⟨C,hCd⟩:∃ C:World → Prop,∀ w,C w ↔ ∃ G,Sat w0 w ([Box J 65 [i_ a0,D],Box U 65 [i_ a0,u1]] ++ G):=⟨_,fun _=>Iff.rfl⟩;refine bT [0,1,2,3,4,5,6,7,8,9,10,11] C (by kernel_rfl) ?_;intro B2 BJ;replace S:=S.ext BJ;replace S:Sat w0 B2 [Box J 65 [i_ a0,D],Box U 65 [i_ a0,u1],Own R2_ [D] Z,Box Y 65 [i_ 0,n_]]:=S.tops 4 [1,3] rfl;have hC:=(hCd _).2 ⟨_,S⟩;refine aP (.pointer (some ⟨J,0 + 1,none⟩)) 0 rfl rfl hC (aw rfl (fun w' hw'=>by obtain ⟨_,S⟩:=(hCd _).1 hw'; exact (ae Bp))) ?_;refine aP D 1 rfl rfl hC (aw rfl (fun w' hw'=>by obtain ⟨_,S⟩:=(hCd _).1 hw'; exact (ac rfl ((S.boxAt 0 rfl) 1 _ rfl)))) ?_;refine aP (.pointer (some ⟨U,0 + 1,none⟩)) 3 rfl rfl hC (aw rfl (fun w' hw'=>by obtain ⟨_,S⟩:=(hCd _).1 hw'; exact (ae Bs))) ?_;refine aP u1 4 rfl rfl hC (aw rfl (fun w' hw'=>by obtain ⟨_,S⟩:=(hCd _).1 hw'; exact (ac rfl ((S.boxAt 1 rfl) 1 _ rfl)))) ?_;refine aP (i_ Bo) 5 rfl rfl hC (aw rfl (fun w' hw'=>by obtain ⟨_,S⟩:=(hCd _).1 hw'; exact (aL Bu))) ?_;obtain ⟨B3,BK,F⟩:=ob F;refine eZ (wA:=w0) (by kernel_rfl) 6 rfl hC (by kernel_rfl) (by kernel_rfl) rfl ha1 rfl (dt rfl) rfl BK (dt rfl) ?_;intro Cj Cb Ck BB BL;obtain ⟨B4,rfl⟩:=au BB;refine aP B4 7 rfl rfl hC (aw rfl (fun w' hw'=>by obtain ⟨_,S⟩:=(hCd _).1 hw'; exact (ac rfl ((am S.below BL) 0 _ rfl)))) ?_;refine aO 2 rfl ?_;refine aY a7 S (dt rfl) ?_;intro BG BH S Cc;refine ag ?_;replace S:Sat w0 BG [Box J 65 [i_ a0,D],Box U 65 [i_ a0,u1],Own R0_ [BH] [],Own R2_ [D] Z,Box Y 65 [i_ 0,n_]]:=S.tops 5 [1,2] rfl;have hC:=(hCd _).2 ⟨_,S⟩;refine ⟨fun _=>hC,?_⟩;refine aO 8 rfl ?_;obtain ⟨Bw,BM,F⟩:=ob F;obtain ⟨Cd,Cl,BN,BO,BC⟩:=dK (S.up BB);replace S:Sat w0 BG [Own R0_ [BH] [],Box J 65 [i_ a0,D],Box U 65 [i_ a0,u1],Own R2_ [D] Z,Box Y 65 [i_ 0,n_]]:=S.top 2 rfl;replace S:=S.ints (xs:=B3);refine az rfl (dt rfl) rfl (dt rfl) S rfl (rfl.trans BN) rfl BO BC BM (dt rfl) ?_;intro B5 Bm S;refine ag ?_;replace S:Sat w0 B5 [Box J 65 [i_ a0,D],Box U 65 [i_ a0,u1],Own R0_ [Bm] Bw,Own R2_ [D] Z,Box Y 65 [i_ 0,n_]]:=S.tops 5 [1,2] rfl;have hC:=(hCd _).2 ⟨_,S⟩;refine ⟨fun _=>hC,?_⟩;refine aO 9 rfl ?_;refine av [Bm] (aQ rfl (oc (S.rdAt (R:=R0_) 2 rfl))) (by rfl) (dt rfl) rfl (dt rfl) S (dt rfl) ?_;intro Bx Bq S Ce;refine ag ?_;replace S:Sat w0 Bx [Box J 65 [i_ a0,D],Box U 65 [i_ a0,u1],Box Bq 26 [Bm],Own R0_ [Bm] Bw,Own R2_ [D] Z,Box Y 65 [i_ 0,n_]]:=S.tops 6 [1,2] rfl;have hC:=(hCd _).2 ⟨_,S⟩;refine ⟨fun _=>hC,?_⟩;refine aO 10 rfl ?_;obtain ⟨Br,BP,F⟩:=ob F;have BD:=S.boxRow 2 rfl;replace S:Sat w0 Bx [Own R2_ [D] Z,Box J 65 [i_ a0,D],Box U 65 [i_ a0,u1],Box Bq 26 [Bm],Own R0_ [Bm] Bw,Box Y 65 [i_ 0,n_]]:=S.top 4 rfl;replace S:Sat w0 Bx [Own R0_ [Bm] Bw,Own R2_ [D] Z,Box J 65 [i_ a0,D],Box U 65 [i_ a0,u1],Box Bq 26 [Bm],Box Y 65 [i_ 0,n_]]:=S.top 4 rfl;replace S:=S.one;refine az rfl (dt rfl) rfl (dt rfl) S rfl rfl rfl (by simp) BD BP (dt rfl) ?_;intro B6 Bn S;refine ag ?_;replace S:Sat w0 B6 [Box J 65 [i_ a0,D],Box U 65 [i_ a0,u1],Own R2_ [Bn] Br,Box Bq 26 [Bm],Box Y 65 [i_ 0,n_]]:=S.tops 5 [1,2] rfl;have hC:=(hCd _).2 ⟨_,S⟩;refine ⟨fun _=>hC,?_⟩;refine aO 11 rfl ?_;refine pe (.pointer (some ⟨J,0 + 1,none⟩)) (ae Bp) (ag ?_);refine ⟨fun _=>hC,?_⟩;refine aO 12 rfl ?_;refine ax (S.top 0 rfl) rfl [Bn] (aQ rfl (oc (S.rdAt (R:=R2_) 2 rfl))) rfl (dt rfl) (all_cons (oc (S.rdAt (R:=R2_) 2 rfl)) rfl) ?_;intro By S;replace S:Sat w0 By [Box J 65 [i_ a0,Bn],Box U 65 [i_ a0,u1],Own R2_ [Bn] Br,Box Bq 26 [Bm],Box Y 65 [i_ 0,n_]]:=S;refine ag ?_;refine ⟨fun h=>(nomatch (show false=true from h)),?_⟩;refine bm (by kernel_rfl) ?_;refine bn B1 (tn B0 ?_);replace S:Sat w0 By [Box J 65 [i_ a0,Bn],Box U 65 [i_ a0,u1],Own R2_ [Bn] Br,Box Y 65 [i_ 0,n_]]:=S.rems 5 [3] rfl;refine ah (pM (i_ Bo) Bu ?_);obtain ⟨Bz,BQ,F⟩:=ob F;refine pe (i_ Bz) (aE rfl rfl BQ) (pa (i_ Bz) (en BE ?_));replace S:Sat w0 By [Own R2_ [Bn] Br,Box J 65 [i_ a0,Bn],Box Y 65 [i_ 0,n_],Box U 65 [i_ a0,u1]]:=S.tops 4 [2,0,3,1] rfl;replace S:=S.keep 4;exact ⟨Bn,Br,Bz,Bs,Bt,Bp,rfl,S,F⟩
 refine cf Bv (aG (tx BF (tx BE ?_)));replace F:=exB F BI;refine bS BW (tn BU ?_);refine sg fun _ B7=>?_;replace S:Sat w0 BY [Own R2_ [D] Z,Box J 65 [i_ a0,D],Box Y 65 [i_ 0,n_]]:=S.rems 4 [3] rfl;refine ah (pe (.agg #[i_ a0,D]) (ay (cs:=[i_ a0,D]) Bp rfl (aK (S.boxAt 1 rfl))) ?_);refine ax (S.top 2 rfl) Bt [i_ a0,D] rfl rfl (dt rfl) (all_cons rfl (all_cons (oc (S.rdAt (R:=R2_) 0 rfl)) rfl)) ?_;intro BA S;replace S:Sat w0 BA [Box Y 65 [i_ a0,D],Own R2_ [D] Z,Box J 65 [i_ a0,D]]:=S;refine en B7 (aj ?_);refine ja (cs:=[i_ a0,D]) rfl Bt rfl (aK (S.boxAt 0 rfl))  ?_;replace S:Sat w0 BA [Own R2_ [D] Z,Box Y 65 [i_ a0,D],Box J 65 [i_ a0,D]]:=S.tops 3 [1] rfl;have hr:=Option.some.inj F;exact ⟨D,congrArg (fun (r:Int × List T0_)=>Ending.returned (.agg #[i_ r.1,D])) hr,Eq.mp (congrArg (fun (r:Int × List T0_)=>Sat w0 BA [Own R2_ [D] r.2]) hr) (S.keep 1)⟩
theorem bt {w0:World} {u0:Value} {a0:List Int} {u1:Value} {a1:List Int} (ha0:R0_.rd w0 [u0] a0) (ha1:R0_.rd w0 [u1] a1) {N:Nat} {r:Int} (F:bq N a0 a1=some r): Calls Tryz.prog 34 #[u0,u1] w0 fun e w'=>e=.returned (i_ r)∧Ext w0 w' := by
 unfold bq at F;refine aD Tryz.func34 rfl rfl (dt rfl) ?_;have S:=Sat.start w0;refine sR fun _ B0=>?_;refine pa (i_ 0) (en B0 ?_);refine sg fun _ Bo=>?_;refine sR fun _ B1=>?_;refine pa (i_ 0) (en B1 ?_);refine bg fun _ Bp=>?_;obtain ⟨B2,hL,Bm⟩:=ob F;refine aH (fun k e w=>∃ (D:Int),e 0=u0∧e 1=u1∧e 5=i_ D∧Sat w0 w []∧fO N k a0 a1 D=some B2) N ?_ ?_ ?_
 ·exact ⟨0,rfl,rfl,rfl,S,hL⟩
 ·rintro e w ⟨_,_,_,_,_,hz⟩; exact nomatch (show none=some _ from hz)
 rintro k Cl Cm ⟨D,U,Y,Z,S,F⟩;refine gn fun _ Bn=>?_;refine sg fun _ Bx=>?_;refine sR fun _ BB=>?_;refine pM (i_ D) Z (pM u0 U (pe (i_ (a0.length:Int)) (aq rfl ha0) (pe (.bool (decide (D < (a0.length:Int)))) (aF rfl rfl) (pm (.bool (decide (D < (a0.length:Int)))) ?_))));rcases oif F with ⟨J,F⟩|⟨J,F⟩
 ·refine ei J (pM (i_ D) Z (ei J (pM u1 Y (ei J (pe (i_ (a1.length:Int)) (aq rfl ha1) (ei J (pe (.bool (decide (D < (a1.length:Int)))) (aF rfl rfl) (pe (.bool (decide (D < (a1.length:Int)))) (aA rfl J rfl) (en BB ?_)))))))));rcases oif F with ⟨Bq,F⟩|⟨Bq,F⟩
  ·refine ct Bq (sn Bx ?_);refine sg fun _ By=>?_;refine bg fun _ Bz=>?_;refine sg fun _ BC=>?_;refine sg fun _ B3=>?_;refine bD (by kernel_rfl) (by kernel_rfl) ?_;refine qM u0 U (qM (i_ D) Z ?_);obtain ⟨BD,BL,F⟩:=ob F;refine aT (wA:=w0) rfl ha0 rfl (dt rfl) rfl BL (dt rfl) ?_;intro Cn Ch Co BM BN;obtain rfl:=BM;refine qe (i_ BD) (ac rfl ((am S.below BN) 0 _ rfl)) (qM u1 Y (qM (i_ D) Z ?_));obtain ⟨BE,BO,F⟩:=ob F;refine aT (wA:=w0) rfl ha1 rfl (dt rfl) rfl BO (dt rfl) ?_;intro Cp Ci Cq BP BQ;obtain rfl:=BP;refine qe (i_ BE) (ac rfl ((am S.below BQ) 0 _ rfl)) (qe (.bool (decide (BD < BE))) (aF rfl rfl) (a9 ?_));intro Cr BR;replace S:=S.ext BR;refine tn B3 ?_;rcases oif F with ⟨Br,F⟩|⟨Br,F⟩
   ·refine ct Br ?_;refine sR fun _ B4=>?_;refine pa (i_ (-1)) (en B4 (aj (tr BC (br Bz (tr By (tr Bn (br Bp (tr Bo ?_))))))));replace F:=exL F Bm;refine aB rfl rfl ?_;exact rI F S
   refine cf Br (sn BC ?_);refine sg fun _ B5=>?_;refine bD (by kernel_rfl) (by kernel_rfl) ?_;refine qM u0 U (qM (i_ D) Z ?_);obtain ⟨BF,BS,F⟩:=ob F;refine aT (wA:=w0) rfl ha0 rfl (dt rfl) rfl BS (dt rfl) ?_;intro Cs Cj Ct BT BU;obtain rfl:=BT;refine qe (i_ BF) (ac rfl ((am S.below BU) 0 _ rfl)) (qM u1 Y (qM (i_ D) Z ?_));obtain ⟨BG,BV,F⟩:=ob F;refine aT (wA:=w0) rfl ha1 rfl (dt rfl) rfl BV (dt rfl) ?_;intro Cu Ck Cv BW BX;obtain rfl:=BW;refine qe (i_ BG) (ac rfl ((am S.below BX) 0 _ rfl)) (qe (.bool (decide (BG < BF))) (bz rfl rfl) (a9 ?_));intro Cw BY;replace S:=S.ext BY;refine tn B5 ?_;rcases oif F with ⟨Bs,F⟩|⟨Bs,F⟩
   ·refine ct Bs ?_;refine sR fun _ B6=>?_;refine pa (i_ 1) (en B6 (aj (br Bz (tr By (tr Bn (br Bp (tr Bo ?_)))))));replace F:=exL F Bm;refine aB rfl rfl ?_;exact rI F S
   refine cf Bs (aV (bn Bz (tn By (ah (pM (i_ D) Z ?_)))));obtain ⟨BA,BZ,F⟩:=ob F;refine pe (i_ BA) (aE rfl rfl BZ) (pa (i_ BA) (en Bn ?_));replace S:=S.keep 0;exact ⟨BA,U,Y,rfl,S,F⟩
  refine cf Bq (aG (tx Bx (tx Bn ?_)));replace F:=exA F Bm;refine bS Bp (tn Bo ?_);refine sg fun _ BH=>?_;refine sR fun _ B7=>?_;refine pM u0 U (pe (i_ (a0.length:Int)) (aq rfl ha0) (pM u1 Y (pe (i_ (a1.length:Int)) (aq rfl ha1) (pe (.bool (decide ((a0.length:Int) < (a1.length:Int)))) (aF rfl rfl) (en B7 ?_)))));rcases oif F with ⟨Bt,F⟩|⟨Bt,F⟩
  ·refine ct Bt ?_;refine sR fun _ B8=>?_;refine pa (i_ (-1)) (en B8 (aj (tr BH (aB rfl rfl ?_))));exact rI F S
  refine cf Bt (sn BH ?_);refine sg fun _ BI=>?_;refine sR fun _ B9=>?_;refine pM u0 U (pe (i_ (a0.length:Int)) (aq rfl ha0) (pM u1 Y (pe (i_ (a1.length:Int)) (aq rfl ha1) (pe (.bool (decide ((a1.length:Int) < (a0.length:Int)))) (bz rfl rfl) (en B9 ?_)))));rcases oif F with ⟨Bu,F⟩|⟨Bu,F⟩
  ·refine ct Bu ?_;refine sR fun _ Ca=>?_;refine pa (i_ 1) (en Ca (aj (tr BI (aB rfl rfl ?_))));exact rI F S
  refine cf Bu (sn BI ?_);refine sR fun _ Cb=>?_;refine pa (i_ 0) (en Cb (aj (aB rfl rfl ?_)));exact rI F S
 refine eo J (eo J (eo J (eo J (pe (.bool false) (aC rfl J rfl) (en BB (cf rfl (aG (tx Bx (tx Bn ?_)))))))));replace F:=exA F Bm;refine bS Bp (tn Bo ?_);refine sg fun _ BJ=>?_;refine sR fun _ Cc=>?_;refine pM u0 U (pe (i_ (a0.length:Int)) (aq rfl ha0) (pM u1 Y (pe (i_ (a1.length:Int)) (aq rfl ha1) (pe (.bool (decide ((a0.length:Int) < (a1.length:Int)))) (aF rfl rfl) (en Cc ?_)))));rcases oif F with ⟨Bv,F⟩|⟨Bv,F⟩
 ·refine ct Bv ?_;refine sR fun _ Cd=>?_;refine pa (i_ (-1)) (en Cd (aj (tr BJ (aB rfl rfl ?_))));exact rI F S
 refine cf Bv (sn BJ ?_);refine sg fun _ BK=>?_;refine sR fun _ Ce=>?_;refine pM u0 U (pe (i_ (a0.length:Int)) (aq rfl ha0) (pM u1 Y (pe (i_ (a1.length:Int)) (aq rfl ha1) (pe (.bool (decide ((a1.length:Int) < (a0.length:Int)))) (bz rfl rfl) (en Ce ?_)))));rcases oif F with ⟨Bw,F⟩|⟨Bw,F⟩
 ·refine ct Bw ?_;refine sR fun _ Cf=>?_;refine pa (i_ 1) (en Cf (aj (tr BK (aB rfl rfl ?_))));exact rI F S
 refine cf Bw (sn BK ?_);refine sR fun _ Cg=>?_;refine pa (i_ 0) (en Cg (aj (aB rfl rfl ?_)));exact rI F S
theorem eQ {w0:World} {a0:Int} {a1:Int} {a2:Int}  {N:Nat} {r:Bool} (F:eB N a0 a1 a2=some r): Calls Tryz.prog 104 #[i_ a0,i_ a1,i_ a2] w0 fun e w'=>e=.returned (.bool r)∧Ext w0 w' := by
 unfold eB at F;refine aD Tryz.func104 rfl rfl (dt rfl) ?_;have S:=Sat.start w0;refine sR fun _ U=>?_;refine pa (.bool false) (en U ?_);refine sR fun _ J=>?_;refine pm (i_ a0) (pm (i_ a1) (pe (.bool (decide (a1 ≤ a0))) (d7 rfl rfl) (pm (.bool (decide (a1 ≤ a0))) ?_)));rcases oif F with ⟨D,F⟩|⟨D,F⟩
 ·refine ei D (pm (i_ a0) (ei D (pm (i_ a2) (ei D (pe (.bool (decide (a0 ≤ a2))) (iR rfl rfl) (pe (.bool (decide (a0 ≤ a2))) (aA rfl D rfl) (pa (.bool (decide (a0 ≤ a2))) (en J (aj (aB rfl rfl ?_))))))))));exact rB F S
 refine eo D (eo D (eo D (pe (.bool false) (aC rfl D rfl) (pa (.bool false) (en J (aj (aB rfl rfl ?_)))))));exact rB F S

end Go.Proofs.YtmnbfjhefejmoaaGreat
namespace Go.Proofs.YtmnbfjhefejmoaaGreat
open Go.RowKit
set_option maxRecDepth 100000
set_option maxHeartbeats 4000000
theorem kp {w0:World} {u0:Value} {a0:List Int} (ha0:R0_.rd w0 [u0] a0) {N:Nat} {r:Bool} (F:eG N a0=some r): Calls Tryz.prog 75 #[u0] w0 fun e w'=>e=.returned (.bool r)∧Ext w0 w' := by
 unfold eG at F;refine aD Tryz.func75 rfl rfl (dt rfl) ?_;have S:=Sat.start w0;refine sR fun _ Bz=>?_;refine pa (.bool false) (en Bz ?_);refine sg fun _ Bp=>?_;refine sR fun _ BA=>?_;refine pa (i_ 0) (en BA ?_);refine bg fun _ Bq=>?_;obtain ⟨BB,hL,Bo⟩:=ob F;refine aH (fun k e w=>∃ (D:Int),e 0=u0∧e 3=i_ D∧Sat w0 w []∧c3 N k a0 D=some BB) N ?_ ?_ ?_
 ·exact ⟨0,rfl,rfl,S,hL⟩
 ·rintro e w ⟨_,_,_,_,hz⟩; exact nomatch (show none=some _ from hz)
 rintro k BK BL ⟨D,J,U,S,F⟩;refine gn fun _ Bm=>?_;refine sg fun _ Br=>?_;refine sR fun _ BC=>?_;refine pM (i_ D) U (pM u0 J (pe (i_ (a0.length:Int)) (aq rfl ha0) (pe (.bool (decide (D < (a0.length:Int)))) (aF rfl rfl) (en BC ?_))));rcases oif F with ⟨Y,F⟩|⟨Y,F⟩
 ·refine ct Y (sn Br ?_);refine sg fun _ Bs=>?_;refine bg fun _ Bt=>?_;refine sR fun _ BD=>?_;refine pM u0 J (pM (i_ D) U ?_);obtain ⟨BE,Bu,F⟩:=ob F;refine aJ (wA:=w0) rfl ha0 rfl (dt rfl) rfl Bu (dt rfl) ?_;intro BM BI BN Bv Bw;obtain rfl:=Bv;refine pe (i_ BE) (ac rfl ((am S.below Bw) 0 _ rfl)) ?_;obtain ⟨BF,Bx,F⟩:=ob F;refine ec0 jw (eQ Bx) (ca (ai rfl (ai rfl (ai rfl rfl)))) S fun BO BJ S=>?_;refine pe (.bool (!BF)) (aZ rfl) (en BD ?_);rcases oif F with ⟨Z,F⟩|⟨Z,F⟩
  ·refine cf (an Z) (aV (bn Bt (tn Bs (ah (pM (i_ D) U ?_)))));obtain ⟨Bn,By,F⟩:=ob F;refine pe (i_ Bn) (aE rfl rfl By) (pa (i_ Bn) (en Bm ?_));replace S:=S.keep 0;exact ⟨Bn,J,rfl,S,F⟩
  refine ct (ap Z) ?_;refine sR fun _ BG=>?_;refine pa (.bool false) (en BG (aj (br Bt (tr Bs (tr Bm (br Bq (tr Bp ?_)))))));replace F:=exL F Bo;refine aB rfl rfl ?_;exact rB F S
 refine cf Y (aG (tx Br (tx Bm ?_)));replace F:=exA F Bo;refine bS Bq (tn Bp ?_);refine sR fun _ BH=>?_;refine pa (.bool true) (en BH (aj (aB rfl rfl ?_)));exact rB F S
theorem er {w0:World} {a0:Int} {u1:Value} {a1:List T0_} (ha1:R2_.rd w0 [u1] a1) {N:Nat} {r:Bool} (F:cC N a0 a1=some r): Calls Tryz.prog 78 #[.agg #[i_ a0,u1]] w0 fun e w'=>e=.returned (.bool r)∧Ext w0 w' := by
 unfold cC at F;refine aD Tryz.func78 rfl rfl (dt rfl) ?_;have S:=Sat.start w0;refine sR fun _ B5=>?_;refine aW [i_ a0,u1] rfl S (dt rfl) ?_;intro Cu Bo S Co;refine pa (.bool false) (en B5 ?_);refine sg fun _ BB=>?_;refine sR fun _ BJ=>?_;refine pe (.pointer (some ⟨Bo,0 + 0,none⟩)) (ae rfl) (pe (i_ a0) (ac rfl ((S.boxAt 0 rfl) 0 _ rfl)) ?_);obtain ⟨BK,BN,F⟩:=ob F;refine ec0 jw (eQ BN) (ca (ai rfl (ai rfl (ai rfl rfl)))) S fun BL Cp S=>?_;refine pe (.bool (!BK)) (aZ rfl) (pm (.bool (!BK)) ?_);rcases oif F with ⟨Y,F⟩|⟨Y,F⟩
 ·refine ei (an Y) (pe (.pointer (some ⟨Bo,0 + 1,none⟩)) (ae rfl) (ei (an Y) (pe u1 (ac rfl ((S.boxAt 0 rfl) 1 _ rfl)) (ei (an Y) (pe (i_ (a1.length:Int)) (aq rfl ha1) (ei (an Y) (pe (.bool (decide (4000 < (a1.length:Int)))) (bz rfl rfl) (pe (.bool (decide (4000 < (a1.length:Int)))) (aC rfl (an Y) rfl) (en BJ ?_)))))))));rcases oif F with ⟨Bt,F⟩|⟨Bt,F⟩
  ·refine ct Bt ?_;refine sg fun _ B6=>?_;replace S:Sat w0 BL []:=S.rems 1 [0] rfl;refine ah (pa (.bool false) (en B6 (aj (tr BB (aB rfl rfl ?_)))));exact rB F S
  refine cf Bt (sn BB ?_);refine sg fun _ Bu=>?_;refine sR fun _ B7=>?_;refine pa (i_ 0) (en B7 ?_);refine bg fun _ Bv=>?_;obtain ⟨B8,hL,Bq⟩:=ob F;refine aH (fun k e w=>∃ (Z:Int),e 1=.pointer (some ⟨Bo,0,none⟩)∧e 3=i_ Z∧Sat w0 w [Box Bo 65 [i_ a0,u1]]∧cn N k a0 a1 Z=some B8) N ?_ ?_ ?_
  ·exact ⟨0,rfl,rfl,S,hL⟩
  ·rintro e w ⟨_,_,_,_,hz⟩; exact nomatch (show none=some _ from hz)
  rintro k Cv B9 ⟨Z,Bm,Bn,S,F⟩;refine gn fun _ Bp=>?_;refine sg fun _ BM=>?_;refine sR fun _ Ca=>?_;refine pM (i_ Z) Bn (pe (.pointer (some ⟨Bo,0 + 1,none⟩)) (ae Bm) (pe u1 (ac rfl ((S.boxAt 0 rfl) 1 _ rfl)) (pe (i_ (a1.length:Int)) (aq rfl ha1) (pe (.bool (decide (Z < (a1.length:Int)))) (aF rfl rfl) (en Ca ?_)))));rcases oif F with ⟨Bw,F⟩|⟨Bw,F⟩
  ·refine ct Bw (sn BM ?_);refine sg fun _ Br=>?_;refine bg fun _ Bs=>?_;refine sg fun _ Bx=>?_;refine bD (by kernel_rfl) (by kernel_rfl) ?_;refine qe (.pointer (some ⟨Bo,0 + 1,none⟩)) (ae Bm) (qe u1 (ac rfl ((S.boxAt 0 rfl) 1 _ rfl)) (qM (i_ Z) Bn ?_));obtain ⟨BC,BO,F⟩:=ob F;refine aT (wA:=w0) rfl ha1 rfl (dt rfl) rfl BO (dt rfl) ?_;intro Cw Cq Cx BF BP;obtain ⟨Cb,rfl⟩:=au BF;refine qe Cb (ac rfl ((am S.below BP) 0 _ rfl)) (qe (i_ (BC.length:Int)) (aq rfl BF) (qe (.pointer (some ⟨Bo,0 + 0,none⟩)) (ae Bm) (qe (i_ a0) (ac rfl ((S.boxAt 0 rfl) 0 _ rfl)) (qe (.bool ((BC.length:Int) != a0)) (cv rfl rfl) (qm (.bool ((BC.length:Int) != a0)) ?_)))));rcases oif F with ⟨J,F⟩|⟨J,F⟩
   ·refine qo J (qo J (qo J (qo J (qo J (qo J (qo J (qe (.bool true) (aA rfl J rfl) (qm (.bool true) (qo rfl (qo rfl (qo rfl ?_)))))))))));refine bA rfl (dt rfl) ?_;refine bA rfl (dt rfl) ?_;refine bA rfl (dt rfl) ?_;refine bA rfl (dt rfl) ?_;refine bA rfl (dt rfl) ?_;refine bA rfl (dt rfl) ?_;refine bA rfl (dt rfl) ?_;refine bA rfl (dt rfl) ?_;refine bA rfl (dt rfl) ?_;refine bA rfl (dt rfl) ?_;refine bA rfl (dt rfl) ?_;refine bA rfl (dt rfl) ?_;refine bA rfl (dt rfl) ?_;refine qo rfl (qe (.bool true) (aA rfl rfl rfl) (a9 ?_));intro Cc BQ;replace S:=S.ext BQ;refine tn Bx (ct rfl ?_);refine sg fun _ Cd=>?_;replace S:Sat w0 Cc []:=S.rems 1 [0] rfl;refine ah (pa (.bool false) (en Cd (aj (br Bs (tr Br (tr Bp (br Bv (tr Bu ?_))))))));replace F:=exL F Bq;refine aB rfl rfl ?_;exact rB F S
   refine qi J (qe (.pointer (some ⟨Bo,0 + 1,none⟩)) (ae Bm) (qi J (qe u1 (ac rfl ((S.boxAt 0 rfl) 1 _ rfl)) (qi J (qM (i_ Z) Bn (qi J ?_))))));obtain ⟨Cy,BR,F⟩:=ob F;refine aT (wA:=w0) rfl ha1 rfl (dt rfl) rfl BR (dt rfl) ?_;intro Cz Cr CA BG BS;obtain ⟨Ce,rfl⟩:=au BG;refine qi J (qe Ce (ac rfl ((am S.below BS) 0 _ rfl)) (qi J ?_));obtain ⟨By,BT,F⟩:=ob F;refine cI (.bool By) xf (fun w' hw'=>kp (bl (S.up BG) hw') BT) (ca (ai rfl rfl)) (dt rfl) ?_;refine qi J (qe (.bool (!By)) (aZ rfl) (qe (.bool (!By)) (aC rfl J rfl) (qm (.bool (!By)) ?_)));rcases oif F with ⟨U,F⟩|⟨U,F⟩
   ·refine qi (an U) (qM (i_ Z) Bn (qi (an U) (qe (.bool (decide (0 < Z))) (bz rfl rfl) (qi (an U) (qm (.bool (decide (0 < Z))) ?_)))));rcases oif F with ⟨D,F⟩|⟨D,F⟩
    ·refine qi D (qe (.pointer (some ⟨Bo,0 + 1,none⟩)) (ae Bm) (qi D (qe u1 (ac rfl ((S.boxAt 0 rfl) 1 _ rfl)) (qi D (qM (i_ Z) Bn (qi D ?_))))));obtain ⟨Cf,BU,F⟩:=ob F;refine qe (i_ Cf) (cb rfl rfl BU) (qi D ?_);obtain ⟨CB,BV,F⟩:=ob F;refine aT (wA:=w0) rfl ha1 rfl (dt rfl) rfl BV (dt rfl) ?_;intro CC Cs CD BH BW;obtain ⟨Cg,rfl⟩:=au BH;refine qi D (qe Cg (ac rfl ((am S.below BW) 0 _ rfl)) (qi D (qe (.pointer (some ⟨Bo,0 + 1,none⟩)) (ae Bm) (qi D (qe u1 (ac rfl ((S.boxAt 0 rfl) 1 _ rfl)) (qi D (qM (i_ Z) Bn (qi D ?_))))))));obtain ⟨CE,BX,F⟩:=ob F;refine aT (wA:=w0) rfl ha1 rfl (dt rfl) rfl BX (dt rfl) ?_;intro CF Ct CG BI BY;obtain ⟨Ch,rfl⟩:=au BI;refine qi D (qe Ch (ac rfl ((am S.below BY) 0 _ rfl)) (qi D ?_));obtain ⟨Bz,BZ,F⟩:=ob F;refine cI (i_ Bz) fR (fun w' hw'=>bt (bl (S.up BH) hw') (bl (S.up BI) hw') BZ) (ca (ai rfl (ai rfl rfl))) (dt rfl) ?_;refine qi D (qe (.bool (decide (0 ≤ Bz))) (d7 rfl rfl) (qi (an U) (qe (.bool (decide (0 ≤ Bz))) (aA rfl D rfl) (qe (.bool (decide (0 ≤ Bz))) (aC rfl (an U) rfl) (a9 ?_)))));intro Ci B0;replace S:=S.ext B0;refine tn Bx ?_;rcases oif F with ⟨BA,F⟩|⟨BA,F⟩
     ·refine ct BA ?_;refine sg fun _ Cj=>?_;replace S:Sat w0 Ci []:=S.rems 1 [0] rfl;refine ah (pa (.bool false) (en Cj (aj (br Bs (tr Br (tr Bp (br Bv (tr Bu ?_))))))));replace F:=exL F Bq;refine aB rfl rfl ?_;exact rB F S
     refine cf BA (aV (bn Bs (tn Br (ah (pM (i_ Z) Bn ?_)))));obtain ⟨BD,B1,F⟩:=ob F;refine pe (i_ BD) (aE rfl rfl B1) (pa (i_ BD) (en Bp ?_));replace S:=S.keep 1;exact ⟨BD,Bm,rfl,S,F⟩
    refine qo D (qo D (qo D (qo D (qo D (qo D (qo D (qo D (qo D (qo D (qo D (qo D (qo D (qi (an U) (qe (.bool false) (aC rfl D rfl) (qe (.bool false) (aC rfl (an U) rfl) (a9 ?_))))))))))))))));intro CH B2;replace S:=S.ext B2;refine tn Bx (cf rfl (aV (bn Bs (tn Br (ah (pM (i_ Z) Bn ?_))))));obtain ⟨BE,B3,F⟩:=ob F;refine pe (i_ BE) (aE rfl rfl B3) (pa (i_ BE) (en Bp ?_));replace S:=S.keep 1;exact ⟨BE,Bm,rfl,S,F⟩
   refine qo (ap U) (qo (ap U) (qo (ap U) ?_));refine bA rfl (dt rfl) ?_;refine bA rfl (dt rfl) ?_;refine bA rfl (dt rfl) ?_;refine bA rfl (dt rfl) ?_;refine bA rfl (dt rfl) ?_;refine bA rfl (dt rfl) ?_;refine bA rfl (dt rfl) ?_;refine bA rfl (dt rfl) ?_;refine bA rfl (dt rfl) ?_;refine bA rfl (dt rfl) ?_;refine bA rfl (dt rfl) ?_;refine bA rfl (dt rfl) ?_;refine bA rfl (dt rfl) ?_;refine qo (ap U) (qe (.bool true) (aA rfl (ap U) rfl) (a9 ?_));intro Ck B4;replace S:=S.ext B4;refine tn Bx (ct rfl ?_);refine sg fun _ Cl=>?_;replace S:Sat w0 Ck []:=S.rems 1 [0] rfl;refine ah (pa (.bool false) (en Cl (aj (br Bs (tr Br (tr Bp (br Bv (tr Bu ?_))))))));replace F:=exL F Bq;refine aB rfl rfl ?_;exact rB F S
  refine cf Bw (aG (tx BM (tx Bp ?_)));replace F:=exA F Bq;refine bS Bv (tn Bu ?_);refine sg fun _ Cm=>?_;replace S:Sat w0 B9 []:=S.rems 1 [0] rfl;refine ah (pa (.bool true) (en Cm (aj (aB rfl rfl ?_))));exact rB F S
 refine eo (ap Y) (eo (ap Y) (eo (ap Y) (eo (ap Y) (pe (.bool true) (aA rfl (ap Y) rfl) (en BJ (ct rfl ?_))))));refine sg fun _ Cn=>?_;replace S:Sat w0 BL []:=S.rems 1 [0] rfl;refine ah (pa (.bool false) (en Cn (aj (tr BB (aB rfl rfl ?_)))));exact rB F S
theorem lb {w0:World} {a0:ByteArray} (_:a0.size ≤ 9223372036854775807) {N:Nat} {r:Bool} (F:f6 N a0=some r): Calls Tryz.prog 122 #[.string a0] w0 fun e w'=>e=.returned (.bool r)∧Ext w0 w' := by
 unfold f6 at F;refine aD Tryz.func122 rfl rfl (dt rfl) ?_;have S:=Sat.start w0;refine sR fun _ BC=>?_;refine pa (.bool false) (en BC ?_);refine sg fun _ Bp=>?_;refine sR fun _ BD=>?_;refine pa (i_ 0) (en BD ?_);refine bg fun _ Bq=>?_;obtain ⟨BE,hL,Z⟩:=ob F;refine aH (fun k e w=>∃ (J:Int),e 0=.string a0∧e 3=i_ J∧Sat w0 w []∧eH N k a0 J=some BE) N ?_ ?_ ?_
 ·exact ⟨0,rfl,rfl,S,hL⟩
 ·rintro e w ⟨_,_,_,_,hz⟩; exact nomatch (show none=some _ from hz)
 rintro k BL BM ⟨J,U,Y,S,F⟩;refine gn fun _ Bm=>?_;refine sg fun _ Bw=>?_;refine sR fun _ BF=>?_;refine pM (i_ J) Y (pM (.string a0) U (pe (i_ (a0.size:Int)) (lx Tryz.underlying9 rfl) (pe (.bool (decide (J < (a0.size:Int)))) (aF rfl rfl) (en BF ?_))));rcases oif F with ⟨Bn,F⟩|⟨Bn,F⟩
 ·refine ct Bn (sn Bw ?_);refine sg fun _ Br=>?_;refine bg fun _ Bs=>?_;refine sR fun _ Bx=>?_;refine pM (.string a0) U (pM (i_ J) Y ?_);obtain ⟨Bt,By,F⟩:=ob F;refine pe (.int .u8 Bt) (s9 Tryz.underlying9 rfl rfl By) (pe (.bool (decide (Bt < 97))) (aF rfl rfl) (pm (.bool (decide (Bt < 97))) ?_));rcases oif F with ⟨D,F⟩|⟨D,F⟩
  ·refine eo D (eo D (eo D (eo D (pe (.bool true) (aA rfl D rfl) (en Bx (ct rfl ?_))))));refine sR fun _ BG=>?_;refine pa (.bool false) (en BG (aj (br Bs (tr Br (tr Bm (br Bq (tr Bp ?_)))))));replace F:=exL F Z;refine aB rfl rfl ?_;exact rB F S
  refine ei D (pM (.string a0) U (ei D (pM (i_ J) Y (ei D ?_))));obtain ⟨Bu,Bz,F⟩:=ob F;refine pe (.int .u8 Bu) (s9 Tryz.underlying9 rfl rfl Bz) (ei D (pe (.bool (decide (122 < Bu))) (bz rfl rfl) (pe (.bool (decide (122 < Bu))) (aC rfl D rfl) (en Bx ?_))));rcases oif F with ⟨Bo,F⟩|⟨Bo,F⟩
  ·refine ct Bo ?_;refine sR fun _ BH=>?_;refine pa (.bool false) (en BH (aj (br Bs (tr Br (tr Bm (br Bq (tr Bp ?_)))))));replace F:=exL F Z;refine aB rfl rfl ?_;exact rB F S
  refine cf Bo (aV (bn Bs (tn Br (ah (pM (i_ J) Y ?_)))));obtain ⟨Bv,BA,F⟩:=ob F;refine pe (i_ Bv) (aE rfl rfl BA) (pa (i_ Bv) (en Bm ?_));replace S:=S.keep 0;exact ⟨Bv,U,rfl,S,F⟩
 refine cf Bn (aG (tx Bw (tx Bm ?_)));replace F:=exA F Z;refine bS Bq (tn Bp ?_);refine sR fun _ BI=>?_;refine pM (.string a0) U (pe (i_ (a0.size:Int)) (lx Tryz.underlying9 rfl) ?_);obtain ⟨BJ,BB,F⟩:=ob F;refine ec0 jw (eQ BB) (ca (ai rfl (ai rfl (ai rfl rfl)))) S fun BN BK S=>?_;refine pa (.bool BJ) (en BI (aj (aB rfl rfl ?_)));exact rB F S
theorem j9 {w0:World} {u0:Value} {a0:List T8_} (ha0:a6.rd w0 [u0] a0) {N:Nat} {r:Bool} (F:ee N a0=some r): Calls Tryz.prog 95 #[.agg #[u0]] w0 fun e w'=>e=.returned (.bool r)∧Ext w0 w' := by
 unfold ee at F;refine aD Tryz.func95 rfl rfl (dt rfl) ?_;have S:=Sat.start w0;refine sR fun _ Ci=>?_;refine aW [u0] rfl S (dt rfl) ?_;intro CJ Bw S CF;refine pa (.bool false) (en Ci ?_);refine sg fun _ Bx=>?_;refine sR fun _ Cj=>?_;refine pa (i_ 0) (en Cj ?_);refine bg fun _ By=>?_;obtain ⟨Ck,hL,Br⟩:=ob F;refine aH (fun k e w=>∃ (Bq:Int),e 1=.pointer (some ⟨Bw,0,none⟩)∧e 3=i_ Bq∧Sat w0 w [Box Bw 35 [u0]]∧b8 N k a0 Bq=some Ck) N ?_ ?_ ?_
 ·exact ⟨0,rfl,rfl,S,hL⟩
 ·rintro e w ⟨_,_,_,_,hz⟩; exact nomatch (show none=some _ from hz)
 rintro k CK CL ⟨Bq,BA,BB,S,F⟩;refine gn fun _ Bs=>?_;refine sg fun _ BM=>?_;refine sR fun _ Cl=>?_;refine pM (i_ Bq) BB (pe (.pointer (some ⟨Bw,0 + 0,none⟩)) (ae BA) (pe u0 (ac rfl ((S.boxAt 0 rfl) 0 _ rfl)) (pe (i_ (a0.length:Int)) (aq rfl ha0) (pe (.bool (decide (Bq < (a0.length:Int)))) (aF rfl rfl) (en Cl ?_)))));rcases oif F with ⟨BE,F⟩|⟨BE,F⟩
 ·refine ct BE (sn BM ?_);refine sg fun _ Bt=>?_;refine bg fun _ Bu=>?_;refine sR fun _ Cm=>?_;refine pe (.pointer (some ⟨Bw,0 + 0,none⟩)) (ae BA) (pe u0 (ac rfl ((S.boxAt 0 rfl) 0 _ rfl)) (pM (i_ Bq) BB ?_));obtain ⟨D,BP,F⟩:=ob F;refine aJ (wA:=w0) rfl ha0 rfl (dt rfl) rfl BP (dt rfl) ?_;intro CM CG CN BQ BR;obtain ⟨_,_,rfl,BS,BT⟩:=BQ;obtain ⟨rfl,BU⟩:=BS;obtain ⟨_,_,rfl,BV,BC⟩:=BT;obtain rfl:=BV;obtain ⟨Bv,rfl⟩:=au BC;refine pe (.agg #[.string D.1,i_ D.2.1,Bv]) (ay (cs:=[.string D.1,i_ D.2.1,Bv]) rfl rfl (am S.below BR)) ?_;refine aU S (dt rfl) ?_;intro CO Bp S CH;refine ax (S.top 0 rfl) rfl [.string D.1,i_ D.2.1,Bv] rfl rfl (dt rfl) (all_cons rfl (all_cons rfl (all_cons (oc BC) rfl))) ?_;intro Cn S;replace S:Sat w0 Cn [Box Bp 95 [.string D.1,i_ D.2.1,Bv],Box Bw 35 [u0]]:=S;refine en Cm ?_;refine sg fun _ Bz=>?_;refine bD (by kernel_rfl) (by kernel_rfl) ?_;refine qe (.pointer (some ⟨Bp,0 + 0,none⟩)) (ae rfl) (qe (.string D.1) (ac rfl ((S.boxAt 0 rfl) 0 _ rfl)) ?_);obtain ⟨BJ,BW,F⟩:=ob F;refine cI (.bool BJ) uS (fun w' hw'=>lb BU BW) (ca (ai rfl rfl)) (dt rfl) ?_;refine qe (.bool (!BJ)) (aZ rfl) (qm (.bool (!BJ)) ?_);rcases oif F with ⟨U,F⟩|⟨U,F⟩
  ·refine qi (an U) (qM (i_ Bq) BB (qi (an U) (qe (.bool (decide (0 < Bq))) (bz rfl rfl) (qi (an U) (qm (.bool (decide (0 < Bq))) ?_)))));rcases oif F with ⟨J,F⟩|⟨J,F⟩
   ·refine qi J (qe (.pointer (some ⟨Bw,0 + 0,none⟩)) (ae BA) (qi J (qe u0 (ac rfl ((S.boxAt 1 rfl) 0 _ rfl)) (qi J (qM (i_ Bq) BB (qi J ?_))))));obtain ⟨Co,BX,F⟩:=ob F;refine qe (i_ Co) (cb rfl rfl BX) (qi J ?_);obtain ⟨BD,BY,F⟩:=ob F;refine aT (wA:=w0) rfl ha0 rfl (dt rfl) rfl BY (dt rfl) ?_;intro Cp BZ CP B0 B1;obtain ⟨_,_,rfl,B2,B3⟩:=B0;obtain ⟨rfl,CI⟩:=B2;obtain ⟨_,_,rfl,B4,B5⟩:=B3;obtain rfl:=B4;obtain ⟨CQ,rfl⟩:=au B5;refine qi J (qe (.pointer (some ⟨Cp,BZ + 0,none⟩)) (ae rfl) (qi J (qe (.string BD.1) (ac rfl ((am S.below B1) 0 _ rfl)) (qi J (qe (.pointer (some ⟨Bp,0 + 0,none⟩)) (ae rfl) (qi J (qe (.string D.1) (ac rfl ((S.boxAt 0 rfl) 0 _ rfl)) (qi J (qe (.bool (!(ltS BD.1 D.1))) (vc rfl rfl) (qi (an U) (qe (.bool (!(ltS BD.1 D.1))) (aA rfl J rfl) (qe (.bool (!(ltS BD.1 D.1))) (aC rfl (an U) rfl) (qm (.bool (!(ltS BD.1 D.1))) ?_)))))))))))));rcases oif F with ⟨Bm,F⟩|⟨Bm,F⟩
    ·refine qi (an Bm) (qe (.pointer (some ⟨Bp,0 + 1,none⟩)) (ae rfl) (qi (an Bm) (qe (.agg #[i_ D.2.1,Bv]) (ay (cs:=[i_ D.2.1,Bv]) rfl rfl (og (S.boxAt 0 rfl) 1 2)) (qi (an Bm) ?_))));obtain ⟨BF,B6,F⟩:=ob F;refine cI (.bool BF) oP (fun w' hw'=>er (bl (S.up BC) hw') B6) (ca (ai rfl rfl)) (dt rfl) ?_;refine qi (an Bm) (qe (.bool (!BF)) (aZ rfl) (qe (.bool (!BF)) (aC rfl (an Bm) rfl) (qm (.bool (!BF)) ?_)));rcases oif F with ⟨Y,F⟩|⟨Y,F⟩
     ·refine qi (an Y) (qe (.pointer (some ⟨Bp,0 + 1,none⟩)) (ae rfl) (qi (an Y) (qe (.pointer (some ⟨Bp,0 + 1 + 1,none⟩)) (ae rfl) (qi (an Y) (qe Bv (ac rfl ((S.boxAt 0 rfl) 2 _ rfl)) (qi (an Y) (qe (i_ (D.2.2.length:Int)) (aq rfl BC) (qi (an Y) (qe (.bool (decide (16 < (D.2.2.length:Int)))) (bz rfl rfl) (qe (.bool (decide (16 < (D.2.2.length:Int)))) (aC rfl (an Y) rfl) (qm (.bool (decide (16 < (D.2.2.length:Int)))) ?_)))))))))));rcases oif F with ⟨Bn,F⟩|⟨Bn,F⟩
      ·refine qo Bn (qo Bn (qo Bn (qo Bn (qe (.bool true) (aA rfl Bn rfl) (a9 ?_)))));intro Cq B7;replace S:=S.ext B7;refine tn Bz (ct rfl ?_);refine sg fun _ Cr=>?_;replace S:Sat w0 Cq []:=S.rems 2 [0,1] rfl;refine ah (pa (.bool false) (en Cr (aj (br Bu (tr Bt (tr Bs (br By (tr Bx ?_))))))));replace F:=exL F Br;refine aB rfl rfl ?_;exact rB F S
      refine qi Bn (qe (.pointer (some ⟨Bp,0 + 1,none⟩)) (ae rfl) (qi Bn (qe (.pointer (some ⟨Bp,0 + 1 + 0,none⟩)) (ae rfl) (qi Bn (qe (i_ D.2.1) (ac rfl ((S.boxAt 0 rfl) 1 _ rfl)) (qi Bn (qe (.bool (decide (D.2.1 < 1))) (aF rfl rfl) (qe (.bool (decide (D.2.1 < 1))) (aC rfl Bn rfl) (a9 ?_)))))))));intro BN B8;replace S:=S.ext B8;refine tn Bz ?_;rcases oif F with ⟨BG,F⟩|⟨BG,F⟩
      ·refine ct BG ?_;refine sg fun _ Cs=>?_;replace S:Sat w0 BN []:=S.rems 2 [0,1] rfl;refine ah (pa (.bool false) (en Cs (aj (br Bu (tr Bt (tr Bs (br By (tr Bx ?_))))))));replace F:=exL F Br;refine aB rfl rfl ?_;exact rB F S
      refine cf BG (aV (bn Bu (tn Bt ?_)));replace S:Sat w0 BN [Box Bw 35 [u0]]:=S.rems 2 [0] rfl;refine ah (pM (i_ Bq) BB ?_);obtain ⟨BK,B9,F⟩:=ob F;refine pe (i_ BK) (aE rfl rfl B9) (pa (i_ BK) (en Bs ?_));replace S:=S.keep 1;exact ⟨BK,BA,rfl,S,F⟩
     refine qo (ap Y) (qo (ap Y) (qo (ap Y) (qo (ap Y) (qo (ap Y) (qe (.bool true) (aA rfl (ap Y) rfl) (qm (.bool true) (qo rfl (qo rfl (qo rfl (qo rfl (qe (.bool true) (aA rfl rfl rfl) (a9 ?_))))))))))));intro Ct Ca;replace S:=S.ext Ca;refine tn Bz (ct rfl ?_);refine sg fun _ Cu=>?_;replace S:Sat w0 Ct []:=S.rems 2 [0,1] rfl;refine ah (pa (.bool false) (en Cu (aj (br Bu (tr Bt (tr Bs (br By (tr Bx ?_))))))));replace F:=exL F Br;refine aB rfl rfl ?_;exact rB F S
    refine qo (ap Bm) (qo (ap Bm) (qo (ap Bm) (qo (ap Bm) (qe (.bool true) (aA rfl (ap Bm) rfl) (qm (.bool true) (qo rfl (qo rfl (qo rfl (qo rfl (qo rfl (qe (.bool true) (aA rfl rfl rfl) (qm (.bool true) (qo rfl (qo rfl (qo rfl (qo rfl (qe (.bool true) (aA rfl rfl rfl) (a9 ?_))))))))))))))))));intro Cv Cb;replace S:=S.ext Cb;refine tn Bz (ct rfl ?_);refine sg fun _ Cw=>?_;replace S:Sat w0 Cv []:=S.rems 2 [0,1] rfl;refine ah (pa (.bool false) (en Cw (aj (br Bu (tr Bt (tr Bs (br By (tr Bx ?_))))))));replace F:=exL F Br;refine aB rfl rfl ?_;exact rB F S
   refine qo J (qo J (qo J (qo J (qo J (qo J (qo J (qo J (qo J (qo J (qi (an U) (qe (.bool false) (aC rfl J rfl) (qe (.bool false) (aC rfl (an U) rfl) (qm (.bool false) (qi rfl (qe (.pointer (some ⟨Bp,0 + 1,none⟩)) (ae rfl) (qi rfl (qe (.agg #[i_ D.2.1,Bv]) (ay (cs:=[i_ D.2.1,Bv]) rfl rfl (og (S.boxAt 0 rfl) 1 2)) (qi rfl ?_))))))))))))))))));obtain ⟨BH,Cc,F⟩:=ob F;refine cI (.bool BH) oP (fun w' hw'=>er (bl (S.up BC) hw') Cc) (ca (ai rfl rfl)) (dt rfl) ?_;refine qi rfl (qe (.bool (!BH)) (aZ rfl) (qe (.bool (!BH)) (aC rfl rfl rfl) (qm (.bool (!BH)) ?_)));rcases oif F with ⟨Z,F⟩|⟨Z,F⟩
   ·refine qi (an Z) (qe (.pointer (some ⟨Bp,0 + 1,none⟩)) (ae rfl) (qi (an Z) (qe (.pointer (some ⟨Bp,0 + 1 + 1,none⟩)) (ae rfl) (qi (an Z) (qe Bv (ac rfl ((S.boxAt 0 rfl) 2 _ rfl)) (qi (an Z) (qe (i_ (D.2.2.length:Int)) (aq rfl BC) (qi (an Z) (qe (.bool (decide (16 < (D.2.2.length:Int)))) (bz rfl rfl) (qe (.bool (decide (16 < (D.2.2.length:Int)))) (aC rfl (an Z) rfl) (qm (.bool (decide (16 < (D.2.2.length:Int)))) ?_)))))))))));rcases oif F with ⟨Bo,F⟩|⟨Bo,F⟩
    ·refine qo Bo (qo Bo (qo Bo (qo Bo (qe (.bool true) (aA rfl Bo rfl) (a9 ?_)))));intro Cx Cd;replace S:=S.ext Cd;refine tn Bz (ct rfl ?_);refine sg fun _ Cy=>?_;replace S:Sat w0 Cx []:=S.rems 2 [0,1] rfl;refine ah (pa (.bool false) (en Cy (aj (br Bu (tr Bt (tr Bs (br By (tr Bx ?_))))))));replace F:=exL F Br;refine aB rfl rfl ?_;exact rB F S
    refine qi Bo (qe (.pointer (some ⟨Bp,0 + 1,none⟩)) (ae rfl) (qi Bo (qe (.pointer (some ⟨Bp,0 + 1 + 0,none⟩)) (ae rfl) (qi Bo (qe (i_ D.2.1) (ac rfl ((S.boxAt 0 rfl) 1 _ rfl)) (qi Bo (qe (.bool (decide (D.2.1 < 1))) (aF rfl rfl) (qe (.bool (decide (D.2.1 < 1))) (aC rfl Bo rfl) (a9 ?_)))))))));intro BO Ce;replace S:=S.ext Ce;refine tn Bz ?_;rcases oif F with ⟨BI,F⟩|⟨BI,F⟩
    ·refine ct BI ?_;refine sg fun _ Cz=>?_;replace S:Sat w0 BO []:=S.rems 2 [0,1] rfl;refine ah (pa (.bool false) (en Cz (aj (br Bu (tr Bt (tr Bs (br By (tr Bx ?_))))))));replace F:=exL F Br;refine aB rfl rfl ?_;exact rB F S
    refine cf BI (aV (bn Bu (tn Bt ?_)));replace S:Sat w0 BO [Box Bw 35 [u0]]:=S.rems 2 [0] rfl;refine ah (pM (i_ Bq) BB ?_);obtain ⟨BL,Cf,F⟩:=ob F;refine pe (i_ BL) (aE rfl rfl Cf) (pa (i_ BL) (en Bs ?_));replace S:=S.keep 1;exact ⟨BL,BA,rfl,S,F⟩
   refine qo (ap Z) (qo (ap Z) (qo (ap Z) (qo (ap Z) (qo (ap Z) (qe (.bool true) (aA rfl (ap Z) rfl) (qm (.bool true) (qo rfl (qo rfl (qo rfl (qo rfl (qe (.bool true) (aA rfl rfl rfl) (a9 ?_))))))))))));intro CA Cg;replace S:=S.ext Cg;refine tn Bz (ct rfl ?_);refine sg fun _ CB=>?_;replace S:Sat w0 CA []:=S.rems 2 [0,1] rfl;refine ah (pa (.bool false) (en CB (aj (br Bu (tr Bt (tr Bs (br By (tr Bx ?_))))))));replace F:=exL F Br;refine aB rfl rfl ?_;exact rB F S
  refine qo (ap U) (qo (ap U) (qo (ap U) ?_));refine bA rfl (dt rfl) ?_;refine bA rfl (dt rfl) ?_;refine bA rfl (dt rfl) ?_;refine bA rfl (dt rfl) ?_;refine bA rfl (dt rfl) ?_;refine bA rfl (dt rfl) ?_;refine bA rfl (dt rfl) ?_;refine bA rfl (dt rfl) ?_;refine bA rfl (dt rfl) ?_;refine bA rfl (dt rfl) ?_;refine qo (ap U) (qe (.bool true) (aA rfl (ap U) rfl) (qm (.bool true) (qo rfl (qo rfl (qo rfl (qo rfl (qe (.bool true) (aA rfl rfl rfl) (qm (.bool true) (qo rfl (qo rfl (qo rfl (qo rfl (qo rfl (qe (.bool true) (aA rfl rfl rfl) (qm (.bool true) (qo rfl (qo rfl (qo rfl (qo rfl (qe (.bool true) (aA rfl rfl rfl) (a9 ?_)))))))))))))))))))));intro CC Ch;replace S:=S.ext Ch;refine tn Bz (ct rfl ?_);refine sg fun _ CD=>?_;replace S:Sat w0 CC []:=S.rems 2 [0,1] rfl;refine ah (pa (.bool false) (en CD (aj (br Bu (tr Bt (tr Bs (br By (tr Bx ?_))))))));replace F:=exL F Br;refine aB rfl rfl ?_;exact rB F S
 refine cf BE (aG (tx BM (tx Bs ?_)));replace F:=exA F Br;refine bS By (tn Bx ?_);refine sR fun _ CE=>?_;refine pe (.pointer (some ⟨Bw,0 + 0,none⟩)) (ae BA) (pe u0 (ac rfl ((S.boxAt 0 rfl) 0 _ rfl)) (pe (i_ (a0.length:Int)) (aq rfl ha0) (pe (.bool (decide ((a0.length:Int) ≤ 6))) (iR rfl rfl) (pa (.bool (decide ((a0.length:Int) ≤ 6))) (en CE (aj (aB rfl rfl ?_)))))));exact rB F S
theorem iF {w0:World} {u0:Value} {a0:List T8_} {a1:ByteArray} (ha0:a6.rd w0 [u0] a0) (_:a1.size ≤ 9223372036854775807) {N:Nat} {r:T4_ × Bool} (F:eJ N a0 a1=some r): Calls Tryz.prog 93 #[.agg #[u0],.string a1] w0 fun e w'=>∃ (q0:Value),e=.returned (.tuple #[.agg #[i_ r.1.1,q0],.bool r.2])∧Sat w0 w' [Own R2_ [q0] r.1.2] := by
 unfold eJ at F;refine aD Tryz.func93 rfl rfl (dt rfl) ?_;have S:=Sat.start w0;refine sR fun _ B1=>?_;refine aW [u0] rfl S (dt rfl) ?_;intro Cj Bm S Cd;refine aU S (dt rfl) ?_;intro Ck Z S Ce;refine pa (.bool false) (en B1 ?_);refine sg fun _ Bu=>?_;refine sR fun _ B2=>?_;refine pa (i_ 0) (en B2 ?_);refine bg fun _ Bv=>?_;obtain ⟨B3,hL,Bq⟩:=ob F;refine aH (fun k e w=>∃ (D:Int),e 1=.string a1∧e 2=.pointer (some ⟨Bm,0,none⟩)∧e 4=.pointer (some ⟨Z,0,none⟩)∧e 6=i_ D∧Sat w0 w [Box Z 65 [i_ 0,n_],Box Bm 35 [u0]]∧cg N k a1 a0 0 [] D=some B3) N ?_ ?_ ?_
 ·exact ⟨0,rfl,rfl,rfl,rfl,S,hL⟩
 ·rintro e w ⟨_,_,_,_,_,_,hz⟩; exact nomatch (show none=some _ from hz)
 rintro k Cl B4 ⟨D,Bz,Bn,J,Bp,S,F⟩;refine gn fun _ Br=>?_;refine sg fun _ Bw=>?_;refine sR fun _ BB=>?_;refine pM (i_ D) Bp (pe (.pointer (some ⟨Bm,0 + 0,none⟩)) (ae Bn) (pe u0 (ac rfl ((S.boxAt 1 rfl) 0 _ rfl)) (pe (i_ (a0.length:Int)) (aq rfl ha0) (pe (.bool (decide (D < (a0.length:Int)))) (aF rfl rfl) (pm (.bool (decide (D < (a0.length:Int)))) ?_)))));rcases oif F with ⟨U,F⟩|⟨U,F⟩
 ·refine ei U (pe (.agg #[u0]) (ay (cs:=[u0]) Bn rfl (aK (S.boxAt 1 rfl))) (ei U ?_));obtain ⟨B5,BJ,F⟩:=ob F;refine ec0 wM (j9 (S.up ha0) BJ) (ca (ai rfl rfl)) S fun B6 Cf S=>?_;refine pe (.bool B5) (aA rfl U rfl) (en BB ?_);rcases oif F with ⟨Bs,F⟩|⟨Bs,F⟩
  ·refine ct Bs (sn Bw ?_);refine sg fun _ BC=>?_;refine bg fun _ BD=>?_;refine sR fun _ B7=>?_;refine pe (.pointer (some ⟨Bm,0 + 0,none⟩)) (ae Bn) (pe u0 (ac rfl ((S.boxAt 1 rfl) 0 _ rfl)) (pM (i_ D) Bp ?_));obtain ⟨BE,BK,F⟩:=ob F;refine aJ (wA:=w0) rfl ha0 rfl (dt rfl) rfl BK (dt rfl) ?_;intro B8 BL Cm BM BN;obtain ⟨_,_,rfl,BO,BP⟩:=BM;obtain ⟨rfl,Cg⟩:=BO;obtain ⟨_,_,rfl,BQ,BR⟩:=BP;obtain rfl:=BQ;obtain ⟨Cn,rfl⟩:=au BR;refine pe (.pointer (some ⟨B8,BL + 0,none⟩)) (ae rfl) (pe (.string BE.1) (ac rfl ((am S.below BN) 0 _ rfl)) (pM (.string a1) Bz (pe (.bool (eqS BE.1 a1)) (uQ rfl rfl) (en B7 ?_))));rcases oif F with ⟨Bt,F⟩|⟨Bt,F⟩
   ·refine ct Bt ?_;refine sR fun _ B9=>?_;refine pe (.pointer (some ⟨Bm,0 + 0,none⟩)) (ae Bn) (pe u0 (ac rfl ((S.boxAt 1 rfl) 0 _ rfl)) (pM (i_ D) Bp ?_));obtain ⟨BF,BS,F⟩:=ob F;refine aJ (wA:=w0) rfl ha0 rfl (dt rfl) rfl BS (dt rfl) ?_;intro Ca BT Co BU BV;obtain ⟨_,_,rfl,BW,BX⟩:=BU;obtain ⟨rfl,Ch⟩:=BW;obtain ⟨_,_,rfl,BY,BA⟩:=BX;obtain rfl:=BY;obtain ⟨BG,rfl⟩:=au BA;refine pe (.pointer (some ⟨Ca,BT + 1,none⟩)) (ae rfl) (pe (.agg #[i_ BF.2.1,BG]) (ay (cs:=[i_ BF.2.1,BG]) rfl rfl (wT (am S.below BV) 1 2)) ?_);obtain ⟨Bo,BZ,F⟩:=ob F;refine ec1 v9 (nI (S.up BA) BZ) (ca (ai rfl rfl)) S fun Cp Y Ci S=>?_;refine ax (S.top 1 rfl) J [i_ Bo.1,Y] rfl rfl (dt rfl) (all_cons rfl (all_cons (oc (S.rdAt (R:=R2_) 0 rfl)) rfl)) ?_;intro Bx S;replace S:Sat w0 Bx [Box Z 65 [i_ Bo.1,Y],Own R2_ [Y] Bo.2,Box Bm 35 [u0]]:=S;refine pa (.bool true) (en B9 (aj (br BD (tr BC (tr Br (br Bv (tr Bu ?_)))))));replace F:=exL F Bq;refine dp (cs:=[i_ Bo.1,Y]) rfl J rfl (aK (S.boxAt 0 rfl)) rfl ?_;replace S:Sat w0 Bx [Own R2_ [Y] Bo.2,Box Z 65 [i_ Bo.1,Y],Box Bm 35 [u0]]:=S.tops 3 [1] rfl;have hr:=Option.some.inj F;exact ⟨Y,congrArg (fun (r:T4_ × Bool)=>Ending.returned (.tuple #[.agg #[i_ r.1.1,Y],.bool r.2])) hr,Eq.mp (congrArg (fun (r:T4_ × Bool)=>Sat w0 Bx [Own R2_ [Y] r.1.2]) hr) (S.keep 1)⟩
   refine cf Bt (aV (bn BD (tn BC (ah (pM (i_ D) Bp ?_)))));obtain ⟨By,B0,F⟩:=ob F;refine pe (i_ By) (aE rfl rfl B0) (pa (i_ By) (en Br ?_));replace S:=S.keep 2;exact ⟨By,Bz,Bn,J,rfl,S,F⟩
  refine cf Bs (aG (tx Bw (tx Br ?_)));replace F:=exA F Bq;refine bS Bv (tn Bu ?_);refine sg fun _ Cb=>?_;replace S:Sat w0 B6 [Box Z 65 [i_ 0,n_]]:=S.rems 2 [1] rfl;refine ah (pe (.agg #[i_ 0,n_]) (bo [] [i_ 0,n_] rfl rfl) ?_);refine ax (S.top 0 rfl) J [i_ 0,n_] rfl rfl (dt rfl) (all_cons rfl (all_cons rfl rfl)) ?_;intro BH S;replace S:Sat w0 BH [Box Z 65 [i_ 0,n_]]:=S;refine pa (.bool false) (en Cb (aj ?_));replace S:=S.nil R0_ 26;refine dp (cs:=[i_ 0,n_]) rfl J rfl (aK (S.boxAt 1 rfl)) rfl ?_;have hr:=Option.some.inj F;exact ⟨n_,congrArg (fun (r:T4_ × Bool)=>Ending.returned (.tuple #[.agg #[i_ r.1.1,n_],.bool r.2])) hr,Eq.mp (congrArg (fun (r:T4_ × Bool)=>Sat w0 BH [Own R2_ [n_] r.1.2]) hr) (S.keep 1)⟩
 refine eo U (eo U (pe (.bool false) (aC rfl U rfl) (en BB (cf rfl (aG (tx Bw (tx Br ?_)))))));replace F:=exA F Bq;refine bS Bv (tn Bu ?_);refine sg fun _ Cc=>?_;replace S:Sat w0 B4 [Box Z 65 [i_ 0,n_]]:=S.rems 2 [1] rfl;refine ah (pe (.agg #[i_ 0,n_]) (bo [] [i_ 0,n_] rfl rfl) ?_);refine ax (S.top 0 rfl) J [i_ 0,n_] rfl rfl (dt rfl) (all_cons rfl (all_cons rfl rfl)) ?_;intro BI S;replace S:Sat w0 BI [Box Z 65 [i_ 0,n_]]:=S;refine pa (.bool false) (en Cc (aj ?_));replace S:=S.nil R0_ 26;refine dp (cs:=[i_ 0,n_]) rfl J rfl (aK (S.boxAt 1 rfl)) rfl ?_;have hr:=Option.some.inj F;exact ⟨n_,congrArg (fun (r:T4_ × Bool)=>Ending.returned (.tuple #[.agg #[i_ r.1.1,n_],.bool r.2])) hr,Eq.mp (congrArg (fun (r:T4_ × Bool)=>Sat w0 BI [Own R2_ [n_] r.1.2]) hr) (S.keep 1)⟩
theorem gI {w0:World} {u0:Value} {a0:List Int} {a1:Int} (ha0:R0_.rd w0 [u0] a0) {N:Nat} {r:Int} (F:fj N a0 a1=some r): Calls Tryz.prog 99 #[u0,i_ a1] w0 fun e w'=>e=.returned (i_ r)∧Ext w0 w' := by
 unfold fj at F;refine aD Tryz.func99 rfl rfl (dt rfl) ?_;have S:=Sat.start w0;refine sR fun _ BA=>?_;refine pa (i_ 0) (en BA ?_);refine sg fun _ Bq=>?_;refine sR fun _ BB=>?_;refine pa (i_ 0) (en BB ?_);refine bg fun _ Br=>?_;obtain ⟨BC,hL,Bo⟩:=ob F;refine aH (fun k e w=>∃ (D:Int),e 0=u0∧e 1=i_ a1∧e 5=i_ D∧Sat w0 w []∧iQ N k a0 a1 D=some BC) N ?_ ?_ ?_
 ·exact ⟨0,rfl,rfl,rfl,S,hL⟩
 ·rintro e w ⟨_,_,_,_,_,hz⟩; exact nomatch (show none=some _ from hz)
 rintro k BI BJ ⟨D,U,Bp,J,S,F⟩;refine gn fun _ Bm=>?_;refine sg fun _ Bs=>?_;refine sR fun _ BD=>?_;refine pM (i_ D) J (pM u0 U (pe (i_ (a0.length:Int)) (aq rfl ha0) (pe (.bool (decide (D < (a0.length:Int)))) (aF rfl rfl) (en BD ?_))));rcases oif F with ⟨Y,F⟩|⟨Y,F⟩
 ·refine ct Y (sn Bs ?_);refine sg fun _ Bt=>?_;refine bg fun _ Bu=>?_;refine sR fun _ BE=>?_;refine pM u0 U (pM (i_ D) J ?_);obtain ⟨Bv,Bw,F⟩:=ob F;refine aJ (wA:=w0) rfl ha0 rfl (dt rfl) rfl Bw (dt rfl) ?_;intro BK BH BL Bx By;obtain rfl:=Bx;refine pe (i_ Bv) (ac rfl ((am S.below By) 0 _ rfl)) (pM (i_ a1) Bp (pe (.bool (Bv == a1)) (bG rfl rfl) (en BE ?_)));rcases oif F with ⟨Z,F⟩|⟨Z,F⟩
  ·refine ct Z ?_;refine sR fun _ BF=>?_;refine pM (i_ D) J (pa (i_ D) (en BF (aj (br Bu (tr Bt (tr Bm (br Br (tr Bq ?_))))))));replace F:=exL F Bo;refine aB rfl rfl ?_;exact rI F S
  refine cf Z (aV (bn Bu (tn Bt (ah (pM (i_ D) J ?_)))));obtain ⟨Bn,Bz,F⟩:=ob F;refine pe (i_ Bn) (aE rfl rfl Bz) (pa (i_ Bn) (en Bm ?_));replace S:=S.keep 0;exact ⟨Bn,U,Bp,rfl,S,F⟩
 refine cf Y (aG (tx Bs (tx Bm ?_)));replace F:=exA F Bo;refine bS Br (tn Bq ?_);refine sR fun _ BG=>?_;refine pa (i_ (-1)) (en BG (aj (aB rfl rfl ?_)));exact rI F S
theorem fw {w0:World} {a0:ByteArray} {u1:Value} {a1:List Int} {a2:Int} (_:a0.size ≤ 9223372036854775807) (ha1:R0_.rd w0 [u1] a1) {N:Nat} {r:Bool} (F:da N a0 a1 a2=some r): Calls Tryz.prog 123 #[.agg #[.string a0,u1],i_ a2] w0 fun e w'=>e=.returned (.bool r)∧Ext w0 w' := by
 unfold da at F;refine aD Tryz.func123 rfl rfl (dt rfl) ?_;have S:=Sat.start w0;refine sR fun _ BC=>?_;refine aW [.string a0,u1] rfl S (dt rfl) ?_;intro BL J S BJ;refine pa (.bool false) (en BC ?_);refine sg fun _ Br=>?_;refine sR fun _ BD=>?_;refine pa (i_ 0) (en BD ?_);refine bg fun _ Bs=>?_;obtain ⟨BE,hL,Bp⟩:=ob F;refine aH (fun k e w=>∃ (D:Int),e 1=i_ a2∧e 2=.pointer (some ⟨J,0,none⟩)∧e 5=i_ D∧Sat w0 w [Box J 97 [.string a0,u1]]∧ci N k a2 a0 a1 D=some BE) N ?_ ?_ ?_
 ·exact ⟨0,rfl,rfl,rfl,S,hL⟩
 ·rintro e w ⟨_,_,_,_,_,hz⟩; exact nomatch (show none=some _ from hz)
 rintro k BM Bt ⟨D,Bq,U,Y,S,F⟩;refine gn fun _ Bn=>?_;refine sg fun _ Bu=>?_;refine sR fun _ BF=>?_;refine pM (i_ D) Y (pe (.pointer (some ⟨J,0 + 1,none⟩)) (ae U) (pe u1 (ac rfl ((S.boxAt 0 rfl) 1 _ rfl)) (pe (i_ (a1.length:Int)) (aq rfl ha1) (pe (.bool (decide (D < (a1.length:Int)))) (aF rfl rfl) (en BF ?_)))));rcases oif F with ⟨Z,F⟩|⟨Z,F⟩
 ·refine ct Z (sn Bu ?_);refine sg fun _ Bv=>?_;refine bg fun _ Bw=>?_;refine sR fun _ BG=>?_;refine pe (.pointer (some ⟨J,0 + 1,none⟩)) (ae U) (pe u1 (ac rfl ((S.boxAt 0 rfl) 1 _ rfl)) (pM (i_ D) Y ?_));obtain ⟨Bx,By,F⟩:=ob F;refine aJ (wA:=w0) rfl ha1 rfl (dt rfl) rfl By (dt rfl) ?_;intro BN BK BO Bz BA;obtain rfl:=Bz;refine pe (i_ Bx) (ac rfl ((am S.below BA) 0 _ rfl)) (pM (i_ a2) Bq (pe (.bool (Bx == a2)) (bG rfl rfl) (en BG ?_)));rcases oif F with ⟨Bm,F⟩|⟨Bm,F⟩
  ·refine ct Bm ?_;refine sg fun _ BH=>?_;replace S:Sat w0 Bt []:=S.rems 1 [0] rfl;refine ah (pa (.bool true) (en BH (aj (br Bw (tr Bv (tr Bn (br Bs (tr Br ?_))))))));replace F:=exL F Bp;refine aB rfl rfl ?_;exact rB F S
  refine cf Bm (aV (bn Bw (tn Bv (ah (pM (i_ D) Y ?_)))));obtain ⟨Bo,BB,F⟩:=ob F;refine pe (i_ Bo) (aE rfl rfl BB) (pa (i_ Bo) (en Bn ?_));replace S:=S.keep 1;exact ⟨Bo,Bq,U,rfl,S,F⟩
 refine cf Z (aG (tx Bu (tx Bn ?_)));replace F:=exA F Bp;refine bS Bs (tn Br ?_);refine sg fun _ BI=>?_;replace S:Sat w0 Bt []:=S.rems 1 [0] rfl;refine ah (pa (.bool false) (en BI (aj (aB rfl rfl ?_))));exact rB F S
theorem je {w0:World} {a0:Int} {u1:Value} {a1:List T3_} {u2:Value} {a2:List Int} (ha1:R7_.rd w0 [u1] a1) (ha2:R0_.rd w0 [u2] a2) {N:Nat} {r:Bool} (F:eu N a0 a1 a2=some r): Calls Tryz.prog 94 #[.agg #[i_ a0,u1,u2]] w0 fun e w'=>e=.returned (.bool r)∧Ext w0 w' := by
 unfold eu at F;refine aD Tryz.func94 rfl rfl (dt rfl) ?_;have S:=Sat.start w0;refine sR fun _ DJ=>?_;refine aW [i_ a0,u1,u2] rfl S (dt rfl) ?_;intro EP J S EB;refine pa (.bool false) (en DJ ?_);refine sg fun _ BE=>?_;refine sR fun _ BX=>?_;refine pe (.pointer (some ⟨J,0 + 0,none⟩)) (ae rfl) (pe (i_ a0) (ac rfl ((S.boxAt 0 rfl) 0 _ rfl)) ?_);obtain ⟨Co,CM,F⟩:=ob F;refine ec0 jw (eQ CM) (ca (ai rfl (ai rfl (ai rfl rfl)))) S fun DK EC S=>?_;refine pe (.bool (!Co)) (aZ rfl) (pm (.bool (!Co)) ?_);rcases oif F with ⟨Bm,F⟩|⟨Bm,F⟩
 ·refine ei (an Bm) (pe (.pointer (some ⟨J,0 + 1,none⟩)) (ae rfl) (ei (an Bm) (pe u1 (ac rfl ((S.boxAt 0 rfl) 1 _ rfl)) (ei (an Bm) (pe (i_ (a1.length:Int)) (aq rfl ha1) (ei (an Bm) ?_))))));obtain ⟨BY,CN,F⟩:=ob F;refine ec0 jw (eQ CN) (ca (ai rfl (ai rfl (ai rfl rfl)))) S fun Cp ED S=>?_;refine ei (an Bm) (pe (.bool (!BY)) (aZ rfl) (pe (.bool (!BY)) (aC rfl (an Bm) rfl) (pm (.bool (!BY)) ?_)));rcases oif F with ⟨Z,F⟩|⟨Z,F⟩
  ·refine ei (an Z) (pe (.pointer (some ⟨J,0 + 2,none⟩)) (ae rfl) (ei (an Z) (pe u2 (ac rfl ((S.boxAt 0 rfl) 2 _ rfl)) (ei (an Z) (pe (i_ (a2.length:Int)) (aq rfl ha2) (ei (an Z) (pe (.pointer (some ⟨J,0 + 0,none⟩)) (ae rfl) (ei (an Z) (pe (i_ a0) (ac rfl ((S.boxAt 0 rfl) 0 _ rfl)) (ei (an Z) (pe (.bool (decide (a0 < (a2.length:Int)))) (bz rfl rfl) (pe (.bool (decide (a0 < (a2.length:Int)))) (aC rfl (an Z) rfl) (en BX ?_)))))))))))));rcases oif F with ⟨BF,F⟩|⟨BF,F⟩
   ·refine ct BF ?_;refine sg fun _ DL=>?_;replace S:Sat w0 Cp []:=S.rems 1 [0] rfl;refine ah (pa (.bool false) (en DL (aj (tr BE (aB rfl rfl ?_)))));exact rB F S
   refine cf BF (sn BE ?_);refine sg fun _ BG=>?_;refine sR fun _ DM=>?_;refine pa (i_ 0) (en DM ?_);refine bg fun _ BH=>?_;obtain ⟨DN,hL,By⟩:=ob F;refine aH (fun k e w=>∃ (Bn:Int),e 1=.pointer (some ⟨J,0,none⟩)∧e 3=i_ Bn∧Sat w0 w [Box J 39 [i_ a0,u1,u2]]∧cO N k a0 a1 a2 Bn=some DN) N ?_ ?_ ?_
   ·exact ⟨0,rfl,rfl,S,hL⟩
   ·rintro e w ⟨_,_,_,_,hz⟩; exact nomatch (show none=some _ from hz)
   rintro k EQ ER ⟨Bn,Bu,Bz,S,F⟩;refine gn fun _ BD=>?_;refine sg fun _ Cq=>?_;refine sR fun _ DO=>?_;refine pM (i_ Bn) Bz (pe (.pointer (some ⟨J,0 + 1,none⟩)) (ae Bu) (pe u1 (ac rfl ((S.boxAt 0 rfl) 1 _ rfl)) (pe (i_ (a1.length:Int)) (aq rfl ha1) (pe (.bool (decide (Bn < (a1.length:Int)))) (aF rfl rfl) (en DO ?_)))));rcases oif F with ⟨BI,F⟩|⟨BI,F⟩
   ·refine ct BI (sn Cq ?_);refine sg fun _ BJ=>?_;refine bg fun _ BK=>?_;refine sg fun _ BZ=>?_;refine sR fun _ Cr=>?_;refine pe (.pointer (some ⟨J,0 + 1,none⟩)) (ae Bu) (pe u1 (ac rfl ((S.boxAt 0 rfl) 1 _ rfl)) (pM (i_ Bn) Bz ?_));obtain ⟨DP,CO,F⟩:=ob F;refine aJ (wA:=w0) rfl ha1 rfl (dt rfl) rfl CO (dt rfl) ?_;intro DQ CP ES CQ CR;obtain ⟨_,_,rfl,CS,CT⟩:=CQ;obtain ⟨rfl,CU⟩:=CS;obtain ⟨ET,rfl⟩:=au CT;refine pe (.pointer (some ⟨DQ,CP + 0,none⟩)) (ae rfl) (pe (.string DP.1) (ac rfl ((am S.below CR) 0 _ rfl)) ?_);obtain ⟨Cs,CV,F⟩:=ob F;refine ec0 uS (lb CU CV) (ca (ai rfl rfl)) S fun DR EE S=>?_;refine pe (.bool (!Cs)) (aZ rfl) (pm (.bool (!Cs)) ?_);rcases oif F with ⟨U,F⟩|⟨U,F⟩
    ·refine ei (an U) (pe (.pointer (some ⟨J,0 + 1,none⟩)) (ae Bu) (ei (an U) (pe u1 (ac rfl ((S.boxAt 0 rfl) 1 _ rfl)) (ei (an U) (pM (i_ Bn) Bz (ei (an U) ?_))))));obtain ⟨DS,CX,F⟩:=ob F;refine aJ (wA:=w0) rfl ha1 rfl (dt rfl) rfl CX (dt rfl) ?_;intro DT CY EU CZ C0;obtain ⟨_,_,rfl,C1,Cg⟩:=CZ;obtain ⟨rfl,EF⟩:=C1;obtain ⟨DU,rfl⟩:=au Cg;refine ei (an U) (pe (.pointer (some ⟨DT,CY + 1,none⟩)) (ae rfl) (ei (an U) (pe DU (ac rfl ((am S.below C0) 1 _ rfl)) (ei (an U) (pe (i_ (DS.2.length:Int)) (aq rfl Cg) (ei (an U) ?_))))));obtain ⟨Ct,C2,F⟩:=ob F;refine ec0 jw (eQ C2) (ca (ai rfl (ai rfl (ai rfl rfl)))) S fun DV EG S=>?_;refine ei (an U) (pe (.bool (!Ct)) (aZ rfl) (pe (.bool (!Ct)) (aC rfl (an U) rfl) (en Cr ?_)));rcases oif F with ⟨BL,F⟩|⟨BL,F⟩
     ·refine cf (an BL) (sn BZ ?_);refine sR fun _ DW=>?_;refine pa (i_ 0) (en DW ?_);refine bg fun _ Cu=>?_;obtain ⟨DX,hL,Ch⟩:=ob F;refine aH (fun k e w=>∃ (Bs:Int),e 1=.pointer (some ⟨J,0,none⟩)∧e 3=i_ Bn∧e 4=i_ Bs∧Sat w0 w [Box J 39 [i_ a0,u1,u2]]∧cQ N k a0 a1 a2 Bn Bs=some DX) N ?_ ?_ ?_
      ·exact ⟨0,Bu,Bz,rfl,S,hL⟩
      ·rintro e w ⟨_,_,_,_,_,hz⟩; exact nomatch (show none=some _ from hz)
      rintro k EV EW ⟨Bs,Bv,BA,BM,S,F⟩;refine gn fun _ B0=>?_;refine sg fun _ Cv=>?_;refine sR fun _ DY=>?_;refine pM (i_ Bs) BM (pe (.pointer (some ⟨J,0 + 1,none⟩)) (ae Bv) (pe u1 (ac rfl ((S.boxAt 0 rfl) 1 _ rfl)) (pM (i_ Bn) BA ?_)));obtain ⟨Cw,C3,F⟩:=ob F;refine aJ (wA:=w0) rfl ha1 rfl (dt rfl) rfl C3 (dt rfl) ?_;intro DZ C4 EX C5 C6;obtain ⟨_,_,rfl,C7,Ci⟩:=C5;obtain ⟨rfl,EH⟩:=C7;obtain ⟨D0,rfl⟩:=au Ci;refine pe (.pointer (some ⟨DZ,C4 + 1,none⟩)) (ae rfl) (pe D0 (ac rfl ((am S.below C6) 1 _ rfl)) (pe (i_ (Cw.2.length:Int)) (aq rfl Ci) (pe (.bool (decide (Bs < (Cw.2.length:Int)))) (aF rfl rfl) (en DY ?_))));rcases oif F with ⟨BN,F⟩|⟨BN,F⟩
      ·refine ct BN (sn Cv ?_);refine sg fun _ Cx=>?_;refine bg fun _ Cy=>?_;refine sg fun _ D1=>?_;refine bD (by kernel_rfl) (by kernel_rfl) ?_;refine qe (.pointer (some ⟨J,0 + 1,none⟩)) (ae Bv) (qe u1 (ac rfl ((S.boxAt 0 rfl) 1 _ rfl)) (qM (i_ Bn) BA ?_));obtain ⟨EY,C8,F⟩:=ob F;refine aT (wA:=w0) rfl ha1 rfl (dt rfl) rfl C8 (dt rfl) ?_;intro D2 C9 EZ Da Db;obtain ⟨_,_,rfl,Dc,Cj⟩:=Da;obtain ⟨rfl,EI⟩:=Dc;obtain ⟨D3,rfl⟩:=au Cj;refine qe (.pointer (some ⟨D2,C9 + 1,none⟩)) (ae rfl) (qe D3 (ac rfl ((am S.below Db) 1 _ rfl)) (qM (i_ Bs) BM ?_));obtain ⟨D4,Dd,F⟩:=ob F;refine aT (wA:=w0) rfl Cj rfl (dt rfl) rfl Dd (dt rfl) ?_;intro E0 EJ E1 De Df;obtain rfl:=De;refine qe (i_ D4) (ac rfl ((am S.below Df) 0 _ rfl)) (qe (.pointer (some ⟨J,0 + 0,none⟩)) (ae Bv) (qe (i_ a0) (ac rfl ((S.boxAt 0 rfl) 0 _ rfl)) ?_));obtain ⟨D5,Dg,F⟩:=ob F;refine qe (i_ D5) (cb rfl rfl Dg) ?_;obtain ⟨Cz,Dh,F⟩:=ob F;refine cI (.bool Cz) jw (fun w' hw'=>eQ Dh) (ca (ai rfl (ai rfl (ai rfl rfl)))) (dt rfl) ?_;refine qe (.bool (!Cz)) (aZ rfl) (a9 ?_);intro D6 Di;replace S:=S.ext Di;refine tn D1 ?_;rcases oif F with ⟨BO,F⟩|⟨BO,F⟩
       ·refine cf (an BO) (aV (bn Cy (tn Cx (ah (pM (i_ Bs) BM ?_)))));obtain ⟨B1,Dj,F⟩:=ob F;refine pe (i_ B1) (aE rfl rfl Dj) (pa (i_ B1) (en B0 ?_));replace S:=S.keep 1;exact ⟨B1,Bv,BA,rfl,S,F⟩
       refine ct (ap BO) ?_;refine sg fun _ D7=>?_;replace S:Sat w0 D6 []:=S.rems 1 [0] rfl;refine ah (pa (.bool false) (en D7 (aj (br Cy (tr Cx (tr B0 (br Cu (br BK (tr BJ (tr BD (br BH (tr BG ?_))))))))))));replace F:=exL F Ch;replace F:=exL F By;refine aB rfl rfl ?_;exact rB F S
      refine cf BN (aG (tx Cv (tx B0 ?_)));replace F:=exA F Ch;refine bS Cu (bn BK (tn BJ (ah (pM (i_ Bn) BA ?_))));obtain ⟨B2,Dk,F⟩:=ob F;refine pe (i_ B2) (aE rfl rfl Dk) (pa (i_ B2) (en BD ?_));replace S:=S.keep 1;exact ⟨B2,Bv,rfl,S,F⟩
     refine ct (ap BL) ?_;refine sg fun _ D8=>?_;replace S:Sat w0 DV []:=S.rems 1 [0] rfl;refine ah (pa (.bool false) (en D8 (aj (tr BZ (br BK (tr BJ (tr BD (br BH (tr BG ?_)))))))));replace F:=exL F By;refine aB rfl rfl ?_;exact rB F S
    refine eo (ap U) (eo (ap U) (eo (ap U) (eo (ap U) (eo (ap U) (eo (ap U) (eo (ap U) (eo (ap U) (eo (ap U) (pe (.bool true) (aA rfl (ap U) rfl) (en Cr (ct rfl ?_)))))))))));refine sg fun _ D9=>?_;replace S:Sat w0 DR []:=S.rems 1 [0] rfl;refine ah (pa (.bool false) (en D9 (aj (tr BZ (br BK (tr BJ (tr BD (br BH (tr BG ?_)))))))));replace F:=exL F By;refine aB rfl rfl ?_;exact rB F S
   refine cf BI (aG (tx Cq (tx BD ?_)));replace F:=exA F By;refine bS BH (tn BG ?_);refine sg fun _ CA=>?_;refine sR fun _ Ea=>?_;refine pa (i_ 0) (en Ea ?_);refine bg fun _ CB=>?_;obtain ⟨Eb,hL,Ck⟩:=ob F;refine aH (fun k e w=>∃ (Bo:Int),e 1=.pointer (some ⟨J,0,none⟩)∧e 5=i_ Bo∧Sat w0 w [Box J 39 [i_ a0,u1,u2]]∧cX N k a0 a1 a2 Bo=some Eb) N ?_ ?_ ?_
   ·exact ⟨0,Bu,rfl,S,hL⟩
   ·rintro e w ⟨_,_,_,_,hz⟩; exact nomatch (show none=some _ from hz)
   rintro k E2 E3 ⟨Bo,BP,Cl,S,F⟩;refine gn fun _ B3=>?_;refine sg fun _ CC=>?_;refine sR fun _ Ec=>?_;refine pM (i_ Bo) Cl (pe (.pointer (some ⟨J,0 + 0,none⟩)) (ae BP) (pe (i_ a0) (ac rfl ((S.boxAt 0 rfl) 0 _ rfl)) (pe (.bool (decide (Bo < a0))) (aF rfl rfl) (en Ec ?_))));rcases oif F with ⟨BQ,F⟩|⟨BQ,F⟩
   ·refine ct BQ (sn CC ?_);refine sg fun _ CD=>?_;refine bg fun _ CE=>?_;refine sR fun _ Ed=>?_;refine pa (.bool false) (en Ed ?_);refine sg fun _ Ee=>?_;refine sR fun _ Ef=>?_;refine pa (i_ 0) (en Ef ?_);refine bg fun _ Eg=>?_;obtain ⟨Eh,hL,Dl⟩:=ob F;refine aH (fun k e w=>∃ (Bt:Bool),∃ (Bq:Int),e 1=.pointer (some ⟨J,0,none⟩)∧e 5=i_ Bo∧e 6=.bool Bt∧e 7=i_ Bq∧Sat w0 w [Box J 39 [i_ a0,u1,u2]]∧cB N k a0 a1 a2 Bo Bt Bq=some Eh) N ?_ ?_ ?_
    ·exact ⟨false,0,BP,Cl,rfl,rfl,S,hL⟩
    ·rintro e w ⟨_,_,_,_,_,_,_,hz⟩; exact nomatch (show none=some _ from hz)
    rintro k E4 Ei ⟨Bt,Bq,Bw,BB,Cm,BC,S,F⟩;refine gn fun _ B4=>?_;refine sg fun _ CF=>?_;refine sR fun _ Ej=>?_;refine pM (i_ Bq) BC (pe (.pointer (some ⟨J,0 + 1,none⟩)) (ae Bw) (pe u1 (ac rfl ((S.boxAt 0 rfl) 1 _ rfl)) (pe (i_ (a1.length:Int)) (aq rfl ha1) (pe (.bool (decide (Bq < (a1.length:Int)))) (aF rfl rfl) (en Ej ?_)))));rcases oif F with ⟨BR,F⟩|⟨BR,F⟩
    ·refine ct BR (sn CF ?_);refine sg fun _ CG=>?_;refine bg fun _ CH=>?_;refine ah (pM (.bool Bt) Cm (pm (.bool Bt) ?_));rcases oif F with ⟨Y,F⟩|⟨Y,F⟩
     ·refine eo Y (eo Y (eo Y (eo Y (eo Y (eo Y (eo Y (pe (.bool true) (aA rfl Y rfl) (pa (.bool true) (ag (bn CH (tn CG (ah (pM (i_ Bq) BC ?_)))))))))))));obtain ⟨B5,Dm,F⟩:=ob F;refine pe (i_ B5) (aE rfl rfl Dm) (pa (i_ B5) (en B4 ?_));replace S:=S.keep 1;exact ⟨true,B5,Bw,BB,rfl,rfl,S,F⟩
     refine ei Y (pe (.pointer (some ⟨J,0 + 1,none⟩)) (ae Bw) (ei Y (pe u1 (ac rfl ((S.boxAt 0 rfl) 1 _ rfl)) (ei Y (pM (i_ Bq) BC (ei Y ?_))))));obtain ⟨CI,Dn,F⟩:=ob F;refine aJ (wA:=w0) rfl ha1 rfl (dt rfl) rfl Dn (dt rfl) ?_;intro E5 EK E6 Do Dp;obtain ⟨_,_,rfl,Dq,Cn⟩:=Do;obtain ⟨rfl,Dr⟩:=Dq;obtain ⟨CJ,rfl⟩:=au Cn;refine ei Y (pe (.agg #[.string CI.1,CJ]) (ay (cs:=[.string CI.1,CJ]) rfl rfl (am S.below Dp)) (ei Y (pM (i_ Bo) BB (ei Y ?_))));obtain ⟨B6,Ds,F⟩:=ob F;refine ec0 pB (fw Dr (S.up Cn) Ds) (ca (ai rfl (ai rfl rfl))) S fun E7 EM S=>?_;refine pe (.bool B6) (aC rfl Y rfl) (pa (.bool B6) (ag (bn CH (tn CG (ah (pM (i_ Bq) BC ?_))))));obtain ⟨B7,Dt,F⟩:=ob F;refine pe (i_ B7) (aE rfl rfl Dt) (pa (i_ B7) (en B4 ?_));replace S:=S.keep 1;exact ⟨B6,B7,Bw,BB,rfl,rfl,S,F⟩
    refine cf BR (aG (tx CF (tx B4 ?_)));replace F:=exB F Dl;refine bS Eg (tn Ee ?_);refine sR fun _ Ek=>?_;refine pM (.bool Bt) Cm (pe (.bool (!Bt)) (aZ rfl) (en Ek ?_));rcases oif F with ⟨BS,F⟩|⟨BS,F⟩
    ·refine cf (an BS) (aV (bn CE (tn CD (ah (pM (i_ Bo) BB ?_)))));obtain ⟨B8,Du,F⟩:=ob F;refine pe (i_ B8) (aE rfl rfl Du) (pa (i_ B8) (en B3 ?_));replace S:=S.keep 1;exact ⟨B8,Bw,rfl,S,F⟩
    refine ct (ap BS) ?_;refine sg fun _ El=>?_;replace S:Sat w0 Ei []:=S.rems 1 [0] rfl;refine ah (pa (.bool false) (en El (aj (br CE (tr CD (tr B3 (br CB (tr CA ?_))))))));replace F:=exL F Ck;refine aB rfl rfl ?_;exact rB F S
   refine cf BQ (aG (tx CC (tx B3 ?_)));replace F:=exA F Ck;refine bS CB (tn CA ?_);refine sg fun _ B9=>?_;refine sR fun _ Em=>?_;refine pa (i_ 0) (en Em ?_);refine bg fun _ Ca=>?_;obtain ⟨En,hL,BT⟩:=ob F;refine aH (fun k e w=>∃ (Bp:Int),e 1=.pointer (some ⟨J,0,none⟩)∧e 8=i_ Bp∧Sat w0 w [Box J 39 [i_ a0,u1,u2]]∧cR N k a0 a1 a2 Bp=some En) N ?_ ?_ ?_
   ·exact ⟨0,BP,rfl,S,hL⟩
   ·rintro e w ⟨_,_,_,_,hz⟩; exact nomatch (show none=some _ from hz)
   rintro k E8 Eo ⟨Bp,Br,Bx,S,F⟩;refine gn fun _ BU=>?_;refine sg fun _ CK=>?_;refine sR fun _ Ep=>?_;refine pM (i_ Bp) Bx (pe (.pointer (some ⟨J,0 + 2,none⟩)) (ae Br) (pe u2 (ac rfl ((S.boxAt 0 rfl) 2 _ rfl)) (pe (i_ (a2.length:Int)) (aq rfl ha2) (pe (.bool (decide (Bp < (a2.length:Int)))) (aF rfl rfl) (en Ep ?_)))));rcases oif F with ⟨BV,F⟩|⟨BV,F⟩
   ·refine ct BV (sn CK ?_);refine sg fun _ Cb=>?_;refine bg fun _ Cc=>?_;refine sg fun _ CL=>?_;refine bD (by kernel_rfl) (by kernel_rfl) ?_;refine qe (.pointer (some ⟨J,0 + 2,none⟩)) (ae Br) (qe u2 (ac rfl ((S.boxAt 0 rfl) 2 _ rfl)) (qM (i_ Bp) Bx ?_));obtain ⟨Er,Dv,F⟩:=ob F;refine aT (wA:=w0) rfl ha2 rfl (dt rfl) rfl Dv (dt rfl) ?_;intro E9 EN Fa Dw Dx;obtain rfl:=Dw;refine qe (i_ Er) (ac rfl ((am S.below Dx) 0 _ rfl)) (qe (.pointer (some ⟨J,0 + 0,none⟩)) (ae Br) (qe (i_ a0) (ac rfl ((S.boxAt 0 rfl) 0 _ rfl)) ?_));obtain ⟨Es,Dy,F⟩:=ob F;refine qe (i_ Es) (cb rfl rfl Dy) ?_;obtain ⟨Cd,Dz,F⟩:=ob F;refine cI (.bool Cd) jw (fun w' hw'=>eQ Dz) (ca (ai rfl (ai rfl (ai rfl rfl)))) (dt rfl) ?_;refine qe (.bool (!Cd)) (aZ rfl) (qm (.bool (!Cd)) ?_);rcases oif F with ⟨D,F⟩|⟨D,F⟩
    ·refine qi (an D) (qe (.pointer (some ⟨J,0 + 2,none⟩)) (ae Br) (qi (an D) (qe u2 (ac rfl ((S.boxAt 0 rfl) 2 _ rfl)) (qi (an D) (qM (i_ Bp) Bx (qi (an D) ?_))))));obtain ⟨Fb,DA,F⟩:=ob F;refine tX (wA:=w0) rfl rfl ha2 (.inr ⟨rfl,rfl⟩) (.inl (congrArg some rfl)) DA (dt rfl) ?_;intro Fc DB;refine qi (an D) (qe (.pointer (some ⟨J,0 + 2,none⟩)) (ae Br) (qi (an D) (qe u2 (ac rfl ((S.boxAt 0 rfl) 2 _ rfl)) (qi (an D) (qM (i_ Bp) Bx (qi (an D) ?_))))));obtain ⟨Et,DC,F⟩:=ob F;refine aT (wA:=w0) rfl ha2 rfl (dt rfl) rfl DC (dt rfl) ?_;intro Fd EO Fe DD DE;obtain rfl:=DD;refine qi (an D) (qe (i_ Et) (ac rfl ((am S.below DE) 0 _ rfl)) (qi (an D) ?_));obtain ⟨Ce,DF,F⟩:=ob F;refine cI (i_ Ce) nG (fun w' hw'=>gI (bl (S.up DB) hw') DF) (ca (ai rfl (ai rfl rfl))) (dt rfl) ?_;refine qi (an D) (qe (.bool (decide (0 ≤ Ce))) (d7 rfl rfl) (qe (.bool (decide (0 ≤ Ce))) (aC rfl (an D) rfl) (a9 ?_)));intro Eu DG;replace S:=S.ext DG;refine tn CL ?_;rcases oif F with ⟨BW,F⟩|⟨BW,F⟩
     ·refine ct BW ?_;refine sg fun _ Ev=>?_;replace S:Sat w0 Eu []:=S.rems 1 [0] rfl;refine ah (pa (.bool false) (en Ev (aj (br Cc (tr Cb (tr BU (br Ca (tr B9 ?_))))))));replace F:=exL F BT;refine aB rfl rfl ?_;exact rB F S
     refine cf BW (aV (bn Cc (tn Cb (ah (pM (i_ Bp) Bx ?_)))));obtain ⟨Cf,DH,F⟩:=ob F;refine pe (i_ Cf) (aE rfl rfl DH) (pa (i_ Cf) (en BU ?_));replace S:=S.keep 1;exact ⟨Cf,Br,rfl,S,F⟩
    refine qo (ap D) (qo (ap D) (qo (ap D) (qo (ap D) (qo (ap D) (qo (ap D) (qo (ap D) (qo (ap D) (qo (ap D) (qo (ap D) (qo (ap D) (qe (.bool true) (aA rfl (ap D) rfl) (a9 ?_))))))))))));intro Ew DI;replace S:=S.ext DI;refine tn CL (ct rfl ?_);refine sg fun _ Ex=>?_;replace S:Sat w0 Ew []:=S.rems 1 [0] rfl;refine ah (pa (.bool false) (en Ex (aj (br Cc (tr Cb (tr BU (br Ca (tr B9 ?_))))))));replace F:=exL F BT;refine aB rfl rfl ?_;exact rB F S
   refine cf BV (aG (tx CK (tx BU ?_)));replace F:=exA F BT;refine bS Ca (tn B9 ?_);refine sg fun _ Ey=>?_;replace S:Sat w0 Eo []:=S.rems 1 [0] rfl;refine ah (pa (.bool true) (en Ey (aj (aB rfl rfl ?_))));exact rB F S
  refine eo (ap Z) (eo (ap Z) (eo (ap Z) (eo (ap Z) (eo (ap Z) (eo (ap Z) (pe (.bool true) (aA rfl (ap Z) rfl) (en BX (ct rfl ?_))))))));refine sg fun _ Ez=>?_;replace S:Sat w0 Cp []:=S.rems 1 [0] rfl;refine ah (pa (.bool false) (en Ez (aj (tr BE (aB rfl rfl ?_)))));exact rB F S
 refine eo (ap Bm) (eo (ap Bm) (eo (ap Bm) (eo (ap Bm) (eo (ap Bm) (pe (.bool true) (aA rfl (ap Bm) rfl) (pm (.bool true) (eo rfl (eo rfl (eo rfl (eo rfl (eo rfl (eo rfl (pe (.bool true) (aA rfl rfl rfl) (en BX (ct rfl ?_)))))))))))))));refine sg fun _ EA=>?_;replace S:Sat w0 DK []:=S.rems 1 [0] rfl;refine ah (pa (.bool false) (en EA (aj (tr BE (aB rfl rfl ?_)))));exact rB F S
theorem oO {w0:World} {u0:Value} {a0:List T8_} {a1:Int} {u2:Value} {a2:List T3_} {u3:Value} {a3:List Int} (ha0:a6.rd w0 [u0] a0) (ha2:R7_.rd w0 [u2] a2) (ha3:R0_.rd w0 [u3] a3) {N:Nat} {r:Bool} (F:ie N a0 a1 a2 a3=some r): Calls Tryz.prog 69 #[.agg #[u0],.agg #[i_ a1,u2,u3]] w0 fun e w'=>e=.returned (.bool r)∧Ext w0 w' := by
 unfold ie at F;refine aD Tryz.func69 rfl rfl (dt rfl) ?_;have S:=Sat.start w0;refine sR fun _ Cb=>?_;refine aW [u0] rfl S (dt rfl) ?_;intro Ct Bm S Co;refine aW [i_ a1,u2,u3] rfl S (dt rfl) ?_;intro Cu Y S Cp;refine pa (.bool false) (en Cb ?_);refine sg fun _ Bx=>?_;refine sR fun _ Cc=>?_;refine pa (i_ 0) (en Cc ?_);refine bg fun _ By=>?_;obtain ⟨Cd,hL,Bt⟩:=ob F;refine aH (fun k e w=>∃ (Bn:Int),e 2=.pointer (some ⟨Bm,0,none⟩)∧e 3=.pointer (some ⟨Y,0,none⟩)∧e 5=i_ Bn∧Sat w0 w [Box Y 39 [i_ a1,u2,u3],Box Bm 35 [u0]]∧di N k a0 a1 a2 a3 Bn=some Cd) N ?_ ?_ ?_
 ·exact ⟨0,rfl,rfl,rfl,S,hL⟩
 ·rintro e w ⟨_,_,_,_,_,hz⟩; exact nomatch (show none=some _ from hz)
 rintro k Cv Cw ⟨Bn,Bq,Bp,Br,S,F⟩;refine gn fun _ Bu=>?_;refine sg fun _ BK=>?_;refine sR fun _ Ce=>?_;refine pM (i_ Bn) Br (pe (.pointer (some ⟨Y,0 + 1,none⟩)) (ae Bp) (pe u2 (ac rfl ((S.boxAt 0 rfl) 1 _ rfl)) (pe (i_ (a2.length:Int)) (aq rfl ha2) (pe (.bool (decide (Bn < (a2.length:Int)))) (aF rfl rfl) (en Ce ?_)))));rcases oif F with ⟨Bv,F⟩|⟨Bv,F⟩
 ·refine ct Bv (sn BK ?_);refine sg fun _ Bz=>?_;refine bg fun _ BA=>?_;refine sg fun _ Cf=>?_;obtain ⟨Cg,BP,F⟩:=ob F;obtain ⟨D,BF,F⟩:=ob F;refine kf (fun e w=>∃ (Z:Nat),∃ (U:Value),e 2=.pointer (some ⟨Bm,0,none⟩)∧e 3=.pointer (some ⟨Y,0,none⟩)∧e 5=i_ Bn∧e 6=.pointer (some ⟨Z,0,none⟩)∧e 7=.bool D.2∧Sat w0 w [Box Y 39 [i_ a1,u2,u3],Box Bm 35 [u0],Box Z 65 [i_ D.1.1,U],Own R2_ [U] D.1.2]) ?_ ?_
  ·obtain ⟨C,hCd⟩:∃ C:World → Prop,∀ w,C w ↔ ∃ G,Sat w0 w ([Box Y 39 [i_ a1,u2,u3],Box Bm 35 [u0]] ++ G):=⟨_,fun _=>Iff.rfl⟩;refine bT [0,1,2,3,4,5,6,7,8,9,10,11,12,13] C (by kernel_rfl) ?_;intro Cx BQ;replace S:=S.ext BQ;have hC:=(hCd _).2 ⟨_,S⟩;refine aP (.agg #[u0]) 0 rfl rfl hC (aw rfl (fun w' hw'=>by obtain ⟨_,S⟩:=(hCd _).1 hw'; exact (ay (cs:=[u0]) Bq rfl (aK (S.boxAt 1 rfl))))) ?_;refine aP (.pointer (some ⟨Y,0 + 1,none⟩)) 1 rfl rfl hC (aw rfl (fun w' hw'=>by obtain ⟨_,S⟩:=(hCd _).1 hw'; exact (ae Bp))) ?_;refine aP u2 2 rfl rfl hC (aw rfl (fun w' hw'=>by obtain ⟨_,S⟩:=(hCd _).1 hw'; exact (ac rfl ((S.boxAt 0 rfl) 1 _ rfl)))) ?_;refine aP (i_ Bn) 3 rfl rfl hC (aw rfl (fun w' hw'=>by obtain ⟨_,S⟩:=(hCd _).1 hw'; exact (aL Br))) ?_;refine eZ (wA:=w0) (by kernel_rfl) 4 rfl hC (by kernel_rfl) (by kernel_rfl) rfl ha2 rfl (dt rfl) rfl BP (dt rfl) ?_;intro Ch BR Cy BS BT;obtain ⟨_,_,rfl,BU,BV⟩:=BS;obtain ⟨rfl,BG⟩:=BU;obtain ⟨Cz,rfl⟩:=au BV;refine aP (.pointer (some ⟨Ch,BR + 0,none⟩)) 5 rfl rfl hC (aw rfl (fun w' hw'=>by obtain ⟨_,S⟩:=(hCd _).1 hw'; exact (ae rfl))) ?_;refine aP (.string Cg.1) 6 rfl rfl hC (aw rfl (fun w' hw'=>by obtain ⟨_,S⟩:=(hCd _).1 hw'; exact (ac rfl ((am S.below BT) 0 _ rfl)))) ?_;refine dM 7 11 (by kernel_rfl) rfl rfl ?_ ?_
   ·refine ec1 tO (iF (S.up ha0) BG BF) (ca (ai rfl (ai rfl rfl))) S fun BB U BW S=>?_;refine ag ?_;replace S:Sat w0 BB [Box Y 39 [i_ a1,u2,u3],Box Bm 35 [u0],Own R2_ [U] D.1.2]:=S.tops 3 [1,2] rfl;have hC:=(hCd _).2 ⟨_,S⟩;refine ⟨fun _=>hC,?_⟩;refine aP (.tuple #[.agg #[i_ D.1.1,U],.bool D.2]) 8 rfl rfl hC (aw rfl (fun w' hw'=>by obtain ⟨_,S⟩:=(hCd _).1 hw'; exact (aL rfl))) ?_;refine aP (.agg #[i_ D.1.1,U]) 9 rfl rfl hC (aw rfl (fun w' hw'=>by obtain ⟨_,S⟩:=(hCd _).1 hw'; exact (aI rfl rfl))) ?_;refine aP (.bool D.2) 10 rfl rfl hC (aw rfl (fun w' hw'=>by obtain ⟨_,S⟩:=(hCd _).1 hw'; exact (aI rfl rfl))) ?_;refine aO 11 rfl ?_;refine aU S (dt rfl) ?_;intro BC Z S BX;refine ag ?_;replace S:Sat w0 BC [Box Y 39 [i_ a1,u2,u3],Box Bm 35 [u0],Box Z 65 [i_ 0,n_],Own R2_ [U] D.1.2]:=S.tops 4 [1,2] rfl;have hC:=(hCd _).2 ⟨_,S⟩;refine ⟨fun _=>hC,?_⟩;refine aO 12 rfl ?_;refine ax (S.top 2 rfl) rfl [i_ D.1.1,U] rfl rfl (dt rfl) (all_cons rfl (all_cons (oc (S.rdAt (R:=R2_) 3 rfl)) rfl)) ?_;intro Bs S;replace S:Sat w0 Bs [Box Z 65 [i_ D.1.1,U],Box Y 39 [i_ a1,u2,u3],Box Bm 35 [u0],Own R2_ [U] D.1.2]:=S;refine ag ?_;replace S:Sat w0 Bs [Box Y 39 [i_ a1,u2,u3],Box Bm 35 [u0],Box Z 65 [i_ D.1.1,U],Own R2_ [U] D.1.2]:=S.tops 4 [1,2] rfl;have hC:=(hCd _).2 ⟨_,S⟩;refine ⟨fun _=>hC,?_⟩;refine aO 13 rfl ?_;refine pa (.bool D.2) (ag ?_);refine ⟨fun _=>hC,?_⟩;refine bm (by kernel_rfl) ?_;exact ⟨rfl,Z,U,Bq,Bp,Br,rfl,rfl,S⟩
   refine aU S (dt rfl) ?_;intro BC Z S BX;refine ag ?_;replace S:Sat w0 BC [Box Y 39 [i_ a1,u2,u3],Box Bm 35 [u0],Box Z 65 [i_ 0,n_]]:=S.tops 3 [1,2] rfl;have hC:=(hCd _).2 ⟨_,S⟩;refine ⟨fun _=>hC,?_⟩;refine aO 7 rfl ?_;refine ec1 tO (iF (S.up ha0) BG BF) (ca (ai rfl (ai rfl rfl))) S fun BB U BW S=>?_;refine ag ?_;replace S:Sat w0 BB [Box Y 39 [i_ a1,u2,u3],Box Bm 35 [u0],Own R2_ [U] D.1.2,Box Z 65 [i_ 0,n_]]:=S.tops 4 [1,2] rfl;have hC:=(hCd _).2 ⟨_,S⟩;refine ⟨fun _=>hC,?_⟩;refine aO 8 rfl ?_;refine pm (.tuple #[.agg #[i_ D.1.1,U],.bool D.2]) (ag ?_);refine ⟨fun _=>hC,?_⟩;refine aP (.agg #[i_ D.1.1,U]) 9 rfl rfl hC (aw rfl (fun w' hw'=>by obtain ⟨_,S⟩:=(hCd _).1 hw'; exact (aI rfl rfl))) ?_;refine aP (.bool D.2) 10 rfl rfl hC (aw rfl (fun w' hw'=>by obtain ⟨_,S⟩:=(hCd _).1 hw'; exact (aI rfl rfl))) ?_;refine aO 12 rfl ?_;refine ax (S.top 3 rfl) rfl [i_ D.1.1,U] rfl rfl (dt rfl) (all_cons rfl (all_cons (oc (S.rdAt (R:=R2_) 2 rfl)) rfl)) ?_;intro Bs S;replace S:Sat w0 Bs [Box Z 65 [i_ D.1.1,U],Box Y 39 [i_ a1,u2,u3],Box Bm 35 [u0],Own R2_ [U] D.1.2]:=S;refine ag ?_;replace S:Sat w0 Bs [Box Y 39 [i_ a1,u2,u3],Box Bm 35 [u0],Box Z 65 [i_ D.1.1,U],Own R2_ [U] D.1.2]:=S.tops 4 [1,2] rfl;have hC:=(hCd _).2 ⟨_,S⟩;refine ⟨fun _=>hC,?_⟩;refine aO 13 rfl ?_;refine pa (.bool D.2) (ag ?_);refine ⟨fun _=>hC,?_⟩;refine bm (by kernel_rfl) ?_;exact ⟨rfl,Z,U,Bq,Bp,Br,rfl,rfl,S⟩
  rintro CA CB ⟨Z,U,BY,BH,BI,BZ,B0,S⟩;refine tn Cf ?_;refine sg fun _ BL=>?_;refine bD (by kernel_rfl) (by kernel_rfl) ?_;refine qM (.bool D.2) B0 (qe (.bool (!D.2)) (aZ rfl) (qm (.bool (!D.2)) ?_));rcases oif F with ⟨J,F⟩|⟨J,F⟩
  ·refine qi (an J) (qe (.pointer (some ⟨Z,0 + 0,none⟩)) (ae BZ) (qi (an J) (qe (i_ D.1.1) (ac rfl ((S.boxAt 2 rfl) 0 _ rfl)) (qi (an J) (qe (.pointer (some ⟨Y,0 + 1,none⟩)) (ae BH) (qi (an J) (qe u2 (ac rfl ((S.boxAt 0 rfl) 1 _ rfl)) (qi (an J) (qM (i_ Bn) BI (qi (an J) ?_))))))))));obtain ⟨BD,B1,F⟩:=ob F;refine aT (wA:=w0) rfl ha2 rfl (dt rfl) rfl B1 (dt rfl) ?_;intro Ci B2 CC B3 B4;obtain ⟨_,_,rfl,B5,BJ⟩:=B3;obtain ⟨rfl,Cq⟩:=B5;obtain ⟨Cj,rfl⟩:=au BJ;refine qi (an J) (qe (.pointer (some ⟨Ci,B2 + 1,none⟩)) (ae rfl) (qi (an J) (qe Cj (ac rfl ((am S.below B4) 1 _ rfl)) (qi (an J) (qe (i_ (BD.2.length:Int)) (aq rfl BJ) (qi (an J) (qe (.bool (D.1.1 != (BD.2.length:Int))) (cv rfl rfl) (qe (.bool (D.1.1 != (BD.2.length:Int))) (aC rfl (an J) rfl) (a9 ?_)))))))));intro BM B6;replace S:=S.ext B6;refine tn BL ?_;rcases oif F with ⟨Bw,F⟩|⟨Bw,F⟩
   ·refine ct Bw ?_;refine sg fun _ Ck=>?_;replace S:Sat w0 BM []:=S.rems 4 [0,1,2,3] rfl;refine ah (pa (.bool false) (en Ck (aj (br BA (tr Bz (tr Bu (br By (tr Bx ?_))))))));replace F:=exL F Bt;refine aB rfl rfl ?_;exact rB F S
   refine cf Bw (aV (bn BA (tn Bz ?_)));replace S:Sat w0 BM [Box Y 39 [i_ a1,u2,u3],Box Bm 35 [u0]]:=S.rems 4 [2,3] rfl;refine ah (pM (i_ Bn) BI ?_);obtain ⟨BE,B7,F⟩:=ob F;refine pe (i_ BE) (aE rfl rfl B7) (pa (i_ BE) (en Bu ?_));replace S:=S.keep 2;exact ⟨BE,BY,BH,rfl,S,F⟩
  refine qo (ap J) (qo (ap J) (qo (ap J) (qo (ap J) (qo (ap J) (qo (ap J) (qo (ap J) (qo (ap J) (qo (ap J) (qo (ap J) (qe (.bool true) (aA rfl (ap J) rfl) (a9 ?_)))))))))));intro Cl B8;replace S:=S.ext B8;refine tn BL (ct rfl ?_);refine sg fun _ Cm=>?_;replace S:Sat w0 Cl []:=S.rems 4 [0,1,2,3] rfl;refine ah (pa (.bool false) (en Cm (aj (br BA (tr Bz (tr Bu (br By (tr Bx ?_))))))));replace F:=exL F Bt;refine aB rfl rfl ?_;exact rB F S
 refine cf Bv (aG (tx BK (tx Bu ?_)));replace F:=exA F Bt;refine bS By (tn Bx ?_);refine sR fun _ BN=>?_;refine pe (.agg #[i_ a1,u2,u3]) (ay (cs:=[i_ a1,u2,u3]) Bp rfl (aK (S.boxAt 0 rfl))) ?_;obtain ⟨Cn,B9,F⟩:=ob F;refine ec0 tg (je (S.up ha2) (S.up ha3) B9) (ca (ai rfl rfl)) S fun CD Cr S=>?_;refine pm (.bool Cn) ?_;rcases oif F with ⟨Bo,F⟩|⟨Bo,F⟩
 ·refine ei Bo (pe (.agg #[u0]) (ay (cs:=[u0]) Bq rfl (aK (S.boxAt 1 rfl))) (ei Bo ?_));obtain ⟨BO,Ca,F⟩:=ob F;refine ec0 wM (j9 (S.up ha0) Ca) (ca (ai rfl rfl)) S fun CE Cs S=>?_;refine pe (.bool BO) (aA rfl Bo rfl) (pa (.bool BO) (en BN (aj (aB rfl rfl ?_))));exact rB F S
 refine eo Bo (eo Bo (pe (.bool false) (aC rfl Bo rfl) (pa (.bool false) (en BN (aj (aB rfl rfl ?_))))));exact rB F S
theorem kx {w0:World} {u0:Value} {a0:List Int} (ha0:R0_.rd w0 [u0] a0) {N:Nat} {r:Bool} (F:fc N a0=some r): Calls Tryz.prog 96 #[u0] w0 fun e w'=>e=.returned (.bool r)∧Ext w0 w' := by
 unfold fc at F;refine aD Tryz.func96 rfl rfl (dt rfl) ?_;have S:=Sat.start w0;refine sR fun _ BM=>?_;refine pa (.bool false) (en BM ?_);refine sg fun _ Bp=>?_;refine sR fun _ BN=>?_;refine pa (i_ 0) (en BN ?_);refine bg fun _ Bq=>?_;obtain ⟨BO,hL,Z⟩:=ob F;refine aH (fun k e w=>∃ (J:Int),e 0=u0∧e 3=i_ J∧Sat w0 w []∧c9 N k a0 J=some BO) N ?_ ?_ ?_
 ·exact ⟨0,rfl,rfl,S,hL⟩
 ·rintro e w ⟨_,_,_,_,hz⟩; exact nomatch (show none=some _ from hz)
 rintro k BY BZ ⟨J,U,Y,S,F⟩;refine gn fun _ Bm=>?_;refine sg fun _ Bw=>?_;refine sR fun _ BP=>?_;refine pM (i_ J) Y (pM u0 U (pe (i_ (a0.length:Int)) (aq rfl ha0) (pe (.bool (decide (J < (a0.length:Int)))) (aF rfl rfl) (en BP ?_))));rcases oif F with ⟨Bn,F⟩|⟨Bn,F⟩
 ·refine ct Bn (sn Bw ?_);refine sg fun _ Br=>?_;refine bg fun _ Bs=>?_;refine sg fun _ Bx=>?_;refine bD (by kernel_rfl) (by kernel_rfl) ?_;refine qM u0 U (qM (i_ J) Y ?_);obtain ⟨BQ,By,F⟩:=ob F;refine aT (wA:=w0) rfl ha0 rfl (dt rfl) rfl By (dt rfl) ?_;intro B0 BW B1 Bz BA;obtain rfl:=Bz;refine qe (i_ BQ) (ac rfl ((am S.below BA) 0 _ rfl)) (qM u0 U (qe (i_ (a0.length:Int)) (aq rfl ha0) ?_));obtain ⟨BR,BB,F⟩:=ob F;refine qe (i_ BR) (cb rfl rfl BB) ?_;obtain ⟨Bt,BC,F⟩:=ob F;refine cI (.bool Bt) jw (fun w' hw'=>eQ BC) (ca (ai rfl (ai rfl (ai rfl rfl)))) (dt rfl) ?_;refine qe (.bool (!Bt)) (aZ rfl) (qm (.bool (!Bt)) ?_);rcases oif F with ⟨D,F⟩|⟨D,F⟩
  ·refine qi (an D) (qM u0 U (qi (an D) (qM (i_ J) Y (qi (an D) ?_))));obtain ⟨B2,BD,F⟩:=ob F;refine tX (wA:=w0) rfl rfl ha0 (.inr ⟨rfl,rfl⟩) (.inl (congrArg some rfl)) BD (dt rfl) ?_;intro B3 BE;refine qi (an D) (qM u0 U (qi (an D) (qM (i_ J) Y (qi (an D) ?_))));obtain ⟨BS,BF,F⟩:=ob F;refine aT (wA:=w0) rfl ha0 rfl (dt rfl) rfl BF (dt rfl) ?_;intro B4 BX B5 BG BH;obtain rfl:=BG;refine qi (an D) (qe (i_ BS) (ac rfl ((am S.below BH) 0 _ rfl)) (qi (an D) ?_));obtain ⟨Bu,BI,F⟩:=ob F;refine cI (i_ Bu) nG (fun w' hw'=>gI (bl (S.up BE) hw') BI) (ca (ai rfl (ai rfl rfl))) (dt rfl) ?_;refine qi (an D) (qe (.bool (decide (0 ≤ Bu))) (d7 rfl rfl) (qe (.bool (decide (0 ≤ Bu))) (aC rfl (an D) rfl) (a9 ?_)));intro B6 BJ;replace S:=S.ext BJ;refine tn Bx ?_;rcases oif F with ⟨Bo,F⟩|⟨Bo,F⟩
   ·refine ct Bo ?_;refine sR fun _ BT=>?_;refine pa (.bool false) (en BT (aj (br Bs (tr Br (tr Bm (br Bq (tr Bp ?_)))))));replace F:=exL F Z;refine aB rfl rfl ?_;exact rB F S
   refine cf Bo (aV (bn Bs (tn Br (ah (pM (i_ J) Y ?_)))));obtain ⟨Bv,BK,F⟩:=ob F;refine pe (i_ Bv) (aE rfl rfl BK) (pa (i_ Bv) (en Bm ?_));replace S:=S.keep 0;exact ⟨Bv,U,rfl,S,F⟩
  refine qo (ap D) (qo (ap D) (qo (ap D) (qo (ap D) (qo (ap D) (qo (ap D) (qo (ap D) (qo (ap D) (qo (ap D) (qe (.bool true) (aA rfl (ap D) rfl) (a9 ?_))))))))));intro B7 BL;replace S:=S.ext BL;refine tn Bx (ct rfl ?_);refine sR fun _ BU=>?_;refine pa (.bool false) (en BU (aj (br Bs (tr Br (tr Bm (br Bq (tr Bp ?_)))))));replace F:=exL F Z;refine aB rfl rfl ?_;exact rB F S
 refine cf Bn (aG (tx Bw (tx Bm ?_)));replace F:=exA F Z;refine bS Bq (tn Bp ?_);refine sR fun _ BV=>?_;refine pM u0 U (pe (i_ (a0.length:Int)) (aq rfl ha0) (pe (.bool (decide ((a0.length:Int) ≤ 5))) (iR rfl rfl) (pa (.bool (decide ((a0.length:Int) ≤ 5))) (en BV (aj (aB rfl rfl ?_))))));exact rB F S
theorem n9 {w0:World} {a0:Int} {u1:Value} {a1:List T3_} {u2:Value} {a2:List Int} {u3:Value} {a3:List Int} (ha1:R7_.rd w0 [u1] a1) (ha2:R0_.rd w0 [u2] a2) (ha3:R0_.rd w0 [u3] a3) {N:Nat} {r:Bool} (F:gp N a0 a1 a2 a3=some r): Calls Tryz.prog 70 #[.agg #[i_ a0,u1,u2],u3] w0 fun e w'=>e=.returned (.bool r)∧Ext w0 w' := by
 unfold gp at F;refine aD Tryz.func70 rfl rfl (dt rfl) ?_;have S:=Sat.start w0;refine sR fun _ Bn=>?_;refine aW [i_ a0,u1,u2] rfl S (dt rfl) ?_;intro Bt Bo S Bq;refine pa (.bool false) (en Bn ?_);refine sR fun _ U=>?_;refine pe (.agg #[i_ a0,u1,u2]) (ay (cs:=[i_ a0,u1,u2]) rfl rfl (aK (S.boxAt 0 rfl))) ?_;obtain ⟨Bp,Z,F⟩:=ob F;refine ec0 tg (je (S.up ha1) (S.up ha2) Z) (ca (ai rfl rfl)) S fun Bu Br S=>?_;refine pm (.bool Bp) ?_;rcases oif F with ⟨D,F⟩|⟨D,F⟩
 ·refine ei D (pm u3 (ei D (pe (i_ (a3.length:Int)) (aq rfl ha3) (ei D (pe (.pointer (some ⟨Bo,0 + 0,none⟩)) (ae rfl) (ei D (pe (i_ a0) (ac rfl ((S.boxAt 0 rfl) 0 _ rfl)) (ei D (pe (.bool ((a3.length:Int) == a0)) (bG rfl rfl) (pe (.bool ((a3.length:Int) == a0)) (aA rfl D rfl) (pm (.bool ((a3.length:Int) == a0)) ?_)))))))))));rcases oif F with ⟨J,F⟩|⟨J,F⟩
  ·refine ei J (pm u3 (ei J ?_));obtain ⟨Y,Bm,F⟩:=ob F;refine ec0 v5 (kx (S.up ha3) Bm) (ca (ai rfl rfl)) S fun Bv Bs S=>?_;refine pe (.bool Y) (aA rfl J rfl) (pa (.bool Y) (en U (aj (aB rfl rfl ?_))));exact rB F S
  refine eo J (eo J (pe (.bool false) (aC rfl J rfl) (pa (.bool false) (en U (aj (aB rfl rfl ?_))))));exact rB F S
 refine eo D (eo D (eo D (eo D (eo D (pe (.bool false) (aC rfl D rfl) (pm (.bool false) (eo rfl (eo rfl (pe (.bool false) (aC rfl rfl rfl) (pa (.bool false) (en U (aj (aB rfl rfl ?_)))))))))))));exact rB F S
theorem r6 (N:Nat):∀ {w0:World} {u0:Value} {a0:List T0_} (_:R2_.rd w0 [u0] a0) {r:T1_} (_:fo N a0=some r), Calls Tryz.prog 77 #[u0] w0 fun e w'=>∃ (q0:Value),e=.returned (q0)∧Ext w0 w'∧R2_.rd w' [q0] r := by
 induction N with
 | zero=>intros; exact nomatch (show none=some _ by assumption)
 | succ N ih=>
  intro w0 u0 a0 ha0 r F;refine aD Tryz.func77 rfl rfl (dt rfl) ?_;have S:=Sat.start w0;refine sR fun _ GI=>?_;refine pa n_ (en GI ?_);refine sg fun _ DN=>?_;refine sR fun _ GJ=>?_;refine pm u0 (pe (i_ (a0.length:Int)) (aq rfl ha0) (pe (.bool (decide ((a0.length:Int) < 2))) (aF rfl rfl) (en GJ ?_)));rcases oif F with ⟨Cm,F⟩|⟨Cm,F⟩
  ·refine ct Cm ?_;refine sR fun _ GK=>?_;refine pm u0 (pa u0 (en GK (aj (tr DN (aB rfl rfl ?_)))));have hr:=Option.some.inj F;exact ⟨u0,congrArg (fun (r:T1_)=>Ending.returned (u0)) hr,S.below,Eq.mp (congrArg (fun (r:T1_)=>R2_.rd w0 [u0] r) hr) (S.up ha0)⟩
  refine cf Cm (sn DN ?_);refine sR fun _ GL=>?_;refine pm u0 (pe (i_ (a0.length:Int)) (aq rfl ha0) ?_);obtain ⟨Cn,EE,F⟩:=ob F;refine pe (i_ Cn) (t3 rfl rfl EE) (pa (i_ Cn) (en GL ?_));refine sR fun _ GM=>?_;refine pm u0 (pm (i_ Cn) ?_);obtain ⟨Jy,EF,F⟩:=ob F;refine dy (wA:=w0) rfl rfl ha0 (.inr ⟨rfl,rfl⟩) (.inl (congrArg some rfl)) EF (dt rfl) ?_;intro Jz Dn;obtain ⟨GN,EG,F⟩:=ob F;refine be tU (ih (S.up Dn) EG) (ca (ai rfl rfl)) (dt rfl) ?_;rintro _ C4 ⟨DO,rfl,EH,EI⟩;refine ⟨_,rfl,?_⟩;replace S:=S.ext EH;have EJ:Ext w0 C4:=S.below;have Co:=S.up ha0;have IP:=S.up ha0;have IQ:=S.up Dn;replace S:=Sat.start C4;refine pa DO (en GM ?_);refine sR fun _ GO=>?_;refine pm u0 (pm (i_ Cn) ?_);obtain ⟨JA,EK,F⟩:=ob F;refine dy (wA:=C4) rfl rfl Co (.inl (congrArg some rfl)) (.inr ⟨rfl,rfl⟩) EK (dt rfl) ?_;intro JB Do;obtain ⟨GP,EM,F⟩:=ob F;refine be tU (ih (S.up Do) EM) (ca (ai rfl rfl)) (dt rfl) ?_;rintro _ D ⟨DP,rfl,EN,EO⟩;refine ⟨_,rfl,?_⟩;replace S:=S.ext EN;have EP:Ext w0 D:=(S.rebase EJ).below;have IR:=S.up Co;have EQ:=S.up EI;have IS:=S.up Co;have IT:=S.up Do;replace S:=Sat.start D;refine pa DP (en GO ?_);refine sR fun _ GQ=>?_;refine aY (roR D R0_) S (dt rfl) ?_;intro JC DQ S IU;refine pa DQ (en GQ ?_);refine sg fun _ GR=>?_;refine bg fun _ GS=>?_;obtain ⟨GT,hL,ER⟩:=ob F;refine aH (fun k e w=>∃ (Bp:Value),∃ (Bs:List T0_),∃ (Bq:Value),∃ (Bt:List T0_),∃ (J:Value),∃ (U:List T0_),e 4=Bp∧e 5=Bq∧e 6=J∧Sat D w [Own (ak (roR D R0_) 26) [J] U]∧R2_.rd D [Bp] Bs∧R2_.rd D [Bq] Bt∧aS (fo N) N k Bs Bt U=some GT) N ?_ ?_ ?_
  ·exact ⟨DO,GN,DP,GP,DQ,[],rfl,rfl,rfl,S,EQ,EO,hL⟩
  ·rintro e w ⟨_,_,_,_,_,_,_,_,_,_,_,_,hz⟩; exact nomatch (show none=some _ from hz)
  rintro k JD GU ⟨Bp,Bs,Bq,Bt,J,U,Z,Bm,Y,S,Bn,Bo,F⟩;refine gn fun _ Br=>?_;refine sg fun _ C5=>?_;refine sR fun _ DR=>?_;refine pM Bp Z (pe (i_ (Bs.length:Int)) (aq rfl Bn) (pe (.bool (decide (0 < (Bs.length:Int)))) (bz rfl rfl) (pm (.bool (decide (0 < (Bs.length:Int)))) ?_)));rcases oif F with ⟨BG,F⟩|⟨BG,F⟩
  ·refine eo BG (eo BG (eo BG (pe (.bool true) (aA rfl BG rfl) (en DR (ct rfl (sn C5 ?_))))));refine bg fun _ BE=>?_;refine sR fun _ GV=>?_;refine pa (i_ 0) (en GV ?_);refine sg fun _ C6=>?_;refine bg fun _ C7=>?_;refine sR fun _ GW=>?_;refine pM Bp Z (pe (i_ (Bs.length:Int)) (aq rfl Bn) (pe (.bool ((Bs.length:Int) == 0)) (bG rfl rfl) (pa (.bool ((Bs.length:Int) == 0)) (en GW ?_))));rcases oif F with ⟨Cp,F⟩|⟨Cp,F⟩
   ·refine ct Cp (ah (pa (i_ 1) (ag (bn C7 (tn C6 ?_)))));refine sR fun _ GX=>?_;refine aY a7 S (dt rfl) ?_;intro C8 GY S IV;refine pa GY (en GX ?_);refine sg fun _ DS=>?_;refine sg fun _ GZ=>?_;replace S:Sat D C8 [Own (ak (roR D R0_) 26) [J] U]:=S.rems 2 [0] rfl;refine ah (pm (i_ 1) (pe (.bool (decide (0 < (1:Int)))) (bz rfl rfl) (en GZ ?_)));rcases oif F with ⟨Cq,F⟩|⟨Cq,F⟩
    ·refine ct Cq ?_;refine sR fun _ G1=>?_;refine pM Bq Bm ?_;obtain ⟨JE,ES,F⟩:=ob F;refine aJ (wA:=D) rfl Bo rfl (dt rfl) rfl ES (dt rfl) ?_;intro JF IW JG BR ET;obtain ⟨BH,rfl⟩:=au BR;refine pe BH (ac rfl ((am S.below ET) 0 _ rfl)) (pa BH (en G1 (ah (pM Bq Bm ?_))));obtain ⟨C9,EU,F⟩:=ob F;refine dy (wA:=D) rfl rfl Bo (.inl (congrArg some rfl)) (.inr ⟨rfl,rfl⟩) EU (dt rfl) ?_;intro Cr Cs;refine pa Cr (en DS ?_);refine sR fun _ DT=>?_;refine pM J Y (pe (i_ (U.length:Int)) (aq rfl (S.rdAt (R:=(ak (roR D R0_) 26)) 0 rfl)) (pe (.bool ((U.length:Int) == 0)) (bG rfl rfl) (pm (.bool ((U.length:Int) == 0)) ?_)));rcases oif F with ⟨Bu,F⟩|⟨Bu,F⟩
     ·refine eo Bu (eo Bu (eo Bu (eo Bu (eo Bu (eo Bu (eo Bu (eo Bu (eo Bu (pe (.bool true) (aA rfl Bu rfl) (en DT (ct rfl (ah (pM J Y (pm BH ?_))))))))))))));refine av [BH] (aQ rfl (oc BR)) (by rfl) (dt rfl) rfl (dt rfl) S (dt rfl) ?_;intro G2 G3 S IX;obtain ⟨G4,EV,F⟩:=ob F;have Dt:=S.boxRow 0 rfl;replace S:Sat D G2 [Own (ak (roR D R0_) 26) [J] U,Box G3 26 [BH]]:=S.top 1 rfl;replace S:=S.roOne (R:=R0_) (W:=D) BR;replace S:=S.one;refine az rfl (dt rfl) rfl (dt rfl) S rfl rfl rfl (by simp) Dt EV (dt rfl) ?_;intro JH DU S;refine pa DU (ag (bn BE (tn Br ?_)));replace S:=S.keep 1;exact ⟨Bp,Bs,Cr,C9,DU,G4,Z,rfl,rfl,S,Bn,Cs,F⟩
     refine ei Bu (pM J Y (ei Bu (pM J Y (ei Bu (pe (i_ (U.length:Int)) (aq rfl (S.rdAt (R:=(ak (roR D R0_) 26)) 0 rfl)) (ei Bu ?_))))));obtain ⟨G5,EW,F⟩:=ob F;refine pe (i_ G5) (cb rfl rfl EW) (ei Bu ?_);obtain ⟨JI,EX,F⟩:=ob F;refine aJ (wA:=C8) rfl (S.rdAt (R:=(ak (roR D R0_) 26)) 0 rfl) rfl (dt rfl) rfl EX (dt rfl) ?_;intro JJ IY JK Cb B1;replace Cb:R0_.rd D _ _:=Cb;obtain ⟨G6,rfl⟩:=au Cb;refine ei Bu (pe G6 (ac rfl (B1 0 _ rfl)) (ei Bu (pm BH (ei Bu ?_))));obtain ⟨DV,EY,F⟩:=ob F;refine ec0 fR (bt (S.up Cb) (S.up BR) EY) (ca (ai rfl (ai rfl rfl))) S fun JL EZ S=>?_;have B1:=am EZ B1;refine ei Bu (pe (.bool (DV != 0)) (cv rfl rfl) (pe (.bool (DV != 0)) (aC rfl Bu rfl) (en DT ?_)));rcases oif F with ⟨Ct,F⟩|⟨Ct,F⟩
     ·refine ct Ct (ah (pM J Y (pm BH ?_)));refine av [BH] (aQ rfl (oc BR)) (by rfl) (dt rfl) rfl (dt rfl) S (dt rfl) ?_;intro G7 G8 S E0;have B1:=am E0 B1;obtain ⟨G9,E1,F⟩:=ob F;have Du:=S.boxRow 0 rfl;replace S:Sat D G7 [Own (ak (roR D R0_) 26) [J] U,Box G8 26 [BH]]:=S.top 1 rfl;replace S:=S.roOne (R:=R0_) (W:=D) BR;replace S:=S.one;refine az rfl (dt rfl) rfl (dt rfl) S rfl rfl rfl (by simp) Du E1 (dt rfl) ?_;intro JM DW S;refine pa DW (ag (bn BE (tn Br ?_)));replace S:=S.keep 1;exact ⟨Bp,Bs,Cr,C9,DW,G9,Z,rfl,rfl,S,Bn,Cs,F⟩
     refine cf Ct (aV (bn BE (tn Br ?_)));replace S:=S.keep 1;exact ⟨Bp,Bs,Cr,C9,J,U,Z,rfl,Y,S,Bn,Cs,F⟩
    refine cf Cq ?_;refine sR fun _ Ha=>?_;refine pM Bp Z ?_;obtain ⟨JN,E2,F⟩:=ob F;refine aJ (wA:=D) rfl Bn rfl (dt rfl) rfl E2 (dt rfl) ?_;intro JO IZ JP BS E3;obtain ⟨BI,rfl⟩:=au BS;refine pe BI (ac rfl ((am S.below E3) 0 _ rfl)) (pa BI (en Ha (ah (pM Bp Z ?_))));obtain ⟨Da,E4,F⟩:=ob F;refine dy (wA:=D) rfl rfl Bn (.inl (congrArg some rfl)) (.inr ⟨rfl,rfl⟩) E4 (dt rfl) ?_;intro Cu Cv;refine pa Cu (en DS ?_);refine sR fun _ DX=>?_;refine pM J Y (pe (i_ (U.length:Int)) (aq rfl (S.rdAt (R:=(ak (roR D R0_) 26)) 0 rfl)) (pe (.bool ((U.length:Int) == 0)) (bG rfl rfl) (pm (.bool ((U.length:Int) == 0)) ?_)));rcases oif F with ⟨Bv,F⟩|⟨Bv,F⟩
    ·refine eo Bv (eo Bv (eo Bv (eo Bv (eo Bv (eo Bv (eo Bv (eo Bv (eo Bv (pe (.bool true) (aA rfl Bv rfl) (en DX (ct rfl (ah (pM J Y (pm BI ?_))))))))))))));refine av [BI] (aQ rfl (oc BS)) (by rfl) (dt rfl) rfl (dt rfl) S (dt rfl) ?_;intro Hb Hc S I0;obtain ⟨Hd,E5,F⟩:=ob F;have Dv:=S.boxRow 0 rfl;replace S:Sat D Hb [Own (ak (roR D R0_) 26) [J] U,Box Hc 26 [BI]]:=S.top 1 rfl;replace S:=S.roOne (R:=R0_) (W:=D) BS;replace S:=S.one;refine az rfl (dt rfl) rfl (dt rfl) S rfl rfl rfl (by simp) Dv E5 (dt rfl) ?_;intro JQ DY S;refine pa DY (ag (bn BE (tn Br ?_)));replace S:=S.keep 1;exact ⟨Cu,Da,Bq,Bt,DY,Hd,rfl,Bm,rfl,S,Cv,Bo,F⟩
    refine ei Bv (pM J Y (ei Bv (pM J Y (ei Bv (pe (i_ (U.length:Int)) (aq rfl (S.rdAt (R:=(ak (roR D R0_) 26)) 0 rfl)) (ei Bv ?_))))));obtain ⟨He,E6,F⟩:=ob F;refine pe (i_ He) (cb rfl rfl E6) (ei Bv ?_);obtain ⟨JR,E7,F⟩:=ob F;refine aJ (wA:=C8) rfl (S.rdAt (R:=(ak (roR D R0_) 26)) 0 rfl) rfl (dt rfl) rfl E7 (dt rfl) ?_;intro JS I1 JT Cc B2;replace Cc:R0_.rd D _ _:=Cc;obtain ⟨Hf,rfl⟩:=au Cc;refine ei Bv (pe Hf (ac rfl (B2 0 _ rfl)) (ei Bv (pm BI (ei Bv ?_))));obtain ⟨DZ,E8,F⟩:=ob F;refine ec0 fR (bt (S.up Cc) (S.up BS) E8) (ca (ai rfl (ai rfl rfl))) S fun JU E9 S=>?_;have B2:=am E9 B2;refine ei Bv (pe (.bool (DZ != 0)) (cv rfl rfl) (pe (.bool (DZ != 0)) (aC rfl Bv rfl) (en DX ?_)));rcases oif F with ⟨Cw,F⟩|⟨Cw,F⟩
    ·refine ct Cw (ah (pM J Y (pm BI ?_)));refine av [BI] (aQ rfl (oc BS)) (by rfl) (dt rfl) rfl (dt rfl) S (dt rfl) ?_;intro Hg Hh S Fa;have B2:=am Fa B2;obtain ⟨Hi,Fb,F⟩:=ob F;have Dw:=S.boxRow 0 rfl;replace S:Sat D Hg [Own (ak (roR D R0_) 26) [J] U,Box Hh 26 [BI]]:=S.top 1 rfl;replace S:=S.roOne (R:=R0_) (W:=D) BS;replace S:=S.one;refine az rfl (dt rfl) rfl (dt rfl) S rfl rfl rfl (by simp) Dw Fb (dt rfl) ?_;intro JV D0 S;refine pa D0 (ag (bn BE (tn Br ?_)));replace S:=S.keep 1;exact ⟨Cu,Da,Bq,Bt,D0,Hi,rfl,Bm,rfl,S,Cv,Bo,F⟩
    refine cf Cw (aV (bn BE (tn Br ?_)));replace S:=S.keep 1;exact ⟨Cu,Da,Bq,Bt,J,U,rfl,Bm,Y,S,Cv,Bo,F⟩
   refine cf Cp ?_;refine sR fun _ Hj=>?_;refine pM Bq Bm (pe (i_ (Bt.length:Int)) (aq rfl Bo) (pe (.bool (decide (0 < (Bt.length:Int)))) (bz rfl rfl) (pa (.bool (decide (0 < (Bt.length:Int)))) (en Hj ?_))));rcases oif F with ⟨Cx,F⟩|⟨Cx,F⟩
   ·refine ct Cx ?_;refine bD (by kernel_rfl) (by kernel_rfl) ?_;refine qM Bp Z ?_;obtain ⟨JW,Fc,F⟩:=ob F;refine aT (wA:=D) rfl Bn rfl (dt rfl) rfl Fc (dt rfl) ?_;intro JX I2 JY Dp Fd;obtain ⟨Hk,rfl⟩:=au Dp;refine qe Hk (ac rfl ((am S.below Fd) 0 _ rfl)) (qM Bq Bm ?_);obtain ⟨JZ,Fe,F⟩:=ob F;refine aT (wA:=D) rfl Bo rfl (dt rfl) rfl Fe (dt rfl) ?_;intro J0 I3 J1 Dq Ff;obtain ⟨Hl,rfl⟩:=au Dq;refine qe Hl (ac rfl ((am S.below Ff) 0 _ rfl)) ?_;obtain ⟨Cy,Fg,F⟩:=ob F;refine cI (i_ Cy) fR (fun w' hw'=>bt (bl (S.up Dp) hw') (bl (S.up Dq) hw') Fg) (ca (ai rfl (ai rfl rfl))) (dt rfl) ?_;refine qe (i_ Cy) (ez rfl) (a9 ?_);intro J2 Fh;replace S:=S.ext Fh;refine bn C7 (tn C6 ?_);refine sR fun _ Hm=>?_;refine aY a7 S (dt rfl) ?_;intro Db Hn S I4;refine pa Hn (en Hm ?_);refine sg fun _ D1=>?_;refine sg fun _ Ho=>?_;replace S:Sat D Db [Own (ak (roR D R0_) 26) [J] U]:=S.rems 2 [0] rfl;refine ah (pm (i_ Cy) (pe (.bool (decide (0 < Cy))) (bz rfl rfl) (en Ho ?_)));rcases oif F with ⟨Cz,F⟩|⟨Cz,F⟩
    ·refine ct Cz ?_;refine sR fun _ Hp=>?_;refine pM Bq Bm ?_;obtain ⟨J3,Fi,F⟩:=ob F;refine aJ (wA:=D) rfl Bo rfl (dt rfl) rfl Fi (dt rfl) ?_;intro J4 I5 J5 BT Fj;obtain ⟨BJ,rfl⟩:=au BT;refine pe BJ (ac rfl ((am S.below Fj) 0 _ rfl)) (pa BJ (en Hp (ah (pM Bq Bm ?_))));obtain ⟨Dc,Fk,F⟩:=ob F;refine dy (wA:=D) rfl rfl Bo (.inl (congrArg some rfl)) (.inr ⟨rfl,rfl⟩) Fk (dt rfl) ?_;intro CA CB;refine pa CA (en D1 ?_);refine sR fun _ D2=>?_;refine pM J Y (pe (i_ (U.length:Int)) (aq rfl (S.rdAt (R:=(ak (roR D R0_) 26)) 0 rfl)) (pe (.bool ((U.length:Int) == 0)) (bG rfl rfl) (pm (.bool ((U.length:Int) == 0)) ?_)));rcases oif F with ⟨Bw,F⟩|⟨Bw,F⟩
     ·refine eo Bw (eo Bw (eo Bw (eo Bw (eo Bw (eo Bw (eo Bw (eo Bw (eo Bw (pe (.bool true) (aA rfl Bw rfl) (en D2 (ct rfl (ah (pM J Y (pm BJ ?_))))))))))))));refine av [BJ] (aQ rfl (oc BT)) (by rfl) (dt rfl) rfl (dt rfl) S (dt rfl) ?_;intro Hq Hr S I6;obtain ⟨Hs,Fl,F⟩:=ob F;have Dx:=S.boxRow 0 rfl;replace S:Sat D Hq [Own (ak (roR D R0_) 26) [J] U,Box Hr 26 [BJ]]:=S.top 1 rfl;replace S:=S.roOne (R:=R0_) (W:=D) BT;replace S:=S.one;refine az rfl (dt rfl) rfl (dt rfl) S rfl rfl rfl (by simp) Dx Fl (dt rfl) ?_;intro J6 D3 S;refine pa D3 (ag (bn BE (tn Br ?_)));replace S:=S.keep 1;exact ⟨Bp,Bs,CA,Dc,D3,Hs,Z,rfl,rfl,S,Bn,CB,F⟩
     refine ei Bw (pM J Y (ei Bw (pM J Y (ei Bw (pe (i_ (U.length:Int)) (aq rfl (S.rdAt (R:=(ak (roR D R0_) 26)) 0 rfl)) (ei Bw ?_))))));obtain ⟨Ht,Fm,F⟩:=ob F;refine pe (i_ Ht) (cb rfl rfl Fm) (ei Bw ?_);obtain ⟨J7,Fn,F⟩:=ob F;refine aJ (wA:=Db) rfl (S.rdAt (R:=(ak (roR D R0_) 26)) 0 rfl) rfl (dt rfl) rfl Fn (dt rfl) ?_;intro J8 I7 J9 Cd B3;replace Cd:R0_.rd D _ _:=Cd;obtain ⟨Hu,rfl⟩:=au Cd;refine ei Bw (pe Hu (ac rfl (B3 0 _ rfl)) (ei Bw (pm BJ (ei Bw ?_))));obtain ⟨D4,Fo,F⟩:=ob F;refine ec0 fR (bt (S.up Cd) (S.up BT) Fo) (ca (ai rfl (ai rfl rfl))) S fun Ka Fp S=>?_;have B3:=am Fp B3;refine ei Bw (pe (.bool (D4 != 0)) (cv rfl rfl) (pe (.bool (D4 != 0)) (aC rfl Bw rfl) (en D2 ?_)));rcases oif F with ⟨CC,F⟩|⟨CC,F⟩
     ·refine ct CC (ah (pM J Y (pm BJ ?_)));refine av [BJ] (aQ rfl (oc BT)) (by rfl) (dt rfl) rfl (dt rfl) S (dt rfl) ?_;intro Hv Hw S Fq;have B3:=am Fq B3;obtain ⟨Hx,Fr,F⟩:=ob F;have Dy:=S.boxRow 0 rfl;replace S:Sat D Hv [Own (ak (roR D R0_) 26) [J] U,Box Hw 26 [BJ]]:=S.top 1 rfl;replace S:=S.roOne (R:=R0_) (W:=D) BT;replace S:=S.one;refine az rfl (dt rfl) rfl (dt rfl) S rfl rfl rfl (by simp) Dy Fr (dt rfl) ?_;intro Kb D5 S;refine pa D5 (ag (bn BE (tn Br ?_)));replace S:=S.keep 1;exact ⟨Bp,Bs,CA,Dc,D5,Hx,Z,rfl,rfl,S,Bn,CB,F⟩
     refine cf CC (aV (bn BE (tn Br ?_)));replace S:=S.keep 1;exact ⟨Bp,Bs,CA,Dc,J,U,Z,rfl,Y,S,Bn,CB,F⟩
    refine cf Cz ?_;refine sR fun _ Hy=>?_;refine pM Bp Z ?_;obtain ⟨Kc,Fs,F⟩:=ob F;refine aJ (wA:=D) rfl Bn rfl (dt rfl) rfl Fs (dt rfl) ?_;intro Kd I8 Ke BU Ft;obtain ⟨BK,rfl⟩:=au BU;refine pe BK (ac rfl ((am S.below Ft) 0 _ rfl)) (pa BK (en Hy (ah (pM Bp Z ?_))));obtain ⟨Dd,Fu,F⟩:=ob F;refine dy (wA:=D) rfl rfl Bn (.inl (congrArg some rfl)) (.inr ⟨rfl,rfl⟩) Fu (dt rfl) ?_;intro CD CE;refine pa CD (en D1 ?_);refine sR fun _ D6=>?_;refine pM J Y (pe (i_ (U.length:Int)) (aq rfl (S.rdAt (R:=(ak (roR D R0_) 26)) 0 rfl)) (pe (.bool ((U.length:Int) == 0)) (bG rfl rfl) (pm (.bool ((U.length:Int) == 0)) ?_)));rcases oif F with ⟨Bx,F⟩|⟨Bx,F⟩
    ·refine eo Bx (eo Bx (eo Bx (eo Bx (eo Bx (eo Bx (eo Bx (eo Bx (eo Bx (pe (.bool true) (aA rfl Bx rfl) (en D6 (ct rfl (ah (pM J Y (pm BK ?_))))))))))))));refine av [BK] (aQ rfl (oc BU)) (by rfl) (dt rfl) rfl (dt rfl) S (dt rfl) ?_;intro Hz HA S I9;obtain ⟨HB,Fv,F⟩:=ob F;have Dz:=S.boxRow 0 rfl;replace S:Sat D Hz [Own (ak (roR D R0_) 26) [J] U,Box HA 26 [BK]]:=S.top 1 rfl;replace S:=S.roOne (R:=R0_) (W:=D) BU;replace S:=S.one;refine az rfl (dt rfl) rfl (dt rfl) S rfl rfl rfl (by simp) Dz Fv (dt rfl) ?_;intro Kf D7 S;refine pa D7 (ag (bn BE (tn Br ?_)));replace S:=S.keep 1;exact ⟨CD,Dd,Bq,Bt,D7,HB,rfl,Bm,rfl,S,CE,Bo,F⟩
    refine ei Bx (pM J Y (ei Bx (pM J Y (ei Bx (pe (i_ (U.length:Int)) (aq rfl (S.rdAt (R:=(ak (roR D R0_) 26)) 0 rfl)) (ei Bx ?_))))));obtain ⟨HC,Fw,F⟩:=ob F;refine pe (i_ HC) (cb rfl rfl Fw) (ei Bx ?_);obtain ⟨Kg,Fx,F⟩:=ob F;refine aJ (wA:=Db) rfl (S.rdAt (R:=(ak (roR D R0_) 26)) 0 rfl) rfl (dt rfl) rfl Fx (dt rfl) ?_;intro Kh Ja Ki Ce B4;replace Ce:R0_.rd D _ _:=Ce;obtain ⟨HD,rfl⟩:=au Ce;refine ei Bx (pe HD (ac rfl (B4 0 _ rfl)) (ei Bx (pm BK (ei Bx ?_))));obtain ⟨D8,Fy,F⟩:=ob F;refine ec0 fR (bt (S.up Ce) (S.up BU) Fy) (ca (ai rfl (ai rfl rfl))) S fun Kj Fz S=>?_;have B4:=am Fz B4;refine ei Bx (pe (.bool (D8 != 0)) (cv rfl rfl) (pe (.bool (D8 != 0)) (aC rfl Bx rfl) (en D6 ?_)));rcases oif F with ⟨CF,F⟩|⟨CF,F⟩
    ·refine ct CF (ah (pM J Y (pm BK ?_)));refine av [BK] (aQ rfl (oc BU)) (by rfl) (dt rfl) rfl (dt rfl) S (dt rfl) ?_;intro HE HF S FA;have B4:=am FA B4;obtain ⟨HG,FB,F⟩:=ob F;have DA:=S.boxRow 0 rfl;replace S:Sat D HE [Own (ak (roR D R0_) 26) [J] U,Box HF 26 [BK]]:=S.top 1 rfl;replace S:=S.roOne (R:=R0_) (W:=D) BU;replace S:=S.one;refine az rfl (dt rfl) rfl (dt rfl) S rfl rfl rfl (by simp) DA FB (dt rfl) ?_;intro Kk D9 S;refine pa D9 (ag (bn BE (tn Br ?_)));replace S:=S.keep 1;exact ⟨CD,Dd,Bq,Bt,D9,HG,rfl,Bm,rfl,S,CE,Bo,F⟩
    refine cf CF (aV (bn BE (tn Br ?_)));replace S:=S.keep 1;exact ⟨CD,Dd,Bq,Bt,J,U,rfl,Bm,Y,S,CE,Bo,F⟩
   refine cf Cx (ah (pa (i_ (-1)) (ag (bn C7 (tn C6 ?_)))));refine sR fun _ HH=>?_;refine aY a7 S (dt rfl) ?_;intro De HI S Jb;refine pa HI (en HH ?_);refine sg fun _ Ea=>?_;refine sg fun _ HJ=>?_;replace S:Sat D De [Own (ak (roR D R0_) 26) [J] U]:=S.rems 2 [0] rfl;refine ah (pm (i_ (-1)) (pe (.bool (decide (0 < ((-1):Int)))) (bz rfl rfl) (en HJ ?_)));rcases oif F with ⟨CG,F⟩|⟨CG,F⟩
   ·refine ct CG ?_;refine sR fun _ HK=>?_;refine pM Bq Bm ?_;obtain ⟨Kl,FC,F⟩:=ob F;refine aJ (wA:=D) rfl Bo rfl (dt rfl) rfl FC (dt rfl) ?_;intro Km Jc Kn BV FD;obtain ⟨BL,rfl⟩:=au BV;refine pe BL (ac rfl ((am S.below FD) 0 _ rfl)) (pa BL (en HK (ah (pM Bq Bm ?_))));obtain ⟨Df,FE,F⟩:=ob F;refine dy (wA:=D) rfl rfl Bo (.inl (congrArg some rfl)) (.inr ⟨rfl,rfl⟩) FE (dt rfl) ?_;intro CH CI;refine pa CH (en Ea ?_);refine sR fun _ Eb=>?_;refine pM J Y (pe (i_ (U.length:Int)) (aq rfl (S.rdAt (R:=(ak (roR D R0_) 26)) 0 rfl)) (pe (.bool ((U.length:Int) == 0)) (bG rfl rfl) (pm (.bool ((U.length:Int) == 0)) ?_)));rcases oif F with ⟨By,F⟩|⟨By,F⟩
    ·refine eo By (eo By (eo By (eo By (eo By (eo By (eo By (eo By (eo By (pe (.bool true) (aA rfl By rfl) (en Eb (ct rfl (ah (pM J Y (pm BL ?_))))))))))))));refine av [BL] (aQ rfl (oc BV)) (by rfl) (dt rfl) rfl (dt rfl) S (dt rfl) ?_;intro HL HM S Jd;obtain ⟨HN,FF,F⟩:=ob F;have DB:=S.boxRow 0 rfl;replace S:Sat D HL [Own (ak (roR D R0_) 26) [J] U,Box HM 26 [BL]]:=S.top 1 rfl;replace S:=S.roOne (R:=R0_) (W:=D) BV;replace S:=S.one;refine az rfl (dt rfl) rfl (dt rfl) S rfl rfl rfl (by simp) DB FF (dt rfl) ?_;intro Ko Ec S;refine pa Ec (ag (bn BE (tn Br ?_)));replace S:=S.keep 1;exact ⟨Bp,Bs,CH,Df,Ec,HN,Z,rfl,rfl,S,Bn,CI,F⟩
    refine ei By (pM J Y (ei By (pM J Y (ei By (pe (i_ (U.length:Int)) (aq rfl (S.rdAt (R:=(ak (roR D R0_) 26)) 0 rfl)) (ei By ?_))))));obtain ⟨HO,FG,F⟩:=ob F;refine pe (i_ HO) (cb rfl rfl FG) (ei By ?_);obtain ⟨Kp,FH,F⟩:=ob F;refine aJ (wA:=De) rfl (S.rdAt (R:=(ak (roR D R0_) 26)) 0 rfl) rfl (dt rfl) rfl FH (dt rfl) ?_;intro Kq Je Kr Cf B5;replace Cf:R0_.rd D _ _:=Cf;obtain ⟨HP,rfl⟩:=au Cf;refine ei By (pe HP (ac rfl (B5 0 _ rfl)) (ei By (pm BL (ei By ?_))));obtain ⟨Ed,FI,F⟩:=ob F;refine ec0 fR (bt (S.up Cf) (S.up BV) FI) (ca (ai rfl (ai rfl rfl))) S fun Ks FJ S=>?_;have B5:=am FJ B5;refine ei By (pe (.bool (Ed != 0)) (cv rfl rfl) (pe (.bool (Ed != 0)) (aC rfl By rfl) (en Eb ?_)));rcases oif F with ⟨CJ,F⟩|⟨CJ,F⟩
    ·refine ct CJ (ah (pM J Y (pm BL ?_)));refine av [BL] (aQ rfl (oc BV)) (by rfl) (dt rfl) rfl (dt rfl) S (dt rfl) ?_;intro HQ HR S FK;have B5:=am FK B5;obtain ⟨HS,FL,F⟩:=ob F;have DC:=S.boxRow 0 rfl;replace S:Sat D HQ [Own (ak (roR D R0_) 26) [J] U,Box HR 26 [BL]]:=S.top 1 rfl;replace S:=S.roOne (R:=R0_) (W:=D) BV;replace S:=S.one;refine az rfl (dt rfl) rfl (dt rfl) S rfl rfl rfl (by simp) DC FL (dt rfl) ?_;intro Kt Ee S;refine pa Ee (ag (bn BE (tn Br ?_)));replace S:=S.keep 1;exact ⟨Bp,Bs,CH,Df,Ee,HS,Z,rfl,rfl,S,Bn,CI,F⟩
    refine cf CJ (aV (bn BE (tn Br ?_)));replace S:=S.keep 1;exact ⟨Bp,Bs,CH,Df,J,U,Z,rfl,Y,S,Bn,CI,F⟩
   refine cf CG ?_;refine sR fun _ HT=>?_;refine pM Bp Z ?_;obtain ⟨Ku,FM,F⟩:=ob F;refine aJ (wA:=D) rfl Bn rfl (dt rfl) rfl FM (dt rfl) ?_;intro Kv Jf Kw BW FN;obtain ⟨BM,rfl⟩:=au BW;refine pe BM (ac rfl ((am S.below FN) 0 _ rfl)) (pa BM (en HT (ah (pM Bp Z ?_))));obtain ⟨Dg,FO,F⟩:=ob F;refine dy (wA:=D) rfl rfl Bn (.inl (congrArg some rfl)) (.inr ⟨rfl,rfl⟩) FO (dt rfl) ?_;intro CK CL;refine pa CK (en Ea ?_);refine sR fun _ Ef=>?_;refine pM J Y (pe (i_ (U.length:Int)) (aq rfl (S.rdAt (R:=(ak (roR D R0_) 26)) 0 rfl)) (pe (.bool ((U.length:Int) == 0)) (bG rfl rfl) (pm (.bool ((U.length:Int) == 0)) ?_)));rcases oif F with ⟨Bz,F⟩|⟨Bz,F⟩
   ·refine eo Bz (eo Bz (eo Bz (eo Bz (eo Bz (eo Bz (eo Bz (eo Bz (eo Bz (pe (.bool true) (aA rfl Bz rfl) (en Ef (ct rfl (ah (pM J Y (pm BM ?_))))))))))))));refine av [BM] (aQ rfl (oc BW)) (by rfl) (dt rfl) rfl (dt rfl) S (dt rfl) ?_;intro HU HV S Jg;obtain ⟨HW,FP,F⟩:=ob F;have DD:=S.boxRow 0 rfl;replace S:Sat D HU [Own (ak (roR D R0_) 26) [J] U,Box HV 26 [BM]]:=S.top 1 rfl;replace S:=S.roOne (R:=R0_) (W:=D) BW;replace S:=S.one;refine az rfl (dt rfl) rfl (dt rfl) S rfl rfl rfl (by simp) DD FP (dt rfl) ?_;intro Kx Eg S;refine pa Eg (ag (bn BE (tn Br ?_)));replace S:=S.keep 1;exact ⟨CK,Dg,Bq,Bt,Eg,HW,rfl,Bm,rfl,S,CL,Bo,F⟩
   refine ei Bz (pM J Y (ei Bz (pM J Y (ei Bz (pe (i_ (U.length:Int)) (aq rfl (S.rdAt (R:=(ak (roR D R0_) 26)) 0 rfl)) (ei Bz ?_))))));obtain ⟨HX,FQ,F⟩:=ob F;refine pe (i_ HX) (cb rfl rfl FQ) (ei Bz ?_);obtain ⟨Ky,FR,F⟩:=ob F;refine aJ (wA:=De) rfl (S.rdAt (R:=(ak (roR D R0_) 26)) 0 rfl) rfl (dt rfl) rfl FR (dt rfl) ?_;intro Kz Jh KA Cg B6;replace Cg:R0_.rd D _ _:=Cg;obtain ⟨HY,rfl⟩:=au Cg;refine ei Bz (pe HY (ac rfl (B6 0 _ rfl)) (ei Bz (pm BM (ei Bz ?_))));obtain ⟨Eh,FS,F⟩:=ob F;refine ec0 fR (bt (S.up Cg) (S.up BW) FS) (ca (ai rfl (ai rfl rfl))) S fun KB FT S=>?_;have B6:=am FT B6;refine ei Bz (pe (.bool (Eh != 0)) (cv rfl rfl) (pe (.bool (Eh != 0)) (aC rfl Bz rfl) (en Ef ?_)));rcases oif F with ⟨CM,F⟩|⟨CM,F⟩
   ·refine ct CM (ah (pM J Y (pm BM ?_)));refine av [BM] (aQ rfl (oc BW)) (by rfl) (dt rfl) rfl (dt rfl) S (dt rfl) ?_;intro HZ H0 S FU;have B6:=am FU B6;obtain ⟨H1,FV,F⟩:=ob F;have DE:=S.boxRow 0 rfl;replace S:Sat D HZ [Own (ak (roR D R0_) 26) [J] U,Box H0 26 [BM]]:=S.top 1 rfl;replace S:=S.roOne (R:=R0_) (W:=D) BW;replace S:=S.one;refine az rfl (dt rfl) rfl (dt rfl) S rfl rfl rfl (by simp) DE FV (dt rfl) ?_;intro KC Ei S;refine pa Ei (ag (bn BE (tn Br ?_)));replace S:=S.keep 1;exact ⟨CK,Dg,Bq,Bt,Ei,H1,rfl,Bm,rfl,S,CL,Bo,F⟩
   refine cf CM (aV (bn BE (tn Br ?_)));replace S:=S.keep 1;exact ⟨CK,Dg,Bq,Bt,J,U,rfl,Bm,Y,S,CL,Bo,F⟩
  refine ei BG (pM Bq Bm (ei BG (pe (i_ (Bt.length:Int)) (aq rfl Bo) (ei BG (pe (.bool (decide (0 < (Bt.length:Int)))) (bz rfl rfl) (pe (.bool (decide (0 < (Bt.length:Int)))) (aC rfl BG rfl) (en DR ?_)))))));rcases oif F with ⟨Ch,F⟩|⟨Ch,F⟩
  ·refine ct Ch (sn C5 ?_);refine bg fun _ BF=>?_;refine sR fun _ H2=>?_;refine pa (i_ 0) (en H2 ?_);refine sg fun _ Ej=>?_;refine bg fun _ Ek=>?_;refine sR fun _ H3=>?_;refine pM Bp Z (pe (i_ (Bs.length:Int)) (aq rfl Bn) (pe (.bool ((Bs.length:Int) == 0)) (bG rfl rfl) (pa (.bool ((Bs.length:Int) == 0)) (en H3 ?_))));rcases oif F with ⟨CN,F⟩|⟨CN,F⟩
   ·refine ct CN (ah (pa (i_ 1) (ag (bn Ek (tn Ej ?_)))));refine sR fun _ H4=>?_;refine aY a7 S (dt rfl) ?_;intro Dh H5 S Ji;refine pa H5 (en H4 ?_);refine sg fun _ El=>?_;refine sg fun _ H6=>?_;replace S:Sat D Dh [Own (ak (roR D R0_) 26) [J] U]:=S.rems 2 [0] rfl;refine ah (pm (i_ 1) (pe (.bool (decide (0 < (1:Int)))) (bz rfl rfl) (en H6 ?_)));rcases oif F with ⟨CO,F⟩|⟨CO,F⟩
    ·refine ct CO ?_;refine sR fun _ H7=>?_;refine pM Bq Bm ?_;obtain ⟨KD,FW,F⟩:=ob F;refine aJ (wA:=D) rfl Bo rfl (dt rfl) rfl FW (dt rfl) ?_;intro KE Jj KF BX FX;obtain ⟨BN,rfl⟩:=au BX;refine pe BN (ac rfl ((am S.below FX) 0 _ rfl)) (pa BN (en H7 (ah (pM Bq Bm ?_))));obtain ⟨Di,FY,F⟩:=ob F;refine dy (wA:=D) rfl rfl Bo (.inl (congrArg some rfl)) (.inr ⟨rfl,rfl⟩) FY (dt rfl) ?_;intro CP CQ;refine pa CP (en El ?_);refine sR fun _ Em=>?_;refine pM J Y (pe (i_ (U.length:Int)) (aq rfl (S.rdAt (R:=(ak (roR D R0_) 26)) 0 rfl)) (pe (.bool ((U.length:Int) == 0)) (bG rfl rfl) (pm (.bool ((U.length:Int) == 0)) ?_)));rcases oif F with ⟨BA,F⟩|⟨BA,F⟩
     ·refine eo BA (eo BA (eo BA (eo BA (eo BA (eo BA (eo BA (eo BA (eo BA (pe (.bool true) (aA rfl BA rfl) (en Em (ct rfl (ah (pM J Y (pm BN ?_))))))))))))));refine av [BN] (aQ rfl (oc BX)) (by rfl) (dt rfl) rfl (dt rfl) S (dt rfl) ?_;intro H8 H9 S Jk;obtain ⟨Ia,FZ,F⟩:=ob F;have DF:=S.boxRow 0 rfl;replace S:Sat D H8 [Own (ak (roR D R0_) 26) [J] U,Box H9 26 [BN]]:=S.top 1 rfl;replace S:=S.roOne (R:=R0_) (W:=D) BX;replace S:=S.one;refine az rfl (dt rfl) rfl (dt rfl) S rfl rfl rfl (by simp) DF FZ (dt rfl) ?_;intro KG En S;refine pa En (ag (bn BF (tn Br ?_)));replace S:=S.keep 1;exact ⟨Bp,Bs,CP,Di,En,Ia,Z,rfl,rfl,S,Bn,CQ,F⟩
     refine ei BA (pM J Y (ei BA (pM J Y (ei BA (pe (i_ (U.length:Int)) (aq rfl (S.rdAt (R:=(ak (roR D R0_) 26)) 0 rfl)) (ei BA ?_))))));obtain ⟨Ib,F0,F⟩:=ob F;refine pe (i_ Ib) (cb rfl rfl F0) (ei BA ?_);obtain ⟨KH,F1,F⟩:=ob F;refine aJ (wA:=Dh) rfl (S.rdAt (R:=(ak (roR D R0_) 26)) 0 rfl) rfl (dt rfl) rfl F1 (dt rfl) ?_;intro KI Jl KJ Ci B7;replace Ci:R0_.rd D _ _:=Ci;obtain ⟨Ic,rfl⟩:=au Ci;refine ei BA (pe Ic (ac rfl (B7 0 _ rfl)) (ei BA (pm BN (ei BA ?_))));obtain ⟨Eo,F3,F⟩:=ob F;refine ec0 fR (bt (S.up Ci) (S.up BX) F3) (ca (ai rfl (ai rfl rfl))) S fun KK F4 S=>?_;have B7:=am F4 B7;refine ei BA (pe (.bool (Eo != 0)) (cv rfl rfl) (pe (.bool (Eo != 0)) (aC rfl BA rfl) (en Em ?_)));rcases oif F with ⟨CR,F⟩|⟨CR,F⟩
     ·refine ct CR (ah (pM J Y (pm BN ?_)));refine av [BN] (aQ rfl (oc BX)) (by rfl) (dt rfl) rfl (dt rfl) S (dt rfl) ?_;intro Id Ie S F5;have B7:=am F5 B7;obtain ⟨If,F6,F⟩:=ob F;have DG:=S.boxRow 0 rfl;replace S:Sat D Id [Own (ak (roR D R0_) 26) [J] U,Box Ie 26 [BN]]:=S.top 1 rfl;replace S:=S.roOne (R:=R0_) (W:=D) BX;replace S:=S.one;refine az rfl (dt rfl) rfl (dt rfl) S rfl rfl rfl (by simp) DG F6 (dt rfl) ?_;intro KL Ep S;refine pa Ep (ag (bn BF (tn Br ?_)));replace S:=S.keep 1;exact ⟨Bp,Bs,CP,Di,Ep,If,Z,rfl,rfl,S,Bn,CQ,F⟩
     refine cf CR (aV (bn BF (tn Br ?_)));replace S:=S.keep 1;exact ⟨Bp,Bs,CP,Di,J,U,Z,rfl,Y,S,Bn,CQ,F⟩
    refine cf CO ?_;refine sR fun _ Ig=>?_;refine pM Bp Z ?_;obtain ⟨KM,F7,F⟩:=ob F;refine aJ (wA:=D) rfl Bn rfl (dt rfl) rfl F7 (dt rfl) ?_;intro KN Jm KO BY F8;obtain ⟨BO,rfl⟩:=au BY;refine pe BO (ac rfl ((am S.below F8) 0 _ rfl)) (pa BO (en Ig (ah (pM Bp Z ?_))));obtain ⟨Dj,F9,F⟩:=ob F;refine dy (wA:=D) rfl rfl Bn (.inl (congrArg some rfl)) (.inr ⟨rfl,rfl⟩) F9 (dt rfl) ?_;intro CS CT;refine pa CS (en El ?_);refine sR fun _ Er=>?_;refine pM J Y (pe (i_ (U.length:Int)) (aq rfl (S.rdAt (R:=(ak (roR D R0_) 26)) 0 rfl)) (pe (.bool ((U.length:Int) == 0)) (bG rfl rfl) (pm (.bool ((U.length:Int) == 0)) ?_)));rcases oif F with ⟨BB,F⟩|⟨BB,F⟩
    ·refine eo BB (eo BB (eo BB (eo BB (eo BB (eo BB (eo BB (eo BB (eo BB (pe (.bool true) (aA rfl BB rfl) (en Er (ct rfl (ah (pM J Y (pm BO ?_))))))))))))));refine av [BO] (aQ rfl (oc BY)) (by rfl) (dt rfl) rfl (dt rfl) S (dt rfl) ?_;intro Ih Ii S Jn;obtain ⟨Ij,Ga,F⟩:=ob F;have DH:=S.boxRow 0 rfl;replace S:Sat D Ih [Own (ak (roR D R0_) 26) [J] U,Box Ii 26 [BO]]:=S.top 1 rfl;replace S:=S.roOne (R:=R0_) (W:=D) BY;replace S:=S.one;refine az rfl (dt rfl) rfl (dt rfl) S rfl rfl rfl (by simp) DH Ga (dt rfl) ?_;intro KP Es S;refine pa Es (ag (bn BF (tn Br ?_)));replace S:=S.keep 1;exact ⟨CS,Dj,Bq,Bt,Es,Ij,rfl,Bm,rfl,S,CT,Bo,F⟩
    refine ei BB (pM J Y (ei BB (pM J Y (ei BB (pe (i_ (U.length:Int)) (aq rfl (S.rdAt (R:=(ak (roR D R0_) 26)) 0 rfl)) (ei BB ?_))))));obtain ⟨Ik,Gb,F⟩:=ob F;refine pe (i_ Ik) (cb rfl rfl Gb) (ei BB ?_);obtain ⟨KR,Gc,F⟩:=ob F;refine aJ (wA:=Dh) rfl (S.rdAt (R:=(ak (roR D R0_) 26)) 0 rfl) rfl (dt rfl) rfl Gc (dt rfl) ?_;intro KS Jo KT Cj B8;replace Cj:R0_.rd D _ _:=Cj;obtain ⟨Il,rfl⟩:=au Cj;refine ei BB (pe Il (ac rfl (B8 0 _ rfl)) (ei BB (pm BO (ei BB ?_))));obtain ⟨Et,Gd,F⟩:=ob F;refine ec0 fR (bt (S.up Cj) (S.up BY) Gd) (ca (ai rfl (ai rfl rfl))) S fun KU Ge S=>?_;have B8:=am Ge B8;refine ei BB (pe (.bool (Et != 0)) (cv rfl rfl) (pe (.bool (Et != 0)) (aC rfl BB rfl) (en Er ?_)));rcases oif F with ⟨CU,F⟩|⟨CU,F⟩
    ·refine ct CU (ah (pM J Y (pm BO ?_)));refine av [BO] (aQ rfl (oc BY)) (by rfl) (dt rfl) rfl (dt rfl) S (dt rfl) ?_;intro Im In S Gf;have B8:=am Gf B8;obtain ⟨Io,Gg,F⟩:=ob F;have DI:=S.boxRow 0 rfl;replace S:Sat D Im [Own (ak (roR D R0_) 26) [J] U,Box In 26 [BO]]:=S.top 1 rfl;replace S:=S.roOne (R:=R0_) (W:=D) BY;replace S:=S.one;refine az rfl (dt rfl) rfl (dt rfl) S rfl rfl rfl (by simp) DI Gg (dt rfl) ?_;intro KV Eu S;refine pa Eu (ag (bn BF (tn Br ?_)));replace S:=S.keep 1;exact ⟨CS,Dj,Bq,Bt,Eu,Io,rfl,Bm,rfl,S,CT,Bo,F⟩
    refine cf CU (aV (bn BF (tn Br ?_)));replace S:=S.keep 1;exact ⟨CS,Dj,Bq,Bt,J,U,rfl,Bm,Y,S,CT,Bo,F⟩
   refine cf CN ?_;refine sR fun _ Ip=>?_;refine pM Bq Bm (pe (i_ (Bt.length:Int)) (aq rfl Bo) (pe (.bool (decide (0 < (Bt.length:Int)))) (bz rfl rfl) (pa (.bool (decide (0 < (Bt.length:Int)))) (en Ip (ct Ch ?_)))));refine bD (by kernel_rfl) (by kernel_rfl) ?_;refine qM Bp Z ?_;obtain ⟨KW,Gh,F⟩:=ob F;refine aT (wA:=D) rfl Bn rfl (dt rfl) rfl Gh (dt rfl) ?_;intro KX Jp KY Dr Gi;obtain ⟨Iq,rfl⟩:=au Dr;refine qe Iq (ac rfl ((am S.below Gi) 0 _ rfl)) (qM Bq Bm ?_);obtain ⟨KZ,Gj,F⟩:=ob F;refine aT (wA:=D) rfl Bo rfl (dt rfl) rfl Gj (dt rfl) ?_;intro K0 Jq K3 Ds Gk;obtain ⟨Ir,rfl⟩:=au Ds;refine qe Ir (ac rfl ((am S.below Gk) 0 _ rfl)) ?_;obtain ⟨CV,Gl,F⟩:=ob F;refine cI (i_ CV) fR (fun w' hw'=>bt (bl (S.up Dr) hw') (bl (S.up Ds) hw') Gl) (ca (ai rfl (ai rfl rfl))) (dt rfl) ?_;refine qe (i_ CV) (ez rfl) (a9 ?_);intro K4 Gm;replace S:=S.ext Gm;refine bn Ek (tn Ej ?_);refine sR fun _ Is=>?_;refine aY a7 S (dt rfl) ?_;intro Dk It S Jr;refine pa It (en Is ?_);refine sg fun _ Ev=>?_;refine sg fun _ Iu=>?_;replace S:Sat D Dk [Own (ak (roR D R0_) 26) [J] U]:=S.rems 2 [0] rfl;refine ah (pm (i_ CV) (pe (.bool (decide (0 < CV))) (bz rfl rfl) (en Iu ?_)));rcases oif F with ⟨CX,F⟩|⟨CX,F⟩
   ·refine ct CX ?_;refine sR fun _ Iv=>?_;refine pM Bq Bm ?_;obtain ⟨K5,Gn,F⟩:=ob F;refine aJ (wA:=D) rfl Bo rfl (dt rfl) rfl Gn (dt rfl) ?_;intro K6 Js K7 BZ Gp;obtain ⟨BP,rfl⟩:=au BZ;refine pe BP (ac rfl ((am S.below Gp) 0 _ rfl)) (pa BP (en Iv (ah (pM Bq Bm ?_))));obtain ⟨Dl,Gq,F⟩:=ob F;refine dy (wA:=D) rfl rfl Bo (.inl (congrArg some rfl)) (.inr ⟨rfl,rfl⟩) Gq (dt rfl) ?_;intro CY CZ;refine pa CY (en Ev ?_);refine sR fun _ Ew=>?_;refine pM J Y (pe (i_ (U.length:Int)) (aq rfl (S.rdAt (R:=(ak (roR D R0_) 26)) 0 rfl)) (pe (.bool ((U.length:Int) == 0)) (bG rfl rfl) (pm (.bool ((U.length:Int) == 0)) ?_)));rcases oif F with ⟨BC,F⟩|⟨BC,F⟩
    ·refine eo BC (eo BC (eo BC (eo BC (eo BC (eo BC (eo BC (eo BC (eo BC (pe (.bool true) (aA rfl BC rfl) (en Ew (ct rfl (ah (pM J Y (pm BP ?_))))))))))))));refine av [BP] (aQ rfl (oc BZ)) (by rfl) (dt rfl) rfl (dt rfl) S (dt rfl) ?_;intro Iw Ix S Jt;obtain ⟨Iy,Gr,F⟩:=ob F;have DJ:=S.boxRow 0 rfl;replace S:Sat D Iw [Own (ak (roR D R0_) 26) [J] U,Box Ix 26 [BP]]:=S.top 1 rfl;replace S:=S.roOne (R:=R0_) (W:=D) BZ;replace S:=S.one;refine az rfl (dt rfl) rfl (dt rfl) S rfl rfl rfl (by simp) DJ Gr (dt rfl) ?_;intro K8 Ex S;refine pa Ex (ag (bn BF (tn Br ?_)));replace S:=S.keep 1;exact ⟨Bp,Bs,CY,Dl,Ex,Iy,Z,rfl,rfl,S,Bn,CZ,F⟩
    refine ei BC (pM J Y (ei BC (pM J Y (ei BC (pe (i_ (U.length:Int)) (aq rfl (S.rdAt (R:=(ak (roR D R0_) 26)) 0 rfl)) (ei BC ?_))))));obtain ⟨Iz,Gs,F⟩:=ob F;refine pe (i_ Iz) (cb rfl rfl Gs) (ei BC ?_);obtain ⟨K9,Gt,F⟩:=ob F;refine aJ (wA:=Dk) rfl (S.rdAt (R:=(ak (roR D R0_) 26)) 0 rfl) rfl (dt rfl) rfl Gt (dt rfl) ?_;intro La Ju Lb Ck B9;replace Ck:R0_.rd D _ _:=Ck;obtain ⟨IA,rfl⟩:=au Ck;refine ei BC (pe IA (ac rfl (B9 0 _ rfl)) (ei BC (pm BP (ei BC ?_))));obtain ⟨Ey,Gu,F⟩:=ob F;refine ec0 fR (bt (S.up Ck) (S.up BZ) Gu) (ca (ai rfl (ai rfl rfl))) S fun Lc Gv S=>?_;have B9:=am Gv B9;refine ei BC (pe (.bool (Ey != 0)) (cv rfl rfl) (pe (.bool (Ey != 0)) (aC rfl BC rfl) (en Ew ?_)));rcases oif F with ⟨C0,F⟩|⟨C0,F⟩
    ·refine ct C0 (ah (pM J Y (pm BP ?_)));refine av [BP] (aQ rfl (oc BZ)) (by rfl) (dt rfl) rfl (dt rfl) S (dt rfl) ?_;intro IB IC S Gw;have B9:=am Gw B9;obtain ⟨ID,Gx,F⟩:=ob F;have DK:=S.boxRow 0 rfl;replace S:Sat D IB [Own (ak (roR D R0_) 26) [J] U,Box IC 26 [BP]]:=S.top 1 rfl;replace S:=S.roOne (R:=R0_) (W:=D) BZ;replace S:=S.one;refine az rfl (dt rfl) rfl (dt rfl) S rfl rfl rfl (by simp) DK Gx (dt rfl) ?_;intro Ld Ez S;refine pa Ez (ag (bn BF (tn Br ?_)));replace S:=S.keep 1;exact ⟨Bp,Bs,CY,Dl,Ez,ID,Z,rfl,rfl,S,Bn,CZ,F⟩
    refine cf C0 (aV (bn BF (tn Br ?_)));replace S:=S.keep 1;exact ⟨Bp,Bs,CY,Dl,J,U,Z,rfl,Y,S,Bn,CZ,F⟩
   refine cf CX ?_;refine sR fun _ IE=>?_;refine pM Bp Z ?_;obtain ⟨Le,Gy,F⟩:=ob F;refine aJ (wA:=D) rfl Bn rfl (dt rfl) rfl Gy (dt rfl) ?_;intro Lg Jv Lh B0 Gz;obtain ⟨BQ,rfl⟩:=au B0;refine pe BQ (ac rfl ((am S.below Gz) 0 _ rfl)) (pa BQ (en IE (ah (pM Bp Z ?_))));obtain ⟨Dm,GA,F⟩:=ob F;refine dy (wA:=D) rfl rfl Bn (.inl (congrArg some rfl)) (.inr ⟨rfl,rfl⟩) GA (dt rfl) ?_;intro C1 C2;refine pa C1 (en Ev ?_);refine sR fun _ EA=>?_;refine pM J Y (pe (i_ (U.length:Int)) (aq rfl (S.rdAt (R:=(ak (roR D R0_) 26)) 0 rfl)) (pe (.bool ((U.length:Int) == 0)) (bG rfl rfl) (pm (.bool ((U.length:Int) == 0)) ?_)));rcases oif F with ⟨BD,F⟩|⟨BD,F⟩
   ·refine eo BD (eo BD (eo BD (eo BD (eo BD (eo BD (eo BD (eo BD (eo BD (pe (.bool true) (aA rfl BD rfl) (en EA (ct rfl (ah (pM J Y (pm BQ ?_))))))))))))));refine av [BQ] (aQ rfl (oc B0)) (by rfl) (dt rfl) rfl (dt rfl) S (dt rfl) ?_;intro IF IG S Jw;obtain ⟨IH,GB,F⟩:=ob F;have DL:=S.boxRow 0 rfl;replace S:Sat D IF [Own (ak (roR D R0_) 26) [J] U,Box IG 26 [BQ]]:=S.top 1 rfl;replace S:=S.roOne (R:=R0_) (W:=D) B0;replace S:=S.one;refine az rfl (dt rfl) rfl (dt rfl) S rfl rfl rfl (by simp) DL GB (dt rfl) ?_;intro Li EB S;refine pa EB (ag (bn BF (tn Br ?_)));replace S:=S.keep 1;exact ⟨C1,Dm,Bq,Bt,EB,IH,rfl,Bm,rfl,S,C2,Bo,F⟩
   refine ei BD (pM J Y (ei BD (pM J Y (ei BD (pe (i_ (U.length:Int)) (aq rfl (S.rdAt (R:=(ak (roR D R0_) 26)) 0 rfl)) (ei BD ?_))))));obtain ⟨II,GC,F⟩:=ob F;refine pe (i_ II) (cb rfl rfl GC) (ei BD ?_);obtain ⟨Lj,GD,F⟩:=ob F;refine aJ (wA:=Dk) rfl (S.rdAt (R:=(ak (roR D R0_) 26)) 0 rfl) rfl (dt rfl) rfl GD (dt rfl) ?_;intro Lk Jx Ll Cl Ca;replace Cl:R0_.rd D _ _:=Cl;obtain ⟨IJ,rfl⟩:=au Cl;refine ei BD (pe IJ (ac rfl (Ca 0 _ rfl)) (ei BD (pm BQ (ei BD ?_))));obtain ⟨EC,GE,F⟩:=ob F;refine ec0 fR (bt (S.up Cl) (S.up B0) GE) (ca (ai rfl (ai rfl rfl))) S fun Lm GF S=>?_;have Ca:=am GF Ca;refine ei BD (pe (.bool (EC != 0)) (cv rfl rfl) (pe (.bool (EC != 0)) (aC rfl BD rfl) (en EA ?_)));rcases oif F with ⟨C3,F⟩|⟨C3,F⟩
   ·refine ct C3 (ah (pM J Y (pm BQ ?_)));refine av [BQ] (aQ rfl (oc B0)) (by rfl) (dt rfl) rfl (dt rfl) S (dt rfl) ?_;intro IK IL S GG;have Ca:=am GG Ca;obtain ⟨IM,GH,F⟩:=ob F;have DM:=S.boxRow 0 rfl;replace S:Sat D IK [Own (ak (roR D R0_) 26) [J] U,Box IL 26 [BQ]]:=S.top 1 rfl;replace S:=S.roOne (R:=R0_) (W:=D) B0;replace S:=S.one;refine az rfl (dt rfl) rfl (dt rfl) S rfl rfl rfl (by simp) DM GH (dt rfl) ?_;intro Ln ED S;refine pa ED (ag (bn BF (tn Br ?_)));replace S:=S.keep 1;exact ⟨C1,Dm,Bq,Bt,ED,IM,rfl,Bm,rfl,S,C2,Bo,F⟩
   refine cf C3 (aV (bn BF (tn Br ?_)));replace S:=S.keep 1;exact ⟨C1,Dm,Bq,Bt,J,U,rfl,Bm,Y,S,C2,Bo,F⟩
  refine cf Ch (aG (tx C5 (tx Br ?_)));replace F:=exB F ER;refine bS GS (tn GR ?_);refine sR fun _ IN=>?_;refine pM J Y (pa J (en IN (aj (aB rfl rfl ?_))));have hr:=Option.some.inj F;exact ⟨J,congrArg (fun (r:T1_)=>Ending.returned (J)) hr,(S.rebase EP).below,Eq.mp (congrArg (fun (r:T1_)=>R2_.rd GU [J] r) hr) (Ba S.below (S.rdAt (R:=(ak (roR D R0_) 26)) 0 rfl))⟩
theorem sk {w0 : World} {u0 : Value} {a0 : List T0_} (ha0 : R2_.rd w0 [u0] a0) {N : Nat} {r : T1_} (hF : fo N a0 = some r) :
    Calls Tryz.prog 77 #[u0] w0 fun e w' => ∃ (q0 : Value), e = .returned (q0) ∧ Ext w0 w' ∧ R2_.rd w' [q0] r := r6 N ha0 hF

end Go.Proofs.YtmnbfjhefejmoaaGreat
namespace Go.Proofs.YtmnbfjhefejmoaaGreat
open Go.RowKit
set_option maxRecDepth 100000
set_option maxHeartbeats 4000000
theorem jz {w0:World} {a0:Int} {u1:Value} {a1:List T0_} (ha1:R2_.rd w0 [u1] a1) {N:Nat} {r:T4_ × Bool} (F:dI N a0 a1=some r): Calls Tryz.prog 53 #[i_ a0,u1] w0 fun e w'=>∃ (q0:Value),e=.returned (.tuple #[.agg #[i_ r.1.1,q0],.bool r.2])∧Sat w0 w' [Own R2_ [q0] r.1.2] := by
 unfold dI at F;refine aD Tryz.func53 rfl rfl (dt rfl) ?_;have S:=Sat.start w0;refine sR fun _ B0=>?_;refine aU S (dt rfl) ?_;intro Ck Z S Cf;refine pa (.bool false) (en B0 ?_);refine sg fun _ Bw=>?_;refine sR fun _ B1=>?_;refine pa (i_ 0) (en B1 ?_);refine bg fun _ Bx=>?_;obtain ⟨B2,hL,Bq⟩:=ob F;refine aH (fun k e w=>∃ (Bm:Int),e 0=i_ a0∧e 1=u1∧e 4=.pointer (some ⟨Z,0,none⟩)∧e 6=i_ Bm∧Sat w0 w [Box Z 65 [i_ 0,n_]]∧c8 N k a0 a1 0 [] Bm=some B2) N ?_ ?_ ?_
 ·exact ⟨0,rfl,rfl,rfl,rfl,S,hL⟩
 ·rintro e w ⟨_,_,_,_,_,_,hz⟩; exact nomatch (show none=some _ from hz)
 rintro k Cl Cm ⟨Bm,Br,Bo,Y,Bp,S,F⟩;refine gn fun _ Bs=>?_;refine sg fun _ BH=>?_;refine sR fun _ B3=>?_;refine pM (i_ Bm) Bp (pM u1 Bo (pe (i_ (a1.length:Int)) (aq rfl ha1) (pe (.bool (decide (Bm < (a1.length:Int)))) (aF rfl rfl) (en B3 ?_))));rcases oif F with ⟨Bt,F⟩|⟨Bt,F⟩
 ·refine ct Bt (sn BH ?_);refine sg fun _ By=>?_;refine bg fun _ Bz=>?_;refine sR fun _ BI=>?_;refine pM u1 Bo (pM (i_ Bm) Bp ?_);obtain ⟨BA,BO,F⟩:=ob F;refine aJ (wA:=w0) rfl ha1 rfl (dt rfl) rfl BO (dt rfl) ?_;intro Cn Cg Co BF BP;obtain ⟨B4,rfl⟩:=au BF;refine pe B4 (ac rfl ((am S.below BP) 0 _ rfl)) (pe (i_ (BA.length:Int)) (aq rfl BF) (pM (i_ a0) Br (pe (.bool ((BA.length:Int) != a0)) (cv rfl rfl) (pm (.bool ((BA.length:Int) != a0)) ?_))));rcases oif F with ⟨D,F⟩|⟨D,F⟩
  ·refine eo D (eo D (eo D (eo D (eo D (eo D (pe (.bool true) (aA rfl D rfl) (en BI (ct rfl ?_))))))));refine sR fun _ B5=>?_;refine pe (.agg #[i_ 0,n_]) (bo [] [i_ 0,n_] rfl rfl) ?_;refine ax (S.top 0 rfl) Y [i_ 0,n_] rfl rfl (dt rfl) (all_cons rfl (all_cons rfl rfl)) ?_;intro BJ S;replace S:Sat w0 BJ [Box Z 65 [i_ 0,n_]]:=S;refine pa (.bool false) (en B5 (aj (br Bz (tr By (tr Bs (br Bx (tr Bw ?_)))))));replace F:=exL F Bq;replace S:=S.nil R0_ 26;refine dp (cs:=[i_ 0,n_]) rfl Y rfl (aK (S.boxAt 1 rfl)) rfl ?_;have hr:=Option.some.inj F;exact ⟨n_,congrArg (fun (r:T4_ × Bool)=>Ending.returned (.tuple #[.agg #[i_ r.1.1,n_],.bool r.2])) hr,Eq.mp (congrArg (fun (r:T4_ × Bool)=>Sat w0 BJ [Own R2_ [n_] r.1.2]) hr) (S.keep 1)⟩
  refine ei D (pM u1 Bo (ei D (pM (i_ Bm) Bp (ei D ?_))));obtain ⟨Cp,BQ,F⟩:=ob F;refine aJ (wA:=w0) rfl ha1 rfl (dt rfl) rfl BQ (dt rfl) ?_;intro Cq Ch Cr BG BR;obtain ⟨B6,rfl⟩:=au BG;refine ei D (pe B6 (ac rfl ((am S.below BR) 0 _ rfl)) (ei D ?_));obtain ⟨BK,BS,F⟩:=ob F;refine ec0 xf (kp (S.up BG) BS) (ca (ai rfl rfl)) S fun Cs Ci S=>?_;refine ei D (pe (.bool (!BK)) (aZ rfl) (pe (.bool (!BK)) (aC rfl D rfl) (en BI ?_)));rcases oif F with ⟨Bu,F⟩|⟨Bu,F⟩
  ·refine cf (an Bu) (aV (bn Bz (tn By (ah (pM (i_ Bm) Bp ?_)))));obtain ⟨BB,BT,F⟩:=ob F;refine pe (i_ BB) (aE rfl rfl BT) (pa (i_ BB) (en Bs ?_));replace S:=S.keep 1;exact ⟨BB,Br,Bo,Y,rfl,S,F⟩
  refine ct (ap Bu) ?_;refine sR fun _ B7=>?_;refine pe (.agg #[i_ 0,n_]) (bo [] [i_ 0,n_] rfl rfl) ?_;refine ax (S.top 0 rfl) Y [i_ 0,n_] rfl rfl (dt rfl) (all_cons rfl (all_cons rfl rfl)) ?_;intro BL S;replace S:Sat w0 BL [Box Z 65 [i_ 0,n_]]:=S;refine pa (.bool false) (en B7 (aj (br Bz (tr By (tr Bs (br Bx (tr Bw ?_)))))));replace F:=exL F Bq;replace S:=S.nil R0_ 26;refine dp (cs:=[i_ 0,n_]) rfl Y rfl (aK (S.boxAt 1 rfl)) rfl ?_;have hr:=Option.some.inj F;exact ⟨n_,congrArg (fun (r:T4_ × Bool)=>Ending.returned (.tuple #[.agg #[i_ r.1.1,n_],.bool r.2])) hr,Eq.mp (congrArg (fun (r:T4_ × Bool)=>Sat w0 BL [Own R2_ [n_] r.1.2]) hr) (S.keep 1)⟩
 refine cf Bt (aG (tx BH (tx Bs ?_)));replace F:=exA F Bq;refine bS Bx (tn Bw ?_);refine sR fun _ B8=>?_;refine pM (i_ a0) Br (pM u1 Bo ?_);obtain ⟨Ct,BU,F⟩:=ob F;refine be tU (sk (S.up ha1) BU) (ca (ai rfl rfl)) (dt rfl) ?_;rintro _ Cu ⟨BC,rfl,BV,Bn⟩;refine ⟨_,rfl,?_⟩;replace S:=S.ext BV;refine pe (.agg #[i_ a0,BC]) (bo [(0,[i_ a0]),(1,[BC])] [i_ a0,BC] (eE rfl (eE (aQ rfl (oc Bn)) rfl)) rfl) ?_;obtain ⟨U,BW,F⟩:=ob F;refine ec1 v9 (nI Bn BW) (ca (ai rfl rfl)) S fun Cv J BX S=>?_;have Bn:=bl Bn BX;refine aU S (dt rfl) ?_;intro Cw BD S BY;have Bn:=bl Bn BY;refine ax (S.top 0 rfl) rfl [i_ U.1,J] rfl rfl (dt rfl) (all_cons rfl (all_cons (oc (S.rdAt (R:=R2_) 1 rfl)) rfl)) ?_;intro B9 S;replace S:Sat w0 B9 [Box BD 65 [i_ U.1,J],Own R2_ [J] U.2,Box Z 65 [i_ 0,n_]]:=S;refine en B8 ?_;refine sg fun _ BM=>?_;refine sR fun _ Ca=>?_;refine pe (.agg #[i_ U.1,J]) (ay (cs:=[i_ U.1,J]) rfl rfl (aK (S.boxAt 0 rfl))) ?_;obtain ⟨Cb,BZ,F⟩:=ob F;refine ec0 oP (er (S.rdAt (R:=R2_) 1 rfl) BZ) (ca (ai rfl rfl)) S fun Cc Cj S=>?_;refine pe (.bool (!Cb)) (aZ rfl) (en Ca ?_);rcases oif F with ⟨Bv,F⟩|⟨Bv,F⟩
 ·refine cf (an Bv) (sn BM ?_);refine sR fun _ Cd=>?_;refine pe (.agg #[i_ U.1,J]) (ay (cs:=[i_ U.1,J]) rfl rfl (aK (S.boxAt 0 rfl))) ?_;refine ax (S.top 2 rfl) Y [i_ U.1,J] rfl rfl (dt rfl) (all_cons rfl (all_cons (oc (S.rdAt (R:=R2_) 1 rfl)) rfl)) ?_;intro BE S;replace S:Sat w0 BE [Box Z 65 [i_ U.1,J],Box BD 65 [i_ U.1,J],Own R2_ [J] U.2]:=S;refine pa (.bool true) (en Cd (aj ?_));refine dp (cs:=[i_ U.1,J]) rfl Y rfl (aK (S.boxAt 0 rfl)) rfl ?_;replace S:Sat w0 BE [Own R2_ [J] U.2,Box Z 65 [i_ U.1,J],Box BD 65 [i_ U.1,J]]:=S.tops 3 [2] rfl;have hr:=Option.some.inj F;exact ⟨J,congrArg (fun (r:T4_ × Bool)=>Ending.returned (.tuple #[.agg #[i_ r.1.1,J],.bool r.2])) hr,Eq.mp (congrArg (fun (r:T4_ × Bool)=>Sat w0 BE [Own R2_ [J] r.1.2]) hr) (S.keep 1)⟩
 refine ct (ap Bv) ?_;refine sg fun _ Ce=>?_;replace S:Sat w0 Cc [Box Z 65 [i_ 0,n_]]:=S.rems 3 [0,1] rfl;refine ah (pe (.agg #[i_ 0,n_]) (bo [] [i_ 0,n_] rfl rfl) ?_);refine ax (S.top 0 rfl) Y [i_ 0,n_] rfl rfl (dt rfl) (all_cons rfl (all_cons rfl rfl)) ?_;intro BN S;replace S:Sat w0 BN [Box Z 65 [i_ 0,n_]]:=S;refine pa (.bool false) (en Ce (aj (tr BM ?_)));replace S:=S.nil R0_ 26;refine dp (cs:=[i_ 0,n_]) rfl Y rfl (aK (S.boxAt 1 rfl)) rfl ?_;have hr:=Option.some.inj F;exact ⟨n_,congrArg (fun (r:T4_ × Bool)=>Ending.returned (.tuple #[.agg #[i_ r.1.1,n_],.bool r.2])) hr,Eq.mp (congrArg (fun (r:T4_ × Bool)=>Sat w0 BN [Own R2_ [n_] r.1.2]) hr) (S.keep 1)⟩
theorem sx {w0:World} {u0:Value} {a0:List Int} {u1:Value} {a1:List Int} (ha0:R0_.rd w0 [u0] a0) (ha1:R0_.rd w0 [u1] a1) {N:Nat} {r:T0_} (F:kn N a0 a1=some r): Calls Tryz.prog 124 #[u0,u1] w0 fun e w'=>∃ (q0:Value),e=.returned (q0)∧Sat w0 w' [Own R0_ [q0] r] := by
 unfold kn at F;refine aD Tryz.func124 rfl rfl (dt rfl) ?_;have S:=Sat.start w0;refine sR fun _ BG=>?_;refine pa n_ (en BG ?_);refine sR fun _ BH=>?_;refine aY a7 S (dt rfl) ?_;intro BZ Bt S BV;refine pa Bt (en BH ?_);refine sg fun _ BI=>?_;refine sR fun _ BJ=>?_;refine pa (i_ 0) (en BJ ?_);refine bg fun _ BK=>?_;obtain ⟨BL,hL,Bx⟩:=ob F;refine aH (fun k e w=>∃ (D:Value),∃ (U:List Int),∃ (J:Int),e 0=u0∧e 1=u1∧e 5=D∧e 6=i_ J∧Sat w0 w [Own R0_ [D] U]∧ep N k a0 a1 U J=some BL) N ?_ ?_ ?_
 ·exact ⟨Bt,[],0,rfl,rfl,rfl,rfl,S,hL⟩
 ·rintro e w ⟨_,_,_,_,_,_,_,_,hz⟩; exact nomatch (show none=some _ from hz)
 rintro k B0 BM ⟨D,U,J,Bq,Y,Br,Z,S,F⟩;refine gn fun _ Bu=>?_;refine sg fun _ Bv=>?_;refine sR fun _ BN=>?_;refine pM (i_ J) Z (pM u1 Y (pe (i_ (a1.length:Int)) (aq rfl ha1) (pe (.bool (decide (J < (a1.length:Int)))) (aF rfl rfl) (en BN ?_))));rcases oif F with ⟨Bm,F⟩|⟨Bm,F⟩
 ·refine ct Bm (sn Bv ?_);refine sg fun _ BO=>?_;refine bg fun _ BP=>?_;refine ah (pM D Br (pM u0 Bq (pM u1 Y (pM (i_ J) Z ?_))));obtain ⟨BQ,By,F⟩:=ob F;refine aJ (wA:=w0) rfl ha1 rfl (dt rfl) rfl By (dt rfl) ?_;intro B1 BW B2 Bz BA;obtain rfl:=Bz;refine pe (i_ BQ) (ac rfl ((am S.below BA) 0 _ rfl)) ?_;obtain ⟨Bn,BB,F⟩:=ob F;refine aJ (wA:=w0) rfl ha0 rfl (dt rfl) rfl BB (dt rfl) ?_;intro B3 BX B4 BC BD;obtain rfl:=BC;refine pe (i_ Bn) (ac rfl ((am S.below BD) 0 _ rfl)) ?_;refine av [i_ Bn] rfl (by rfl) (dt rfl) rfl (dt rfl) S (dt rfl) ?_;intro BR BS S BY;obtain ⟨Bw,BE,F⟩:=ob F;have Bs:=S.boxRow 0 rfl;replace S:Sat w0 BR [Own R0_ [D] U,Box BS 3 [i_ Bn]]:=S.top 1 rfl;replace S:=S.int Bn;replace S:=S.one;refine az rfl (dt rfl) rfl (dt rfl) S rfl rfl rfl (by simp) Bs BE (dt rfl) ?_;intro BT Bo S;refine pa Bo (ag (bn BP (tn BO ?_)));replace S:Sat w0 BT [Own R0_ [Bo] Bw]:=S.rems 2 [1] rfl;refine ah (pM (i_ J) Z ?_);obtain ⟨Bp,BF,F⟩:=ob F;refine pe (i_ Bp) (aE rfl rfl BF) (pa (i_ Bp) (en Bu ?_));replace S:=S.keep 1;exact ⟨Bo,Bw,Bp,Bq,Y,rfl,rfl,S,F⟩
 refine cf Bm (aG (tx Bv (tx Bu ?_)));replace F:=exB F Bx;refine bS BK (tn BI ?_);refine sR fun _ BU=>?_;refine pM D Br (pa D (en BU (aj (aB rfl rfl ?_))));have hr:=Option.some.inj F;exact ⟨D,congrArg (fun (r:T0_)=>Ending.returned (D)) hr,Eq.mp (congrArg (fun (r:T0_)=>Sat w0 BM [Own R0_ [D] r]) hr) (S.keep 1)⟩
theorem ro {w0:World} {a0:Int} {u1:Value} {a1:List T0_} {u2:Value} {a2:List Int} (ha1:R2_.rd w0 [u1] a1) (ha2:R0_.rd w0 [u2] a2) {N:Nat} {r:T4_ × Bool} (F:jX N a0 a1 a2=some r): Calls Tryz.prog 97 #[.agg #[i_ a0,u1],u2] w0 fun e w'=>∃ (q0:Value),e=.returned (.tuple #[.agg #[i_ r.1.1,q0],.bool r.2])∧Sat w0 w' [Own R2_ [q0] r.1.2] := by
 unfold jX at F;refine aD Tryz.func97 rfl rfl (dt rfl) ?_;have S:=Sat.start w0;refine sR fun _ Cn=>?_;refine aW [i_ a0,u1] rfl S (dt rfl) ?_;intro CV Bm S CL;refine aU S (dt rfl) ?_;intro CX U S CM;refine pa (.bool false) (en Cn ?_);refine sg fun _ BO=>?_;refine sR fun _ Co=>?_;refine pa (i_ 0) (en Co ?_);refine bg fun _ BP=>?_;obtain ⟨Cp,hL,BK⟩:=ob F;refine aH (fun k e w=>∃ (Bo:Int),e 1=u2∧e 2=.pointer (some ⟨Bm,0,none⟩)∧e 4=.pointer (some ⟨U,0,none⟩)∧e 6=i_ Bo∧Sat w0 w [Box U 65 [i_ 0,n_],Box Bm 65 [i_ a0,u1]]∧dX N k a2 a0 a1 0 [] Bo=some Cp) N ?_ ?_ ?_
 ·exact ⟨0,rfl,rfl,rfl,rfl,S,hL⟩
 ·rintro e w ⟨_,_,_,_,_,_,hz⟩; exact nomatch (show none=some _ from hz)
 rintro k CY CZ ⟨Bo,Br,Bs,Z,Bu,S,F⟩;refine gn fun _ BE=>?_;refine sg fun _ BQ=>?_;refine sR fun _ Cq=>?_;refine pM (i_ Bo) Bu (pM u2 Br (pe (i_ (a2.length:Int)) (aq rfl ha2) (pe (.bool (decide (Bo < (a2.length:Int)))) (aF rfl rfl) (en Cq ?_))));rcases oif F with ⟨Bv,F⟩|⟨Bv,F⟩
 ·refine ct Bv (sn BQ ?_);refine sg fun _ BR=>?_;refine bg fun _ BS=>?_;refine sg fun _ Cr=>?_;refine bD (by kernel_rfl) (by kernel_rfl) ?_;refine qM u2 Br (qM (i_ Bo) Bu ?_);obtain ⟨Cs,B8,F⟩:=ob F;refine aT (wA:=w0) rfl ha2 rfl (dt rfl) rfl B8 (dt rfl) ?_;intro C0 CN C1 B9 Ca;obtain rfl:=B9;refine qe (i_ Cs) (ac rfl ((am S.below Ca) 0 _ rfl)) (qe (.pointer (some ⟨Bm,0 + 0,none⟩)) (ae Bs) (qe (i_ a0) (ac rfl ((S.boxAt 1 rfl) 0 _ rfl)) ?_));obtain ⟨Ct,Cb,F⟩:=ob F;refine qe (i_ Ct) (cb rfl rfl Cb) ?_;obtain ⟨BT,Cc,F⟩:=ob F;refine cI (.bool BT) jw (fun w' hw'=>eQ Cc) (ca (ai rfl (ai rfl (ai rfl rfl)))) (dt rfl) ?_;refine qe (.bool (!BT)) (aZ rfl) (a9 ?_);intro Cu Cd;replace S:=S.ext Cd;refine tn Cr ?_;rcases oif F with ⟨Bw,F⟩|⟨Bw,F⟩
  ·refine cf (an Bw) (aV (bn BS (tn BR (ah (pM (i_ Bo) Bu ?_)))));obtain ⟨BF,Ce,F⟩:=ob F;refine pe (i_ BF) (aE rfl rfl Ce) (pa (i_ BF) (en BE ?_));replace S:=S.keep 2;exact ⟨BF,Br,Bs,Z,rfl,S,F⟩
  refine ct (ap Bw) ?_;refine sg fun _ Cv=>?_;replace S:Sat w0 Cu [Box U 65 [i_ 0,n_]]:=S.rems 2 [1] rfl;refine ah (pe (.agg #[i_ 0,n_]) (bo [] [i_ 0,n_] rfl rfl) ?_);refine ax (S.top 0 rfl) Z [i_ 0,n_] rfl rfl (dt rfl) (all_cons rfl (all_cons rfl rfl)) ?_;intro BU S;replace S:Sat w0 BU [Box U 65 [i_ 0,n_]]:=S;refine pa (.bool false) (en Cv (aj (br BS (tr BR (tr BE (br BP (tr BO ?_)))))));replace F:=exL F BK;replace S:=S.nil R0_ 26;refine dp (cs:=[i_ 0,n_]) rfl Z rfl (aK (S.boxAt 1 rfl)) rfl ?_;have hr:=Option.some.inj F;exact ⟨n_,congrArg (fun (r:T4_ × Bool)=>Ending.returned (.tuple #[.agg #[i_ r.1.1,n_],.bool r.2])) hr,Eq.mp (congrArg (fun (r:T4_ × Bool)=>Sat w0 BU [Own R2_ [n_] r.1.2]) hr) (S.keep 1)⟩
 refine cf Bv (aG (tx BQ (tx BE ?_)));replace F:=exA F BK;refine bS BP (tn BO ?_);refine sg fun _ BG=>?_;refine sR fun _ BV=>?_;refine pe (.agg #[i_ a0,u1]) (ay (cs:=[i_ a0,u1]) Bs rfl (aK (S.boxAt 1 rfl))) ?_;obtain ⟨BW,Cf,F⟩:=ob F;refine ec0 oP (er (S.up ha1) Cf) (ca (ai rfl rfl)) S fun BX CO S=>?_;refine pe (.bool (!BW)) (aZ rfl) (pm (.bool (!BW)) ?_);rcases oif F with ⟨Y,F⟩|⟨Y,F⟩
 ·refine ei (an Y) (pM u2 Br (ei (an Y) (pe (i_ (a2.length:Int)) (aq rfl ha2) (ei (an Y) (pe (.bool (decide (5 < (a2.length:Int)))) (bz rfl rfl) (pe (.bool (decide (5 < (a2.length:Int)))) (aC rfl (an Y) rfl) (en BV ?_)))))));rcases oif F with ⟨Bx,F⟩|⟨Bx,F⟩
  ·refine ct Bx ?_;refine sg fun _ Cw=>?_;replace S:Sat w0 BX [Box U 65 [i_ 0,n_]]:=S.rems 2 [1] rfl;refine ah (pe (.agg #[i_ 0,n_]) (bo [] [i_ 0,n_] rfl rfl) ?_);refine ax (S.top 0 rfl) Z [i_ 0,n_] rfl rfl (dt rfl) (all_cons rfl (all_cons rfl rfl)) ?_;intro BY S;replace S:Sat w0 BY [Box U 65 [i_ 0,n_]]:=S;refine pa (.bool false) (en Cw (aj (tr BG ?_)));replace S:=S.nil R0_ 26;refine dp (cs:=[i_ 0,n_]) rfl Z rfl (aK (S.boxAt 1 rfl)) rfl ?_;have hr:=Option.some.inj F;exact ⟨n_,congrArg (fun (r:T4_ × Bool)=>Ending.returned (.tuple #[.agg #[i_ r.1.1,n_],.bool r.2])) hr,Eq.mp (congrArg (fun (r:T4_ × Bool)=>Sat w0 BY [Own R2_ [n_] r.1.2]) hr) (S.keep 1)⟩
  refine cf Bx (sn BG ?_);refine sR fun _ Cx=>?_;refine aY R0_ S (dt rfl) ?_;intro C2 BZ S CP;refine pa BZ (en Cx ?_);refine sg fun _ Cy=>?_;refine sR fun _ Cz=>?_;refine pa (i_ 0) (en Cz ?_);refine bg fun _ CA=>?_;obtain ⟨CB,hL,Cg⟩:=ob F;refine aH (fun k e w=>∃ (Bn:Value),∃ (Bp:List T0_),∃ (Bq:Int),e 1=u2∧e 2=.pointer (some ⟨Bm,0,none⟩)∧e 4=.pointer (some ⟨U,0,none⟩)∧e 7=Bn∧e 8=i_ Bq∧Sat w0 w [Own R2_ [Bn] Bp,Box U 65 [i_ 0,n_],Box Bm 65 [i_ a0,u1]]∧dW N k a2 a0 a1 0 [] Bp Bq=some CB) N ?_ ?_ ?_
  ·exact ⟨BZ,[],0,Br,Bs,Z,rfl,rfl,S,hL⟩
  ·rintro e w ⟨_,_,_,_,_,_,_,_,_,hz⟩; exact nomatch (show none=some _ from hz)
  rintro k C3 CC ⟨Bn,Bp,Bq,By,Bz,BA,BL,BB,S,F⟩;refine gn fun _ B0=>?_;refine sg fun _ B1=>?_;refine sR fun _ CD=>?_;refine pM (i_ Bq) BB (pe (.pointer (some ⟨Bm,0 + 1,none⟩)) (ae Bz) (pe u1 (ac rfl ((S.boxAt 2 rfl) 1 _ rfl)) (pe (i_ (a1.length:Int)) (aq rfl ha1) (pe (.bool (decide (Bq < (a1.length:Int)))) (aF rfl rfl) (en CD ?_)))));rcases oif F with ⟨BC,F⟩|⟨BC,F⟩
  ·refine ct BC (sn B1 ?_);refine sg fun _ CE=>?_;refine bg fun _ CF=>?_;refine ah (pM Bn BL (pe (.pointer (some ⟨Bm,0 + 1,none⟩)) (ae Bz) (pe u1 (ac rfl ((S.boxAt 2 rfl) 1 _ rfl)) (pM (i_ Bq) BB ?_))));obtain ⟨C4,Ch,F⟩:=ob F;refine aJ (wA:=w0) rfl ha1 rfl (dt rfl) rfl Ch (dt rfl) ?_;intro C5 CQ C6 BM Ci;obtain ⟨CG,rfl⟩:=au BM;refine pe CG (ac rfl ((am S.below Ci) 0 _ rfl)) (pM u2 By ?_);obtain ⟨B2,Cj,F⟩:=ob F;refine ec1 yK (sx (S.up BM) (S.up ha2) Cj) (ca (ai rfl (ai rfl rfl))) S fun C7 Bt CR S=>?_;refine av [Bt] (aQ rfl (oc (S.rdAt (R:=R0_) 0 rfl))) (by rfl) (dt rfl) rfl (dt rfl) S (dt rfl) ?_;intro B3 B4 S CS;obtain ⟨B5,Ck,F⟩:=ob F;have BN:=S.boxRow 0 rfl;replace S:Sat w0 B3 [Own R2_ [Bn] Bp,Box B4 26 [Bt],Own R0_ [Bt] B2,Box U 65 [i_ 0,n_],Box Bm 65 [i_ a0,u1]]:=S.top 2 rfl;replace S:Sat w0 B3 [Own R0_ [Bt] B2,Own R2_ [Bn] Bp,Box B4 26 [Bt],Box U 65 [i_ 0,n_],Box Bm 65 [i_ a0,u1]]:=S.top 2 rfl;replace S:=S.one;refine az rfl (dt rfl) rfl (dt rfl) S rfl rfl rfl (by simp) BN Ck (dt rfl) ?_;intro CH BH S;refine pa BH (ag (bn CF (tn CE ?_)));replace S:Sat w0 CH [Own R2_ [BH] B5,Box U 65 [i_ 0,n_],Box Bm 65 [i_ a0,u1]]:=S.rems 4 [1] rfl;refine ah (pM (i_ Bq) BB ?_);obtain ⟨BI,Cl,F⟩:=ob F;refine pe (i_ BI) (aE rfl rfl Cl) (pa (i_ BI) (en B0 ?_));replace S:=S.keep 3;exact ⟨BH,B5,BI,By,Bz,BA,rfl,rfl,S,F⟩
  refine cf BC (aG (tx B1 (tx B0 ?_)));replace F:=exB F Cg;refine bS CA (tn Cy ?_);refine sg fun _ CI=>?_;replace S:Sat w0 CC [Own R2_ [Bn] Bp,Box U 65 [i_ 0,n_]]:=S.rems 3 [2] rfl;refine ah (pM u2 By (pe (i_ (a2.length:Int)) (aq rfl ha2) (pM Bn BL ?_)));obtain ⟨D,Cm,F⟩:=ob F;refine ec1 uj (jz (S.rdAt (R:=R2_) 0 rfl) Cm) (ca (ai rfl (ai rfl rfl))) S fun C8 J CT S=>?_;refine pm (.tuple #[.agg #[i_ D.1.1,J],.bool D.2]) (pe (.agg #[i_ D.1.1,J]) (aI rfl rfl) (pe (.bool D.2) (aI rfl rfl) ?_));refine aU S (dt rfl) ?_;intro C9 BD S CU;refine ax (S.top 0 rfl) rfl [i_ D.1.1,J] rfl rfl (dt rfl) (all_cons rfl (all_cons (oc (S.rdAt (R:=R2_) 1 rfl)) rfl)) ?_;intro B6 S;replace S:Sat w0 B6 [Box BD 65 [i_ D.1.1,J],Own R2_ [J] D.1.2,Own R2_ [Bn] Bp,Box U 65 [i_ 0,n_]]:=S;refine pa (.bool D.2) (en CI ?_);refine sg fun _ CJ=>?_;replace S:Sat w0 B6 [Box BD 65 [i_ D.1.1,J],Own R2_ [J] D.1.2,Box U 65 [i_ 0,n_]]:=S.rems 4 [2] rfl;refine ah (pe (.agg #[i_ D.1.1,J]) (ay (cs:=[i_ D.1.1,J]) rfl rfl (aK (S.boxAt 0 rfl))) (pm (.bool D.2) ?_));refine ax (S.top 2 rfl) BA [i_ D.1.1,J] rfl rfl (dt rfl) (all_cons rfl (all_cons (oc (S.rdAt (R:=R2_) 1 rfl)) rfl)) ?_;intro BJ S;replace S:Sat w0 BJ [Box U 65 [i_ D.1.1,J],Box BD 65 [i_ D.1.1,J],Own R2_ [J] D.1.2]:=S;refine pa (.bool D.2) (en CJ (aj ?_));refine dp (cs:=[i_ D.1.1,J]) rfl BA rfl (aK (S.boxAt 0 rfl)) rfl ?_;replace S:Sat w0 BJ [Own R2_ [J] D.1.2,Box U 65 [i_ D.1.1,J],Box BD 65 [i_ D.1.1,J]]:=S.tops 3 [2] rfl;have hr:=Option.some.inj F;exact ⟨J,congrArg (fun (r:T4_ × Bool)=>Ending.returned (.tuple #[.agg #[i_ r.1.1,J],.bool r.2])) hr,Eq.mp (congrArg (fun (r:T4_ × Bool)=>Sat w0 BJ [Own R2_ [J] r.1.2]) hr) (S.keep 1)⟩
 refine eo (ap Y) (eo (ap Y) (eo (ap Y) (pe (.bool true) (aA rfl (ap Y) rfl) (en BV (ct rfl ?_)))));refine sg fun _ CK=>?_;replace S:Sat w0 BX [Box U 65 [i_ 0,n_]]:=S.rems 2 [1] rfl;refine ah (pe (.agg #[i_ 0,n_]) (bo [] [i_ 0,n_] rfl rfl) ?_);refine ax (S.top 0 rfl) Z [i_ 0,n_] rfl rfl (dt rfl) (all_cons rfl (all_cons rfl rfl)) ?_;intro B7 S;replace S:Sat w0 B7 [Box U 65 [i_ 0,n_]]:=S;refine pa (.bool false) (en CK (aj (tr BG ?_)));replace S:=S.nil R0_ 26;refine dp (cs:=[i_ 0,n_]) rfl Z rfl (aK (S.boxAt 1 rfl)) rfl ?_;have hr:=Option.some.inj F;exact ⟨n_,congrArg (fun (r:T4_ × Bool)=>Ending.returned (.tuple #[.agg #[i_ r.1.1,n_],.bool r.2])) hr,Eq.mp (congrArg (fun (r:T4_ × Bool)=>Sat w0 B7 [Own R2_ [n_] r.1.2]) hr) (S.keep 1)⟩
theorem iP {w0:World} {a0:Int} {u1:Value} {a1:List T0_} {u2:Value} {a2:List Int} (ha1:R2_.rd w0 [u1] a1) (ha2:R0_.rd w0 [u2] a2) {N:Nat} {r:T4_ × Bool} (F:iS N a0 a1 a2=some r): Calls Tryz.prog 71 #[.agg #[i_ a0,u1],u2] w0 fun e w'=>∃ (q0:Value),e=.returned (.tuple #[.agg #[i_ r.1.1,q0],.bool r.2])∧Sat w0 w' [Own R2_ [q0] r.1.2] := by
 unfold iS at F;refine aD Tryz.func71 rfl rfl (dt rfl) ?_;have S:=Sat.start w0;refine sR fun _ BB=>?_;refine aW [i_ a0,u1] rfl S (dt rfl) ?_;intro BN Br S BI;refine aU S (dt rfl) ?_;intro BO Y S BJ;refine pa (.bool false) (en BB ?_);refine sg fun _ Bo=>?_;refine sR fun _ Bs=>?_;refine pm u2 ?_;obtain ⟨Bt,Bz,F⟩:=ob F;refine ec0 v5 (kx (S.up ha2) Bz) (ca (ai rfl rfl)) S fun Bu BK S=>?_;refine pe (.bool (!Bt)) (aZ rfl) (pm (.bool (!Bt)) ?_);rcases oif F with ⟨U,F⟩|⟨U,F⟩
 ·refine ei (an U) (pm u2 (ei (an U) (pe (i_ (a2.length:Int)) (aq rfl ha2) (ei (an U) (pe (.pointer (some ⟨Br,0 + 0,none⟩)) (ae rfl) (ei (an U) (pe (i_ a0) (ac rfl ((S.boxAt 1 rfl) 0 _ rfl)) (ei (an U) (pe (.bool ((a2.length:Int) != a0)) (cv rfl rfl) (pe (.bool ((a2.length:Int) != a0)) (aC rfl (an U) rfl) (en Bs ?_)))))))))));rcases oif F with ⟨Bm,F⟩|⟨Bm,F⟩
  ·refine ct Bm ?_;refine sg fun _ BC=>?_;replace S:Sat w0 Bu [Box Y 117 [i_ 0,n_]]:=S.rems 2 [1] rfl;refine ah (pe (.agg #[i_ 0,n_]) (bo [] [i_ 0,n_] rfl rfl) ?_);refine ax (S.top 0 rfl) rfl [i_ 0,n_] rfl rfl (dt rfl) (all_cons rfl (all_cons rfl rfl)) ?_;intro Bv S;replace S:Sat w0 Bv [Box Y 117 [i_ 0,n_]]:=S;refine pa (.bool false) (en BC (aj (tr Bo ?_)));replace S:=S.nil R0_ 26;refine dp (cs:=[i_ 0,n_]) rfl rfl rfl (aK (S.boxAt 1 rfl)) rfl ?_;have hr:=Option.some.inj F;exact ⟨n_,congrArg (fun (r:T4_ × Bool)=>Ending.returned (.tuple #[.agg #[i_ r.1.1,n_],.bool r.2])) hr,Eq.mp (congrArg (fun (r:T4_ × Bool)=>Sat w0 Bv [Own R2_ [n_] r.1.2]) hr) (S.keep 1)⟩
  refine cf Bm (sn Bo ?_);refine sR fun _ BD=>?_;refine pe (.agg #[i_ a0,u1]) (ay (cs:=[i_ a0,u1]) rfl rfl (aK (S.boxAt 1 rfl))) (pm u2 ?_);obtain ⟨D,BA,F⟩:=ob F;refine ec1 Aj (ro (S.up ha1) (S.up ha2) BA) (ca (ai rfl (ai rfl rfl))) S fun BP J BL S=>?_;refine pm (.tuple #[.agg #[i_ D.1.1,J],.bool D.2]) (pe (.agg #[i_ D.1.1,J]) (aI rfl rfl) (pe (.bool D.2) (aI rfl rfl) ?_));refine aU S (dt rfl) ?_;intro BQ Z S BM;refine ax (S.top 0 rfl) rfl [i_ D.1.1,J] rfl rfl (dt rfl) (all_cons rfl (all_cons (oc (S.rdAt (R:=R2_) 1 rfl)) rfl)) ?_;intro Bp S;replace S:Sat w0 Bp [Box Z 65 [i_ D.1.1,J],Own R2_ [J] D.1.2,Box Y 117 [i_ 0,n_],Box Br 65 [i_ a0,u1]]:=S;refine pa (.bool D.2) (en BD ?_);refine sg fun _ Bw=>?_;refine sg fun _ BE=>?_;replace S:Sat w0 Bp [Box Z 65 [i_ D.1.1,J],Own R2_ [J] D.1.2,Box Y 117 [i_ 0,n_]]:=S.rems 4 [3] rfl;refine ah (pm (.bool D.2) (pe (.bool (!D.2)) (aZ rfl) (en BE ?_)));rcases oif F with ⟨Bn,F⟩|⟨Bn,F⟩
  ·refine cf (an Bn) (sn Bw ?_);refine sR fun _ BF=>?_;refine pe (.pointer (some ⟨Z,0 + 0,none⟩)) (ae rfl) (pe (i_ D.1.1) (ac rfl ((S.boxAt 0 rfl) 0 _ rfl)) (pe (.pointer (some ⟨Z,0 + 1,none⟩)) (ae rfl) (pe J (ac rfl ((S.boxAt 0 rfl) 1 _ rfl)) (pe (.agg #[i_ D.1.1,J]) (bo [(0,[i_ D.1.1]),(1,[J])] [i_ D.1.1,J] (eE rfl (eE (aQ rfl (oc (S.rdAt (R:=R2_) 1 rfl))) rfl)) rfl) ?_))));refine ax (S.top 2 rfl) rfl [i_ D.1.1,J] rfl rfl (dt rfl) (all_cons rfl (all_cons (oc (S.rdAt (R:=R2_) 1 rfl)) rfl)) ?_;intro Bq S;replace S:Sat w0 Bq [Box Y 117 [i_ D.1.1,J],Box Z 65 [i_ D.1.1,J],Own R2_ [J] D.1.2]:=S;refine pa (.bool true) (en BF (aj ?_));refine dp (cs:=[i_ D.1.1,J]) rfl rfl rfl (aK (S.boxAt 0 rfl)) rfl ?_;replace S:Sat w0 Bq [Own R2_ [J] D.1.2,Box Y 117 [i_ D.1.1,J],Box Z 65 [i_ D.1.1,J]]:=S.tops 3 [2] rfl;have hr:=Option.some.inj F;exact ⟨J,congrArg (fun (r:T4_ × Bool)=>Ending.returned (.tuple #[.agg #[i_ r.1.1,J],.bool r.2])) hr,Eq.mp (congrArg (fun (r:T4_ × Bool)=>Sat w0 Bq [Own R2_ [J] r.1.2]) hr) (S.keep 1)⟩
  refine ct (ap Bn) ?_;refine sg fun _ BG=>?_;replace S:Sat w0 Bp [Box Y 117 [i_ 0,n_]]:=S.rems 3 [0,1] rfl;refine ah (pe (.agg #[i_ 0,n_]) (bo [] [i_ 0,n_] rfl rfl) ?_);refine ax (S.top 0 rfl) rfl [i_ 0,n_] rfl rfl (dt rfl) (all_cons rfl (all_cons rfl rfl)) ?_;intro Bx S;replace S:Sat w0 Bx [Box Y 117 [i_ 0,n_]]:=S;refine pa (.bool false) (en BG (aj (tr Bw ?_)));replace S:=S.nil R0_ 26;refine dp (cs:=[i_ 0,n_]) rfl rfl rfl (aK (S.boxAt 1 rfl)) rfl ?_;have hr:=Option.some.inj F;exact ⟨n_,congrArg (fun (r:T4_ × Bool)=>Ending.returned (.tuple #[.agg #[i_ r.1.1,n_],.bool r.2])) hr,Eq.mp (congrArg (fun (r:T4_ × Bool)=>Sat w0 Bx [Own R2_ [n_] r.1.2]) hr) (S.keep 1)⟩
 refine eo (ap U) (eo (ap U) (eo (ap U) (eo (ap U) (eo (ap U) (pe (.bool true) (aA rfl (ap U) rfl) (en Bs (ct rfl ?_)))))));refine sg fun _ BH=>?_;replace S:Sat w0 Bu [Box Y 117 [i_ 0,n_]]:=S.rems 2 [1] rfl;refine ah (pe (.agg #[i_ 0,n_]) (bo [] [i_ 0,n_] rfl rfl) ?_);refine ax (S.top 0 rfl) rfl [i_ 0,n_] rfl rfl (dt rfl) (all_cons rfl (all_cons rfl rfl)) ?_;intro By S;replace S:Sat w0 By [Box Y 117 [i_ 0,n_]]:=S;refine pa (.bool false) (en BH (aj (tr Bo ?_)));replace S:=S.nil R0_ 26;refine dp (cs:=[i_ 0,n_]) rfl rfl rfl (aK (S.boxAt 1 rfl)) rfl ?_;have hr:=Option.some.inj F;exact ⟨n_,congrArg (fun (r:T4_ × Bool)=>Ending.returned (.tuple #[.agg #[i_ r.1.1,n_],.bool r.2])) hr,Eq.mp (congrArg (fun (r:T4_ × Bool)=>Sat w0 By [Own R2_ [n_] r.1.2]) hr) (S.keep 1)⟩
theorem kN {w0:World} {a0:ByteArray} {u1:Value} {a1:List Int} (ha0:a0.size ≤ 9223372036854775807) (ha1:R0_.rd w0 [u1] a1) {N:Nat} {r:T0_} (F:fb N a0 a1=some r): Calls Tryz.prog 98 #[.agg #[.string a0,u1]] w0 fun e w'=>∃ (q0:Value),e=.returned (q0)∧Sat w0 w' [Own R0_ [q0] r] := by
 unfold fb at F;refine aD Tryz.func98 rfl rfl (dt rfl) ?_;have S:=Sat.start w0;refine sR fun _ BG=>?_;refine aW [.string a0,u1] rfl S (dt rfl) ?_;intro BW Z S BS;refine pa n_ (en BG ?_);refine sR fun _ BH=>?_;refine aY a7 S (dt rfl) ?_;intro BX Bv S BT;refine pa Bv (en BH ?_);refine sg fun _ BI=>?_;refine sR fun _ BJ=>?_;refine pa (i_ 0) (en BJ ?_);refine bg fun _ BK=>?_;obtain ⟨BL,hL,BB⟩:=ob F;refine aH (fun k e w=>∃ (D:Value),∃ (Y:List Int),∃ (J:Int),e 1=.pointer (some ⟨Z,0,none⟩)∧e 3=D∧e 4=i_ J∧Sat w0 w [Own R0_ [D] Y,Box Z 97 [.string a0,u1]]∧cm N k a0 a1 Y J=some BL) N ?_ ?_ ?_
 ·exact ⟨Bv,[],0,rfl,rfl,rfl,S,hL⟩
 ·rintro e w ⟨_,_,_,_,_,_,_,hz⟩; exact nomatch (show none=some _ from hz)
 rintro k BY Bw ⟨D,Y,J,Bm,Bn,U,S,F⟩;refine gn fun _ Bq=>?_;refine sg fun _ Bx=>?_;refine sR fun _ BM=>?_;refine pM (i_ J) U (pe (.bool (decide (J < 5))) (aF rfl rfl) (en BM ?_));rcases oif F with ⟨Bo,F⟩|⟨Bo,F⟩
 ·refine ct Bo (sn Bx ?_);refine sg fun _ By=>?_;refine bg fun _ Bz=>?_;refine sR fun _ BN=>?_;refine pe (.agg #[.string a0,u1]) (ay (cs:=[.string a0,u1]) Bm rfl (aK (S.boxAt 1 rfl))) (pM (i_ J) U ?_);obtain ⟨BZ,BC,F⟩:=ob F;refine ec0 pB (fw ha0 (S.up ha1) BC) (ca (ai rfl (ai rfl rfl))) S fun B0 BU S=>?_;refine en BN ?_;rcases oif F with ⟨Bp,F⟩|⟨Bp,F⟩
  ·refine ct Bp (ah (pM D Bn (pM (i_ J) U ?_)));refine av [i_ J] rfl (by rfl) (dt rfl) rfl (dt rfl) S (dt rfl) ?_;intro BO BP S BV;obtain ⟨BA,BD,F⟩:=ob F;have Bu:=S.boxRow 0 rfl;replace S:Sat w0 BO [Own R0_ [D] Y,Box BP 3 [i_ J],Box Z 97 [.string a0,u1]]:=S.top 1 rfl;replace S:=S.int J;replace S:=S.one;refine az rfl (dt rfl) rfl (dt rfl) S rfl rfl rfl (by simp) Bu BD (dt rfl) ?_;intro BQ Br S;refine pa Br (ag (bn Bz (tn By ?_)));replace S:Sat w0 BQ [Own R0_ [Br] BA,Box Z 97 [.string a0,u1]]:=S.rems 3 [1] rfl;refine ah (pM (i_ J) U ?_);obtain ⟨Bs,BE,F⟩:=ob F;refine pe (i_ Bs) (aE rfl rfl BE) (pa (i_ Bs) (en Bq ?_));replace S:=S.keep 2;exact ⟨Br,BA,Bs,Bm,rfl,rfl,S,F⟩
  refine cf Bp (aV (bn Bz (tn By (ah (pM (i_ J) U ?_)))));obtain ⟨Bt,BF,F⟩:=ob F;refine pe (i_ Bt) (aE rfl rfl BF) (pa (i_ Bt) (en Bq ?_));replace S:=S.keep 2;exact ⟨D,Y,Bt,Bm,Bn,rfl,S,F⟩
 refine cf Bo (aG (tx Bx (tx Bq ?_)));replace F:=exB F BB;refine bS BK (tn BI ?_);refine sg fun _ BR=>?_;replace S:Sat w0 Bw [Own R0_ [D] Y]:=S.rems 2 [1] rfl;refine ah (pM D Bn (pa D (en BR (aj (aB rfl rfl ?_)))));have hr:=Option.some.inj F;exact ⟨D,congrArg (fun (r:T0_)=>Ending.returned (D)) hr,Eq.mp (congrArg (fun (r:T0_)=>Sat w0 Bw [Own R0_ [D] r]) hr) (S.keep 1)⟩
theorem kR {w0:World} {u0:Value} {a0:List T8_} {a1:ByteArray} {u2:Value} {a2:List Int} (ha0:a6.rd w0 [u0] a0) (ha1:a1.size ≤ 9223372036854775807) (ha2:R0_.rd w0 [u2] a2) {N:Nat} {r:Int × List T0_} (F:gt N a0 a1 a2=some r): Calls Tryz.prog 72 #[.agg #[u0],.agg #[.string a1,u2]] w0 fun e w'=>∃ (q0:Value),e=.returned (.agg #[i_ r.1,q0])∧Sat w0 w' [Own R2_ [q0] r.2] := by
 unfold gt at F;refine aD Tryz.func72 rfl rfl (dt rfl) ?_;have S:=Sat.start w0;refine sR fun _ DF=>?_;refine aW [u0] rfl S (dt rfl) ?_;intro EI CO S En;refine aW [.string a1,u2] rfl S (dt rfl) ?_;intro EJ Bm S Eo;refine aU S (dt rfl) ?_;intro EK Y S Ep;refine en DF ?_;refine sR fun _ DG=>?_;refine pe (.agg #[.string a1,u2]) (ay (cs:=[.string a1,u2]) rfl rfl (aK (S.boxAt 1 rfl))) ?_;obtain ⟨D,C7,F⟩:=ob F;refine ec1 xa (kN ha1 (S.up ha2) C7) (ca (ai rfl rfl)) S fun EM Z Er S=>?_;refine pa Z (en DG ?_);refine sR fun _ DH=>?_;refine pe (.agg #[u0]) (ay (cs:=[u0]) rfl rfl (aK (S.boxAt 3 rfl))) (pe (.pointer (some ⟨Bm,0 + 0,none⟩)) (ae rfl) (pe (.string a1) (ac rfl ((S.boxAt 2 rfl) 0 _ rfl)) ?_));obtain ⟨J,C8,F⟩:=ob F;refine ec1 tO (iF (S.up ha0) ha1 C8) (ca (ai rfl (ai rfl rfl))) S fun EN Bn Es S=>?_;refine pm (.tuple #[.agg #[i_ J.1.1,Bn],.bool J.2]) (pe (.agg #[i_ J.1.1,Bn]) (aI rfl rfl) (pe (.bool J.2) (aI rfl rfl) ?_));refine aU S (dt rfl) ?_;intro EO Bp S Et;refine ax (S.top 0 rfl) rfl [i_ J.1.1,Bn] rfl rfl (dt rfl) (all_cons rfl (all_cons (oc (S.rdAt (R:=R2_) 1 rfl)) rfl)) ?_;intro Bt S;replace S:Sat w0 Bt [Box Bp 65 [i_ J.1.1,Bn],Own R2_ [Bn] J.1.2,Own R0_ [Z] D,Box Y 65 [i_ 0,n_],Box Bm 97 [.string a1,u2],Box CO 35 [u0]]:=S;refine pa (.bool J.2) (ag ?_);replace S:Sat w0 Bt [Own R2_ [Bn] J.1.2,Box Bp 65 [i_ J.1.1,Bn],Own R0_ [Z] D,Box Y 65 [i_ 0,n_],Box Bm 97 [.string a1,u2],Box CO 35 [u0]]:=S.top 1 rfl;obtain ⟨Bx,B1,S⟩:=S.frz;refine tn DH ?_;refine sg fun _ DI=>?_;replace S:Sat w0 Bt [Frz Bt Bx,Box Bp 65 [i_ J.1.1,Bn],Own R0_ [Z] D,Box Y 65 [i_ 0,n_],Box Bm 97 [.string a1,u2]]:=S.rems 6 [5] rfl;refine ah (pm Z (pe (i_ (D.length:Int)) (aq rfl (S.rdAt (R:=R0_) 2 rfl)) (pe (.agg #[i_ (D.length:Int),n_]) (bo [(0,[i_ (D.length:Int)])] [i_ (D.length:Int),n_] (eE rfl rfl) rfl) ?_)));refine aU S (dt rfl) ?_;intro EP Bo S Eu;refine ax (S.top 0 rfl) rfl [i_ (D.length:Int),n_] rfl rfl (dt rfl) (all_cons rfl (all_cons rfl rfl)) ?_;intro Cj S;replace S:Sat w0 Cj [Box Bo 65 [i_ (D.length:Int),n_],Frz Bt Bx,Box Bp 65 [i_ J.1.1,Bn],Own R0_ [Z] D,Box Y 65 [i_ 0,n_],Box Bm 97 [.string a1,u2]]:=S;refine en DI ?_;refine sg fun _ Ck=>?_;refine sR fun _ CP=>?_;refine pm (.bool J.2) (pe (.bool (!J.2)) (aZ rfl) (pm (.bool (!J.2)) ?_));rcases oif F with ⟨Bu,F⟩|⟨Bu,F⟩
 ·refine ei (an Bu) (pe (.pointer (some ⟨Bp,0 + 0,none⟩)) (ae rfl) (ei (an Bu) (pe (i_ J.1.1) (ac rfl ((S.boxAt 2 rfl) 0 _ rfl)) (ei (an Bu) (pe (.pointer (some ⟨Bm,0 + 1,none⟩)) (ae rfl) (ei (an Bu) (pe u2 (ac rfl ((S.boxAt 5 rfl) 1 _ rfl)) (ei (an Bu) (pe (i_ (a2.length:Int)) (aq rfl ha2) (ei (an Bu) (pe (.bool (J.1.1 != (a2.length:Int))) (cv rfl rfl) (pe (.bool (J.1.1 != (a2.length:Int))) (aC rfl (an Bu) rfl) (en CP ?_)))))))))))));rcases oif F with ⟨B2,F⟩|⟨B2,F⟩
  ·refine ct B2 ?_;refine sg fun _ DJ=>?_;replace S:Sat w0 Cj [Box Bo 65 [i_ (D.length:Int),n_],Box Y 65 [i_ 0,n_]]:=S.rems 6 [1,2,3,5] rfl;refine ah (pe (.agg #[i_ (D.length:Int),n_]) (ay (cs:=[i_ (D.length:Int),n_]) rfl rfl (aK (S.boxAt 0 rfl))) ?_);refine ax (S.top 1 rfl) rfl [i_ (D.length:Int),n_] rfl rfl (dt rfl) (all_cons rfl (all_cons rfl rfl)) ?_;intro CQ S;replace S:Sat w0 CQ [Box Y 65 [i_ (D.length:Int),n_],Box Bo 65 [i_ (D.length:Int),n_]]:=S;refine en DJ (aj (tr Ck ?_));replace S:=S.nil R0_ 26;refine ja (cs:=[i_ (D.length:Int),n_]) rfl rfl rfl (aK (S.boxAt 1 rfl))  ?_;have hr:=Option.some.inj F;exact ⟨n_,congrArg (fun (r:Int × List T0_)=>Ending.returned (.agg #[i_ r.1,n_])) hr,Eq.mp (congrArg (fun (r:Int × List T0_)=>Sat w0 CQ [Own R2_ [n_] r.2]) hr) (S.keep 1)⟩
  refine cf B2 (sn Ck ?_);refine sR fun _ DK=>?_;refine aY R0_ S (dt rfl) ?_;intro EQ CR S Ev;refine pa CR (en DK ?_);refine sg fun _ DL=>?_;refine sR fun _ DM=>?_;refine pa (i_ 0) (en DM ?_);refine bg fun _ DN=>?_;obtain ⟨DO,hL,C9⟩:=ob F;refine aH (fun k e w=>∃ (Bs:Value),∃ (Bv:List T0_),∃ (By:Int),e 3=.pointer (some ⟨Bm,0,none⟩)∧e 4=.pointer (some ⟨Y,0,none⟩)∧e 5=Z∧e 6=.pointer (some ⟨Bp,0,none⟩)∧e 8=.pointer (some ⟨Bo,0,none⟩)∧e 9=Bs∧e 10=i_ By∧Sat w0 w [Own R2_ [Bs] Bv,Box Bo 65 [i_ (D.length:Int),n_],Frz Bt Bx,Box Bp 65 [i_ J.1.1,Bn],Own R0_ [Z] D,Box Y 65 [i_ 0,n_],Box Bm 97 [.string a1,u2]]∧cD N k a1 a2 0 [] D J.1.1 J.1.2 (D.length:Int) [] Bv By=some DO) N ?_ ?_ ?_
  ·exact ⟨CR,[],0,rfl,rfl,rfl,rfl,rfl,rfl,rfl,S,hL⟩
  ·rintro e w ⟨_,_,_,_,_,_,_,_,_,_,_,hz⟩; exact nomatch (show none=some _ from hz)
  rintro k ER DP ⟨Bs,Bv,By,Da,BJ,Cy,Cz,CA,CB,CC,S,F⟩;refine gn fun _ Cl=>?_;refine sg fun _ CS=>?_;refine sR fun _ DQ=>?_;refine pM (i_ By) CC (pe (.pointer (some ⟨Bp,0 + 1,none⟩)) (ae Cz) (pe Bn (ac rfl ((S.boxAt 3 rfl) 1 _ rfl)) (pe (i_ (J.1.2.length:Int)) (aq rfl (S.frzRd 2 rfl B1 (fun _ hq=>hq))) (pe (.bool (decide (By < (J.1.2.length:Int)))) (aF rfl rfl) (en DQ ?_)))));rcases oif F with ⟨B3,F⟩|⟨B3,F⟩
  ·refine ct B3 (sn CS ?_);refine sg fun _ CT=>?_;refine bg fun _ CU=>?_;refine sR fun _ DR=>?_;refine aY a7 S (dt rfl) ?_;intro ES CV S Ew;refine pa CV (en DR ?_);refine sg fun _ DS=>?_;refine sR fun _ DT=>?_;refine pa (i_ 0) (en DT ?_);refine bg fun _ DU=>?_;obtain ⟨DV,hL,Db⟩:=ob F;refine aH (fun k e w=>∃ (Bw:Value),∃ (Bz:List Int),∃ (BD:Int),e 3=.pointer (some ⟨Bm,0,none⟩)∧e 4=.pointer (some ⟨Y,0,none⟩)∧e 5=Z∧e 6=.pointer (some ⟨Bp,0,none⟩)∧e 8=.pointer (some ⟨Bo,0,none⟩)∧e 9=Bs∧e 10=i_ By∧e 11=Bw∧e 12=i_ BD∧Sat w0 w [Own R0_ [Bw] Bz,Own R2_ [Bs] Bv,Box Bo 65 [i_ (D.length:Int),n_],Frz Bt Bx,Box Bp 65 [i_ J.1.1,Bn],Own R0_ [Z] D,Box Y 65 [i_ 0,n_],Box Bm 97 [.string a1,u2]]∧cS N k a1 a2 0 [] D J.1.1 J.1.2 (D.length:Int) [] Bv By Bz BD=some DV) N ?_ ?_ ?_
   ·exact ⟨CV,[],0,Da,BJ,Cy,Cz,CA,CB,CC,rfl,rfl,S,hL⟩
   ·rintro e w ⟨_,_,_,_,_,_,_,_,_,_,_,_,_,hz⟩; exact nomatch (show none=some _ from hz)
   rintro k ET EU ⟨Bw,Bz,BD,B4,CD,BS,B5,CE,CF,B6,CG,B7,S,F⟩;refine gn fun _ CX=>?_;refine sg fun _ CY=>?_;refine sR fun _ DW=>?_;refine pM (i_ BD) B7 (pM Z BS (pe (i_ (D.length:Int)) (aq rfl (S.rdAt (R:=R0_) 5 rfl)) (pe (.bool (decide (BD < (D.length:Int)))) (aF rfl rfl) (en DW ?_))));rcases oif F with ⟨B8,F⟩|⟨B8,F⟩
   ·refine ct B8 (sn CY ?_);refine sg fun _ DX=>?_;refine bg fun _ DY=>?_;obtain ⟨C,hCd⟩:∃ C:World → Prop,∀ w,C w ↔ ∃ G,Sat w0 w ([Box Bp 65 [i_ J.1.1,Bn],Box Bm 97 [.string a1,u2],Frz Bt Bx,Own R0_ [Z] D] ++ G):=⟨_,fun _=>Iff.rfl⟩;refine bT [0,1,2,3,4,5,6,7,8,9,10,11,12,13,14,15,16,17] C (by kernel_rfl) ?_;intro DZ Dc;replace S:=S.ext Dc;replace S:Sat w0 DZ [Box Bp 65 [i_ J.1.1,Bn],Box Bm 97 [.string a1,u2],Frz Bt Bx,Own R0_ [Z] D,Own R0_ [Bw] Bz,Own R2_ [Bs] Bv,Box Bo 65 [i_ (D.length:Int),n_],Box Y 65 [i_ 0,n_]]:=S.tops 8 [4,7,3,5] rfl;have hC:=(hCd _).2 ⟨_,S⟩;refine aP Bw 0 rfl rfl hC (aw rfl (fun w' hw'=>by obtain ⟨_,S⟩:=(hCd _).1 hw'; exact (aL CG))) ?_;refine aP (.pointer (some ⟨Bp,0 + 1,none⟩)) 1 rfl rfl hC (aw rfl (fun w' hw'=>by obtain ⟨_,S⟩:=(hCd _).1 hw'; exact (ae B5))) ?_;refine aP Bn 2 rfl rfl hC (aw rfl (fun w' hw'=>by obtain ⟨_,S⟩:=(hCd _).1 hw'; exact (ac rfl ((S.boxAt 0 rfl) 1 _ rfl)))) ?_;refine aP (i_ By) 3 rfl rfl hC (aw rfl (fun w' hw'=>by obtain ⟨_,S⟩:=(hCd _).1 hw'; exact (aL B6))) ?_;obtain ⟨EV,Dd,F⟩:=ob F;refine wQ (by kernel_rfl) 4 rfl hC (by kernel_rfl) (by kernel_rfl) rfl B1 rfl rfl Dd (dt rfl) ?_;intro EW Ex EX EY CH BK BT De;replace BK:=fun q hq=>(fun _ hq=>hq) q (BK q hq);replace BT:=(fun _ hq=>hq) _ BT;obtain ⟨D0,rfl⟩:=au (Rep.own_rd _ CH);refine aP D0 5 rfl rfl hC (aw rfl (fun w' hw'=>by obtain ⟨_,S⟩:=(hCd _).1 hw'; exact (ac rfl ((S.frzCells 2 rfl BT De) 0 _ rfl)))) ?_;refine aP (.pointer (some ⟨Bm,0 + 1,none⟩)) 6 rfl rfl hC (aw rfl (fun w' hw'=>by obtain ⟨_,S⟩:=(hCd _).1 hw'; exact (ae B4))) ?_;refine aP u2 7 rfl rfl hC (aw rfl (fun w' hw'=>by obtain ⟨_,S⟩:=(hCd _).1 hw'; exact (ac rfl ((S.boxAt 1 rfl) 1 _ rfl)))) ?_;refine aP Z 8 rfl rfl hC (aw rfl (fun w' hw'=>by obtain ⟨_,S⟩:=(hCd _).1 hw'; exact (aL BS))) ?_;refine aO 9 rfl ?_;refine pM (i_ BD) B7 (ag ?_);refine ⟨fun _=>hC,?_⟩;refine aO 10 rfl ?_;obtain ⟨D1,B9,F⟩:=ob F;obtain ⟨D2,El,CI⟩:=bK 3 S rfl B9;refine pe (.pointer (some ⟨D2,BD.toNat * 1,none⟩)) (bC (v:=Z) rfl CI rfl B9) (ag ?_);refine ⟨fun _=>hC,?_⟩;refine aO 11 rfl ?_;refine pe (i_ D1) (ac rfl (S.ownCell 3 rfl CI B9)) (ag ?_);refine ⟨fun _=>hC,?_⟩;refine aO 12 rfl ?_;obtain ⟨EZ,Df,F⟩:=ob F;refine ec0 nG (gI (S.up ha2) Df) (ca (ai rfl (ai rfl rfl))) S fun E0 Ey S=>?_;refine ag ?_;have hC:=(hCd _).2 ⟨_,S⟩;refine ⟨fun _=>hC,?_⟩;refine aO 13 rfl ?_;obtain ⟨BQ,Dg,F⟩:=ob F;refine lL rfl CH rfl rfl Dg (dt rfl) ?_;intro E1 Ez E2 E3 Dh Ch BU Di;replace Ch:=fun q hq=>BK q (Ch q hq);replace BU:=BK _ BU;obtain ⟨rfl,_⟩:=Dh;refine ag ?_;refine ⟨fun _=>hC,?_⟩;refine aO 14 rfl ?_;refine pe (i_ BQ) (ac rfl ((S.frzCells 2 rfl BU Di) 0 _ rfl)) (ag ?_);refine ⟨fun _=>hC,?_⟩;refine aO 15 rfl ?_;refine av [i_ BQ] rfl (by rfl) (dt rfl) rfl (dt rfl) S (dt rfl) ?_;intro CZ Cm S EA;refine ag ?_;replace S:Sat w0 CZ [Box Bp 65 [i_ J.1.1,Bn],Box Bm 97 [.string a1,u2],Frz Bt Bx,Own R0_ [Z] D,Box Cm 3 [i_ BQ],Own R0_ [Bw] Bz,Own R2_ [Bs] Bv,Box Bo 65 [i_ (D.length:Int),n_],Box Y 65 [i_ 0,n_]]:=S.tops 9 [1,2,3,4] rfl;have hC:=(hCd _).2 ⟨_,S⟩;refine ⟨fun _=>hC,?_⟩;refine aO 16 rfl ?_;obtain ⟨Ca,Dj,F⟩:=ob F;have CM:=S.boxRow 4 rfl;replace S:Sat w0 CZ [Own R0_ [Bw] Bz,Box Bp 65 [i_ J.1.1,Bn],Box Bm 97 [.string a1,u2],Frz Bt Bx,Own R0_ [Z] D,Box Cm 3 [i_ BQ],Own R2_ [Bs] Bv,Box Bo 65 [i_ (D.length:Int),n_],Box Y 65 [i_ 0,n_]]:=S.top 5 rfl;replace S:=S.int BQ;replace S:=S.one;refine az rfl (dt rfl) rfl (dt rfl) S rfl rfl rfl (by simp) CM Dj (dt rfl) ?_;intro Cn BV S;refine ag ?_;replace S:Sat w0 Cn [Box Bp 65 [i_ J.1.1,Bn],Box Bm 97 [.string a1,u2],Frz Bt Bx,Own R0_ [Z] D,Own R0_ [BV] Ca,Box Cm 3 [i_ BQ],Own R2_ [Bs] Bv,Box Bo 65 [i_ (D.length:Int),n_],Box Y 65 [i_ 0,n_]]:=S.tops 9 [1,2,3,4] rfl;have hC:=(hCd _).2 ⟨_,S⟩;refine ⟨fun _=>hC,?_⟩;refine aO 17 rfl ?_;refine pa BV (ag ?_);refine ⟨fun _=>hC,?_⟩;refine bm (by kernel_rfl) ?_;refine bn DY (tn DX ?_);replace S:Sat w0 Cn [Box Bp 65 [i_ J.1.1,Bn],Box Bm 97 [.string a1,u2],Frz Bt Bx,Own R0_ [Z] D,Own R0_ [BV] Ca,Own R2_ [Bs] Bv,Box Bo 65 [i_ (D.length:Int),n_],Box Y 65 [i_ 0,n_]]:=S.rems 9 [5] rfl;refine ah (pM (i_ BD) B7 ?_);obtain ⟨Co,Dk,F⟩:=ob F;refine pe (i_ Co) (aE rfl rfl Dk) (pa (i_ Co) (en CX ?_));replace S:Sat w0 Cn [Own R0_ [BV] Ca,Own R2_ [Bs] Bv,Box Bo 65 [i_ (D.length:Int),n_],Frz Bt Bx,Box Bp 65 [i_ J.1.1,Bn],Own R0_ [Z] D,Box Y 65 [i_ 0,n_],Box Bm 97 [.string a1,u2]]:=S.tops 8 [4,5,6,2,0,3,7,1] rfl;replace S:=S.keep 8;exact ⟨BV,Ca,Co,B4,CD,BS,B5,CE,CF,B6,rfl,rfl,S,F⟩
   refine cf B8 (aG (tx CY (tx CX ?_)));replace F:=exB F Db;refine bS DU (tn DS ?_);refine sR fun _ D3=>?_;refine pa (.bool true) (en D3 ?_);refine sg fun _ D4=>?_;refine sR fun _ D5=>?_;refine pa (i_ 0) (en D5 ?_);refine bg fun _ D6=>?_;obtain ⟨D7,hL,Dl⟩:=ob F;refine aH (fun k e w=>∃ (BR:Bool),∃ (BA:Int),e 3=.pointer (some ⟨Bm,0,none⟩)∧e 4=.pointer (some ⟨Y,0,none⟩)∧e 5=Z∧e 6=.pointer (some ⟨Bp,0,none⟩)∧e 8=.pointer (some ⟨Bo,0,none⟩)∧e 9=Bs∧e 10=i_ By∧e 11=Bw∧e 13=.bool BR∧e 14=i_ BA∧Sat w0 w [Own R0_ [Bw] Bz,Own R2_ [Bs] Bv,Box Bo 65 [i_ (D.length:Int),n_],Frz Bt Bx,Box Bp 65 [i_ J.1.1,Bn],Own R0_ [Z] D,Box Y 65 [i_ 0,n_],Box Bm 97 [.string a1,u2]]∧bW N k a1 a2 0 [] D J.1.1 J.1.2 (D.length:Int) [] Bv By Bz BR BA=some D7) N ?_ ?_ ?_
   ·exact ⟨true,0,B4,CD,BS,B5,CE,CF,B6,CG,rfl,rfl,S,hL⟩
   ·rintro e w ⟨_,_,_,_,_,_,_,_,_,_,_,_,_,hz⟩; exact nomatch (show none=some _ from hz)
   rintro k E4 D8 ⟨BR,BA,BB,BL,BE,BF,BM,BN,BG,BO,CJ,BH,S,F⟩;refine gn fun _ Cb=>?_;refine sg fun _ C0=>?_;refine sR fun _ D9=>?_;refine pM (i_ BA) BH (pe (.pointer (some ⟨Bm,0 + 1,none⟩)) (ae BB) (pe u2 (ac rfl ((S.boxAt 7 rfl) 1 _ rfl)) (pe (i_ (a2.length:Int)) (aq rfl ha2) (pe (.bool (decide (BA < (a2.length:Int)))) (aF rfl rfl) (en D9 ?_)))));rcases oif F with ⟨Cc,F⟩|⟨Cc,F⟩
   ·refine ct Cc (sn C0 ?_);refine sg fun _ Cp=>?_;refine bg fun _ Cq=>?_;refine sR fun _ Ea=>?_;refine pM Z BE (pe (.pointer (some ⟨Bm,0 + 1,none⟩)) (ae BB) (pe u2 (ac rfl ((S.boxAt 7 rfl) 1 _ rfl)) (pM (i_ BA) BH ?_)));obtain ⟨Eb,Dm,F⟩:=ob F;refine aJ (wA:=w0) rfl ha2 rfl (dt rfl) rfl Dm (dt rfl) ?_;intro E5 EB E6 Dn Do;obtain rfl:=Dn;refine pe (i_ Eb) (ac rfl ((am S.below Do) 0 _ rfl)) ?_;obtain ⟨BI,Dp,F⟩:=ob F;refine ec0 nG (gI (S.rdAt (R:=R0_) 5 rfl) Dp) (ca (ai rfl (ai rfl rfl))) S fun E7 EC S=>?_;refine pa (i_ BI) (en Ea ?_);refine bD (by kernel_rfl) (by kernel_rfl) ?_;refine qM (.bool BR) CJ (qm (.bool BR) ?_);rcases oif F with ⟨BC,F⟩|⟨BC,F⟩
    ·refine qi BC (qm (i_ BI) (qi BC (qe (.bool (decide (0 ≤ BI))) (d7 rfl rfl) (qe (.bool (decide (0 ≤ BI))) (aA rfl BC rfl) (qm (.bool (decide (0 ≤ BI))) ?_)))));rcases oif F with ⟨U,F⟩|⟨U,F⟩
     ·refine qi U (qM Bw BO (qi U (qm (i_ BI) (qi U ?_))));obtain ⟨BW,Cd,F⟩:=ob F;obtain ⟨Ec,Em,CK⟩:=bK 0 S rfl Cd;refine qe (.pointer (some ⟨Ec,BI.toNat * 1,none⟩)) (bC (v:=Bw) rfl CK rfl Cd) (qi U (qe (i_ BW) (ac rfl (S.ownCell 0 rfl CK Cd)) (qi U (qe (.pointer (some ⟨Bp,0 + 1,none⟩)) (ae BF) (qi U (qe Bn (ac rfl ((S.boxAt 4 rfl) 1 _ rfl)) (qi U (qM (i_ By) BG (qi U ?_)))))))));obtain ⟨E8,Dq,F⟩:=ob F;refine mR rfl B1 rfl rfl Dq (dt rfl) ?_;intro E9 ED Fa Fb CL BP BX Dr;replace BP:=fun q hq=>(fun _ hq=>hq) q (BP q hq);replace BX:=(fun _ hq=>hq) _ BX;obtain ⟨Ed,rfl⟩:=au (Rep.own_rd _ CL);refine qi U (qe Ed (ac rfl ((S.frzCells 3 rfl BX Dr) 0 _ rfl)) (qi U (qM (i_ BA) BH (qi U ?_))));obtain ⟨BY,Ds,F⟩:=ob F;refine mR rfl CL rfl rfl Ds (dt rfl) ?_;intro Fc EE Fd Fe Dt Ci BZ Du;replace Ci:=fun q hq=>BP q (Ci q hq);replace BZ:=BP _ BZ;obtain ⟨rfl,_⟩:=Dt;refine qi U (qe (i_ BY) (ac rfl ((S.frzCells 3 rfl BZ Du) 0 _ rfl)) (qi U (qe (.bool (BW == BY)) (bG rfl rfl) (qe (.bool (BW == BY)) (aA rfl U rfl) (qe (.bool (BW == BY)) (ez rfl) (a9 ?_))))));intro Ff Dv;replace S:=S.ext Dv;refine bn Cq (tn Cp (ah (pM (i_ BA) BH ?_)));obtain ⟨Cr,Dw,F⟩:=ob F;refine pe (i_ Cr) (aE rfl rfl Dw) (pa (i_ Cr) (en Cb ?_));replace S:=S.keep 8;exact ⟨(BW == BY),Cr,BB,BL,BE,BF,BM,BN,BG,BO,rfl,rfl,S,F⟩
     refine qo U (qo U (qo U (qo U (qo U (qo U (qo U (qo U (qo U (qo U (qo U (qo U (qo U (qe (.bool false) (aC rfl U rfl) (qe (.bool false) (ez rfl) (a9 ?_)))))))))))))));intro Fg Dx;replace S:=S.ext Dx;refine bn Cq (tn Cp (ah (pM (i_ BA) BH ?_)));obtain ⟨Cs,Dy,F⟩:=ob F;refine pe (i_ Cs) (aE rfl rfl Dy) (pa (i_ Cs) (en Cb ?_));replace S:=S.keep 8;exact ⟨false,Cs,BB,BL,BE,BF,BM,BN,BG,BO,rfl,rfl,S,F⟩
    refine qo BC (qo BC (qe (.bool false) (aC rfl BC rfl) (qm (.bool false) (qo rfl (qo rfl (qo rfl (qo rfl (qo rfl (qo rfl (qo rfl (qo rfl (qo rfl (qo rfl (qo rfl (qo rfl (qo rfl (qe (.bool false) (aC rfl rfl rfl) (qe (.bool false) (ez rfl) (a9 ?_)))))))))))))))))));intro Fh Dz;replace S:=S.ext Dz;refine bn Cq (tn Cp (ah (pM (i_ BA) BH ?_)));obtain ⟨Ct,DA,F⟩:=ob F;refine pe (i_ Ct) (aE rfl rfl DA) (pa (i_ Ct) (en Cb ?_));replace S:=S.keep 8;exact ⟨false,Ct,BB,BL,BE,BF,BM,BN,BG,BO,rfl,rfl,S,F⟩
   refine cf Cc (aG (tx C0 (tx Cb ?_)));replace F:=exB F Dl;refine bS D6 (tn D4 ?_);refine sR fun _ Ee=>?_;refine pM (.bool BR) CJ (en Ee ?_);rcases oif F with ⟨Ce,F⟩|⟨Ce,F⟩
   ·refine ct Ce (ah (pM Bs BN (pM Bw BO ?_)));refine av [Bw] (aQ rfl (oc (S.rdAt (R:=R0_) 0 rfl))) (by rfl) (dt rfl) rfl (dt rfl) S (dt rfl) ?_;intro C1 C2 S EF;obtain ⟨C3,DB,F⟩:=ob F;have CN:=S.boxRow 0 rfl;replace S:Sat w0 C1 [Own R2_ [Bs] Bv,Box C2 26 [Bw],Own R0_ [Bw] Bz,Box Bo 65 [i_ (D.length:Int),n_],Frz Bt Bx,Box Bp 65 [i_ J.1.1,Bn],Own R0_ [Z] D,Box Y 65 [i_ 0,n_],Box Bm 97 [.string a1,u2]]:=S.top 2 rfl;replace S:Sat w0 C1 [Own R0_ [Bw] Bz,Own R2_ [Bs] Bv,Box C2 26 [Bw],Box Bo 65 [i_ (D.length:Int),n_],Frz Bt Bx,Box Bp 65 [i_ J.1.1,Bn],Own R0_ [Z] D,Box Y 65 [i_ 0,n_],Box Bm 97 [.string a1,u2]]:=S.top 2 rfl;replace S:=S.one;refine az rfl (dt rfl) rfl (dt rfl) S rfl rfl rfl (by simp) CN DB (dt rfl) ?_;intro Ef Cu S;refine pa Cu (ag (bn CU (tn CT ?_)));replace S:Sat w0 Ef [Own R2_ [Cu] C3,Box Bo 65 [i_ (D.length:Int),n_],Frz Bt Bx,Box Bp 65 [i_ J.1.1,Bn],Own R0_ [Z] D,Box Y 65 [i_ 0,n_],Box Bm 97 [.string a1,u2]]:=S.rems 8 [1] rfl;refine ah (pM (i_ By) BG ?_);obtain ⟨Cv,DC,F⟩:=ob F;refine pe (i_ Cv) (aE rfl rfl DC) (pa (i_ Cv) (en Cl ?_));replace S:=S.keep 7;exact ⟨Cu,C3,Cv,BB,BL,BE,BF,BM,rfl,rfl,S,F⟩
   refine cf Ce (aV (bn CU (tn CT ?_)));replace S:Sat w0 D8 [Own R2_ [Bs] Bv,Box Bo 65 [i_ (D.length:Int),n_],Frz Bt Bx,Box Bp 65 [i_ J.1.1,Bn],Own R0_ [Z] D,Box Y 65 [i_ 0,n_],Box Bm 97 [.string a1,u2]]:=S.rems 8 [0] rfl;refine ah (pM (i_ By) BG ?_);obtain ⟨Cw,DD,F⟩:=ob F;refine pe (i_ Cw) (aE rfl rfl DD) (pa (i_ Cw) (en Cl ?_));replace S:=S.keep 7;exact ⟨Bs,Bv,Cw,BB,BL,BE,BF,BM,BN,rfl,S,F⟩
  refine cf B3 (aG (tx CS (tx Cl ?_)));replace F:=exB F C9;refine bS DN (tn DL ?_);refine sg fun _ Eg=>?_;replace S:Sat w0 DP [Own R2_ [Bs] Bv,Box Bo 65 [i_ (D.length:Int),n_],Own R0_ [Z] D,Box Y 65 [i_ 0,n_]]:=S.rems 7 [2,3,6] rfl;refine ah (pM Z Cy (pe (i_ (D.length:Int)) (aq rfl (S.rdAt (R:=R0_) 2 rfl)) (pM Bs CB ?_)));obtain ⟨Bq,DE,F⟩:=ob F;refine ec1 uj (jz (S.rdAt (R:=R2_) 0 rfl) DE) (ca (ai rfl (ai rfl rfl))) S fun Fi Br EG S=>?_;refine pm (.tuple #[.agg #[i_ Bq.1.1,Br],.bool Bq.2]) (pe (.agg #[i_ Bq.1.1,Br]) (aI rfl rfl) (pe (.bool Bq.2) (aI rfl rfl) ?_));refine aU S (dt rfl) ?_;intro Fj B0 S EH;refine ax (S.top 0 rfl) rfl [i_ Bq.1.1,Br] rfl rfl (dt rfl) (all_cons rfl (all_cons (oc (S.rdAt (R:=R2_) 1 rfl)) rfl)) ?_;intro Cf S;replace S:Sat w0 Cf [Box B0 65 [i_ Bq.1.1,Br],Own R2_ [Br] Bq.1.2,Own R2_ [Bs] Bv,Box Bo 65 [i_ (D.length:Int),n_],Own R0_ [Z] D,Box Y 65 [i_ 0,n_]]:=S;refine pa (.bool Bq.2) (en Eg ?_);refine sg fun _ C4=>?_;refine sg fun _ Eh=>?_;replace S:Sat w0 Cf [Box B0 65 [i_ Bq.1.1,Br],Own R2_ [Br] Bq.1.2,Box Bo 65 [i_ (D.length:Int),n_],Box Y 65 [i_ 0,n_]]:=S.rems 6 [2,4] rfl;refine ah (pm (.bool Bq.2) (pe (.bool (!Bq.2)) (aZ rfl) (en Eh ?_)));rcases oif F with ⟨Cg,F⟩|⟨Cg,F⟩
  ·refine cf (an Cg) (sn C4 ?_);refine sg fun _ Ei=>?_;replace S:Sat w0 Cf [Box B0 65 [i_ Bq.1.1,Br],Own R2_ [Br] Bq.1.2,Box Y 65 [i_ 0,n_]]:=S.rems 4 [2] rfl;refine ah (pe (.agg #[i_ Bq.1.1,Br]) (ay (cs:=[i_ Bq.1.1,Br]) rfl rfl (aK (S.boxAt 0 rfl))) ?_);refine ax (S.top 2 rfl) BJ [i_ Bq.1.1,Br] rfl rfl (dt rfl) (all_cons rfl (all_cons (oc (S.rdAt (R:=R2_) 1 rfl)) rfl)) ?_;intro Cx S;replace S:Sat w0 Cx [Box Y 65 [i_ Bq.1.1,Br],Box B0 65 [i_ Bq.1.1,Br],Own R2_ [Br] Bq.1.2]:=S;refine en Ei (aj ?_);refine ja (cs:=[i_ Bq.1.1,Br]) rfl BJ rfl (aK (S.boxAt 0 rfl))  ?_;replace S:Sat w0 Cx [Own R2_ [Br] Bq.1.2,Box Y 65 [i_ Bq.1.1,Br],Box B0 65 [i_ Bq.1.1,Br]]:=S.tops 3 [2] rfl;have hr:=Option.some.inj F;exact ⟨Br,congrArg (fun (r:Int × List T0_)=>Ending.returned (.agg #[i_ r.1,Br])) hr,Eq.mp (congrArg (fun (r:Int × List T0_)=>Sat w0 Cx [Own R2_ [Br] r.2]) hr) (S.keep 1)⟩
  refine ct (ap Cg) ?_;refine sg fun _ Ej=>?_;replace S:Sat w0 Cf [Box Bo 65 [i_ (D.length:Int),n_],Box Y 65 [i_ 0,n_]]:=S.rems 4 [0,1] rfl;refine ah (pe (.agg #[i_ (D.length:Int),n_]) (ay (cs:=[i_ (D.length:Int),n_]) CA rfl (aK (S.boxAt 0 rfl))) ?_);refine ax (S.top 1 rfl) BJ [i_ (D.length:Int),n_] rfl rfl (dt rfl) (all_cons rfl (all_cons rfl rfl)) ?_;intro C5 S;replace S:Sat w0 C5 [Box Y 65 [i_ (D.length:Int),n_],Box Bo 65 [i_ (D.length:Int),n_]]:=S;refine en Ej (aj (tr C4 ?_));replace S:=S.nil R0_ 26;refine ja (cs:=[i_ (D.length:Int),n_]) rfl BJ rfl (aK (S.boxAt 1 rfl))  ?_;have hr:=Option.some.inj F;exact ⟨n_,congrArg (fun (r:Int × List T0_)=>Ending.returned (.agg #[i_ r.1,n_])) hr,Eq.mp (congrArg (fun (r:Int × List T0_)=>Sat w0 C5 [Own R2_ [n_] r.2]) hr) (S.keep 1)⟩
 refine eo (ap Bu) (eo (ap Bu) (eo (ap Bu) (eo (ap Bu) (eo (ap Bu) (eo (ap Bu) (pe (.bool true) (aA rfl (ap Bu) rfl) (en CP (ct rfl ?_))))))));refine sg fun _ Ek=>?_;replace S:Sat w0 Cj [Box Bo 65 [i_ (D.length:Int),n_],Box Y 65 [i_ 0,n_]]:=S.rems 6 [1,2,3,5] rfl;refine ah (pe (.agg #[i_ (D.length:Int),n_]) (ay (cs:=[i_ (D.length:Int),n_]) rfl rfl (aK (S.boxAt 0 rfl))) ?_);refine ax (S.top 1 rfl) rfl [i_ (D.length:Int),n_] rfl rfl (dt rfl) (all_cons rfl (all_cons rfl rfl)) ?_;intro C6 S;replace S:Sat w0 C6 [Box Y 65 [i_ (D.length:Int),n_],Box Bo 65 [i_ (D.length:Int),n_]]:=S;refine en Ek (aj (tr Ck ?_));replace S:=S.nil R0_ 26;refine ja (cs:=[i_ (D.length:Int),n_]) rfl rfl rfl (aK (S.boxAt 1 rfl))  ?_;have hr:=Option.some.inj F;exact ⟨n_,congrArg (fun (r:Int × List T0_)=>Ending.returned (.agg #[i_ r.1,n_])) hr,Eq.mp (congrArg (fun (r:Int × List T0_)=>Sat w0 C6 [Own R2_ [n_] r.2]) hr) (S.keep 1)⟩
theorem g9 {w0:World} {a0:ByteArray} {u1:Value} {a1:List Int} {u2:Value} {a2:List Int} (ha0:a0.size ≤ 9223372036854775807) (ha1:R0_.rd w0 [u1] a1) (ha2:R0_.rd w0 [u2] a2) {N:Nat} {r:T0_} (F:fu N a0 a1 a2=some r): Calls Tryz.prog 73 #[.agg #[.string a0,u1],u2] w0 fun e w'=>∃ (q0:Value),e=.returned (q0)∧Sat w0 w' [Own R0_ [q0] r] := by
 unfold fu at F;refine aD Tryz.func73 rfl rfl (dt rfl) ?_;have S:=Sat.start w0;refine sR fun _ BT=>?_;refine aW [.string a0,u1] rfl S (dt rfl) ?_;intro Cf Cg S B8;refine pa n_ (en BT ?_);refine sR fun _ BU=>?_;refine pe (.agg #[.string a0,u1]) (ay (cs:=[.string a0,u1]) rfl rfl (aK (S.boxAt 0 rfl))) ?_;obtain ⟨Br,BI,F⟩:=ob F;refine ec1 xa (kN ha0 (S.up ha1) BI) (ca (ai rfl rfl)) S fun BV Z B9 S=>?_;refine pa Z (en BU ?_);refine sg fun _ BW=>?_;replace S:Sat w0 BV [Own R0_ [Z] Br]:=S.rems 2 [1] rfl;refine ah ?_;refine aY a7 S (dt rfl) ?_;intro Ch BC S Ca;refine pa BC (en BW ?_);refine sg fun _ BX=>?_;refine sR fun _ BY=>?_;refine pa (i_ 0) (en BY ?_);refine bg fun _ BZ=>?_;obtain ⟨B0,hL,BJ⟩:=ob F;refine aH (fun k e w=>∃ (D:Value),∃ (Bm:List Int),∃ (U:Int),e 1=u2∧e 5=Z∧e 6=D∧e 7=i_ U∧Sat w0 w [Own R0_ [D] Bm,Own R0_ [Z] Br]∧bP N k a2 Br Bm U=some B0) N ?_ ?_ ?_
 ·exact ⟨BC,[],0,rfl,rfl,rfl,rfl,S,hL⟩
 ·rintro e w ⟨_,_,_,_,_,_,_,_,hz⟩; exact nomatch (show none=some _ from hz)
 rintro k Ci BD ⟨D,Bm,U,Bn,Bq,Bo,Bp,S,F⟩;refine gn fun _ Bs=>?_;refine sg fun _ BE=>?_;refine sR fun _ B1=>?_;refine pM (i_ U) Bp (pM u2 Bn (pe (i_ (a2.length:Int)) (aq rfl ha2) (pe (.bool (decide (U < (a2.length:Int)))) (aF rfl rfl) (en B1 ?_))));rcases oif F with ⟨Bt,F⟩|⟨Bt,F⟩
 ·refine ct Bt (sn BE ?_);refine sg fun _ Bv=>?_;refine bg fun _ Bw=>?_;refine sR fun _ B2=>?_;refine pM Z Bq (pM u2 Bn (pM (i_ U) Bp ?_));obtain ⟨B3,BK,F⟩:=ob F;refine aJ (wA:=w0) rfl ha2 rfl (dt rfl) rfl BK (dt rfl) ?_;intro Cj Cb Ck BL BM;obtain rfl:=BL;refine pe (i_ B3) (ac rfl ((am S.below BM) 0 _ rfl)) ?_;obtain ⟨Y,BN,F⟩:=ob F;refine ec0 nG (gI (S.rdAt (R:=R0_) 1 rfl) BN) (ca (ai rfl (ai rfl rfl))) S fun Cl Cc S=>?_;refine pa (i_ Y) (en B2 ?_);refine sR fun _ BF=>?_;refine pm (i_ Y) (pe (.bool (decide (0 ≤ Y))) (d7 rfl rfl) (pm (.bool (decide (0 ≤ Y))) ?_));rcases oif F with ⟨J,F⟩|⟨J,F⟩
  ·refine ei J (pM D Bo (ei J (pm (i_ Y) (ei J ?_))));obtain ⟨BG,BO,F⟩:=ob F;refine ec0 nG (gI (S.rdAt (R:=R0_) 0 rfl) BO) (ca (ai rfl (ai rfl rfl))) S fun Cm Cd S=>?_;refine ei J (pe (.bool (decide (BG < 0))) (aF rfl rfl) (pe (.bool (decide (BG < 0))) (aA rfl J rfl) (en BF ?_)));rcases oif F with ⟨Bu,F⟩|⟨Bu,F⟩
   ·refine ct Bu (ah (pM D Bo (pm (i_ Y) ?_)));refine av [i_ Y] rfl (by rfl) (dt rfl) rfl (dt rfl) S (dt rfl) ?_;intro B4 B5 S Ce;obtain ⟨BH,BP,F⟩:=ob F;have BB:=S.boxRow 0 rfl;replace S:Sat w0 B4 [Own R0_ [D] Bm,Box B5 3 [i_ Y],Own R0_ [Z] Br]:=S.top 1 rfl;replace S:=S.int Y;replace S:=S.one;refine az rfl (dt rfl) rfl (dt rfl) S rfl rfl rfl (by simp) BB BP (dt rfl) ?_;intro B6 Bx S;refine pa Bx (ag (bn Bw (tn Bv ?_)));replace S:Sat w0 B6 [Own R0_ [Bx] BH,Own R0_ [Z] Br]:=S.rems 3 [1] rfl;refine ah (pM (i_ U) Bp ?_);obtain ⟨By,BQ,F⟩:=ob F;refine pe (i_ By) (aE rfl rfl BQ) (pa (i_ By) (en Bs ?_));replace S:=S.keep 2;exact ⟨Bx,BH,By,Bn,Bq,rfl,rfl,S,F⟩
   refine cf Bu (aV (bn Bw (tn Bv (ah (pM (i_ U) Bp ?_)))));obtain ⟨Bz,BR,F⟩:=ob F;refine pe (i_ Bz) (aE rfl rfl BR) (pa (i_ Bz) (en Bs ?_));replace S:=S.keep 2;exact ⟨D,Bm,Bz,Bn,Bq,Bo,rfl,S,F⟩
  refine eo J (eo J (eo J (eo J (pe (.bool false) (aC rfl J rfl) (en BF (cf rfl (aV (bn Bw (tn Bv (ah (pM (i_ U) Bp ?_)))))))))));obtain ⟨BA,BS,F⟩:=ob F;refine pe (i_ BA) (aE rfl rfl BS) (pa (i_ BA) (en Bs ?_));replace S:=S.keep 2;exact ⟨D,Bm,BA,Bn,Bq,Bo,rfl,S,F⟩
 refine cf Bt (aG (tx BE (tx Bs ?_)));replace F:=exB F BJ;refine bS BZ (tn BX ?_);refine sg fun _ B7=>?_;replace S:Sat w0 BD [Own R0_ [D] Bm]:=S.rems 2 [1] rfl;refine ah (pM D Bo (pa D (en B7 (aj (aB rfl rfl ?_)))));have hr:=Option.some.inj F;exact ⟨D,congrArg (fun (r:T0_)=>Ending.returned (D)) hr,Eq.mp (congrArg (fun (r:T0_)=>Sat w0 BD [Own R0_ [D] r]) hr) (S.keep 1)⟩
theorem pd {w0:World} {u0:Value} {a0:List T8_} {a1:Int} {u2:Value} {a2:List T3_} {u3:Value} {a3:List Int} {u4:Value} {a4:List Int} (ha0:a6.rd w0 [u0] a0) (ha2:R7_.rd w0 [u2] a2) (ha3:R0_.rd w0 [u3] a3) (ha4:R0_.rd w0 [u4] a4) {N:Nat} {r:T7_ × Bool} (F:iw N a0 a1 a2 a3 a4=some r): Calls Tryz.prog 50 #[.agg #[u0],.agg #[i_ a1,u2,u3],u4] w0 fun e w'=>∃ (q0:Value),e=.returned (.tuple #[q0,.bool r.2])∧Sat w0 w' [Own bj [q0] r.1] := by
 unfold iw at F;refine aD Tryz.func50 rfl rfl (dt rfl) ?_;have S:=Sat.start w0;refine sR fun _ CD=>?_;refine aW [u0] rfl S (dt rfl) ?_;intro C2 Bm S CS;refine aW [i_ a1,u2,u3] rfl S (dt rfl) ?_;intro C3 Y S CT;refine pa n_ (pa (.bool false) (en CD ?_));refine sR fun _ CE=>?_;refine aY R5_ S (dt rfl) ?_;intro C4 Bt S CU;refine pa Bt (en CE ?_);refine sg fun _ BP=>?_;refine sR fun _ BZ=>?_;refine pe (.agg #[u0]) (ay (cs:=[u0]) rfl rfl (aK (S.boxAt 2 rfl))) (pe (.agg #[i_ a1,u2,u3]) (ay (cs:=[i_ a1,u2,u3]) rfl rfl (aK (S.boxAt 1 rfl))) ?_);obtain ⟨B0,Ci,F⟩:=ob F;refine ec0 AM (oO (S.up ha0) (S.up ha2) (S.up ha3) Ci) (ca (ai rfl (ai rfl rfl))) S fun B1 CV S=>?_;refine pe (.bool (!B0)) (aZ rfl) (pm (.bool (!B0)) ?_);rcases oif F with ⟨Bu,F⟩|⟨Bu,F⟩
 ·refine ei (an Bu) (pe (.agg #[i_ a1,u2,u3]) (ay (cs:=[i_ a1,u2,u3]) rfl rfl (aK (S.boxAt 1 rfl))) (ei (an Bu) (pm u4 (ei (an Bu) ?_))));obtain ⟨B2,Cj,F⟩:=ob F;refine ec0 Aq (n9 (S.up ha2) (S.up ha3) (S.up ha4) Cj) (ca (ai rfl (ai rfl rfl))) S fun B3 CX S=>?_;refine ei (an Bu) (pe (.bool (!B2)) (aZ rfl) (pe (.bool (!B2)) (aC rfl (an Bu) rfl) (en BZ ?_)));rcases oif F with ⟨BG,F⟩|⟨BG,F⟩
  ·refine cf (an BG) (sn BP ?_);refine sg fun _ B4=>?_;refine sR fun _ CF=>?_;refine pa (i_ 0) (en CF ?_);refine bg fun _ B5=>?_;obtain ⟨CG,hL,BU⟩:=ob F;refine aH (fun k e w=>∃ (U:Value),∃ (Bn:List T4_),∃ (Bv:Int),e 2=u4∧e 3=.pointer (some ⟨Bm,0,none⟩)∧e 4=.pointer (some ⟨Y,0,none⟩)∧e 8=U∧e 9=i_ Bv∧Sat w0 w [Own bj [U] Bn,Box Y 39 [i_ a1,u2,u3],Box Bm 35 [u0]]∧dc N k a4 a0 a1 a2 a3 Bn Bv=some CG) N ?_ ?_ ?_
   ·exact ⟨Bt,[],0,rfl,rfl,rfl,rfl,rfl,S,hL⟩
   ·rintro e w ⟨_,_,_,_,_,_,_,_,_,hz⟩; exact nomatch (show none=some _ from hz)
   rintro k C5 B6 ⟨U,Bn,Bv,BA,BB,Bw,BC,Bx,S,F⟩;refine gn fun _ BQ=>?_;refine sg fun _ B7=>?_;refine sR fun _ CH=>?_;refine pM (i_ Bv) Bx (pe (.pointer (some ⟨Y,0 + 1,none⟩)) (ae Bw) (pe u2 (ac rfl ((S.boxAt 1 rfl) 1 _ rfl)) (pe (i_ (a2.length:Int)) (aq rfl ha2) (pe (.bool (decide (Bv < (a2.length:Int)))) (aF rfl rfl) (en CH ?_)))));rcases oif F with ⟨BH,F⟩|⟨BH,F⟩
   ·refine ct BH (sn B7 ?_);refine sg fun _ B8=>?_;refine bg fun _ B9=>?_;refine sg fun _ CI=>?_;obtain ⟨Ca,Ck,F⟩:=ob F;obtain ⟨Cb,Cl,F⟩:=ob F;obtain ⟨Bp,BV,F⟩:=ob F;obtain ⟨Br,BI,F⟩:=ob F;obtain ⟨D,BD,F⟩:=ob F;refine kf (fun e w=>∃ (Z:Nat),∃ (J:Value),e 2=u4∧e 3=.pointer (some ⟨Bm,0,none⟩)∧e 4=.pointer (some ⟨Y,0,none⟩)∧e 8=U∧e 9=i_ Bv∧e 10=.pointer (some ⟨Z,0,none⟩)∧e 11=.bool D.2∧Sat w0 w [Box Y 39 [i_ a1,u2,u3],Box Bm 35 [u0],Own bj [U] Bn,Box Z 117 [i_ D.1.1,J],Own R2_ [J] D.1.2]) ?_ ?_
    ·obtain ⟨C,hCd⟩:∃ C:World → Prop,∀ w,C w ↔ ∃ G,Sat w0 w ([Box Y 39 [i_ a1,u2,u3],Box Bm 35 [u0]] ++ G):=⟨_,fun _=>Iff.rfl⟩;refine bT [0,1,2,3,4,5,6,7,8,9,10,11,12,13,14,15,16,17,18,19,20] C (by kernel_rfl) ?_;intro CJ Cm;replace S:=S.ext Cm;replace S:Sat w0 CJ [Box Y 39 [i_ a1,u2,u3],Box Bm 35 [u0],Own bj [U] Bn]:=S.tops 3 [1,2] rfl;have hC:=(hCd _).2 ⟨_,S⟩;refine aP (.agg #[u0]) 0 rfl rfl hC (aw rfl (fun w' hw'=>by obtain ⟨_,S⟩:=(hCd _).1 hw'; exact (ay (cs:=[u0]) BB rfl (aK (S.boxAt 1 rfl))))) ?_;refine aP (.pointer (some ⟨Y,0 + 1,none⟩)) 1 rfl rfl hC (aw rfl (fun w' hw'=>by obtain ⟨_,S⟩:=(hCd _).1 hw'; exact (ae Bw))) ?_;refine aP u2 2 rfl rfl hC (aw rfl (fun w' hw'=>by obtain ⟨_,S⟩:=(hCd _).1 hw'; exact (ac rfl ((S.boxAt 0 rfl) 1 _ rfl)))) ?_;refine aP (i_ Bv) 3 rfl rfl hC (aw rfl (fun w' hw'=>by obtain ⟨_,S⟩:=(hCd _).1 hw'; exact (aL Bx))) ?_;refine eZ (wA:=w0) (by kernel_rfl) 4 rfl hC (by kernel_rfl) (by kernel_rfl) rfl ha2 rfl (dt rfl) rfl Ck (dt rfl) ?_;intro C6 CY C7 Cn Co;obtain ⟨_,_,rfl,Cp,BJ⟩:=Cn;obtain ⟨rfl,BW⟩:=Cp;obtain ⟨Cc,rfl⟩:=au BJ;refine aP (.agg #[.string Ca.1,Cc]) 5 rfl rfl hC (aw rfl (fun w' hw'=>by obtain ⟨_,S⟩:=(hCd _).1 hw'; exact (ay (cs:=[.string Ca.1,Cc]) rfl rfl (am S.below Co)))) ?_;refine aP (.pointer (some ⟨Y,0 + 1,none⟩)) 7 rfl rfl hC (aw rfl (fun w' hw'=>by obtain ⟨_,S⟩:=(hCd _).1 hw'; exact (ae Bw))) ?_;refine aP u2 8 rfl rfl hC (aw rfl (fun w' hw'=>by obtain ⟨_,S⟩:=(hCd _).1 hw'; exact (ac rfl ((S.boxAt 0 rfl) 1 _ rfl)))) ?_;refine aP (i_ Bv) 9 rfl rfl hC (aw rfl (fun w' hw'=>by obtain ⟨_,S⟩:=(hCd _).1 hw'; exact (aL Bx))) ?_;refine eZ (wA:=w0) (by kernel_rfl) 10 rfl hC (by kernel_rfl) (by kernel_rfl) rfl ha2 rfl (dt rfl) rfl Cl (dt rfl) ?_;intro C8 CZ C9 Cq Cr;obtain ⟨_,_,rfl,Cs,BE⟩:=Cq;obtain ⟨rfl,BK⟩:=Cs;obtain ⟨Cd,rfl⟩:=au BE;refine aP (.agg #[.string Cb.1,Cd]) 11 rfl rfl hC (aw rfl (fun w' hw'=>by obtain ⟨_,S⟩:=(hCd _).1 hw'; exact (ay (cs:=[.string Cb.1,Cd]) rfl rfl (am S.below Cr)))) ?_;refine aP u4 12 rfl rfl hC (aw rfl (fun w' hw'=>by obtain ⟨_,S⟩:=(hCd _).1 hw'; exact (aL BA))) ?_;refine dM 6 18 (by kernel_rfl) rfl rfl ?_ ?_
     ·refine ec1 wy (kR (S.up ha0) BW (S.up BJ) BV) (ca (ai rfl (ai rfl rfl))) S fun BR Bo Ct S=>?_;refine ag ?_;replace S:Sat w0 BR [Box Y 39 [i_ a1,u2,u3],Box Bm 35 [u0],Own R2_ [Bo] Bp.2,Own bj [U] Bn]:=S.tops 4 [1,2] rfl;have hC:=(hCd _).2 ⟨_,S⟩;refine ⟨fun _=>hC,?_⟩;refine dM 13 18 (by kernel_rfl) rfl rfl ?_ ?_
      ·refine ec1 tD (g9 BK (S.up BE) (S.up ha4) BI) (ca (ai rfl (ai rfl rfl))) S fun BF Bq BX S=>?_;refine ag ?_;replace S:Sat w0 BF [Box Y 39 [i_ a1,u2,u3],Box Bm 35 [u0],Own R0_ [Bq] Br,Own R2_ [Bo] Bp.2,Own bj [U] Bn]:=S.tops 5 [1,2] rfl;have hC:=(hCd _).2 ⟨_,S⟩;refine ⟨fun _=>hC,?_⟩;refine dM 14 18 (by kernel_rfl) rfl rfl ?_ ?_
       ·refine ec1 r8 (iP (S.rdAt (R:=R2_) 3 rfl) (S.rdAt (R:=R0_) 2 rfl) BD) (ca (ai rfl (ai rfl rfl))) S fun By J BL S=>?_;refine ag ?_;replace S:Sat w0 By [Box Y 39 [i_ a1,u2,u3],Box Bm 35 [u0],Own R2_ [J] D.1.2,Own R0_ [Bq] Br,Own R2_ [Bo] Bp.2,Own bj [U] Bn]:=S.tops 6 [1,2] rfl;have hC:=(hCd _).2 ⟨_,S⟩;refine ⟨fun _=>hC,?_⟩;refine aP (.tuple #[.agg #[i_ D.1.1,J],.bool D.2]) 15 rfl rfl hC (aw rfl (fun w' hw'=>by obtain ⟨_,S⟩:=(hCd _).1 hw'; exact (aL rfl))) ?_;refine aP (.agg #[i_ D.1.1,J]) 16 rfl rfl hC (aw rfl (fun w' hw'=>by obtain ⟨_,S⟩:=(hCd _).1 hw'; exact (aI rfl rfl))) ?_;refine aP (.bool D.2) 17 rfl rfl hC (aw rfl (fun w' hw'=>by obtain ⟨_,S⟩:=(hCd _).1 hw'; exact (aI rfl rfl))) ?_;refine aO 18 rfl ?_;refine aU S (dt rfl) ?_;intro Bz Z S BM;refine ag ?_;replace S:Sat w0 Bz [Box Y 39 [i_ a1,u2,u3],Box Bm 35 [u0],Box Z 117 [i_ 0,n_],Own R2_ [J] D.1.2,Own R0_ [Bq] Br,Own R2_ [Bo] Bp.2,Own bj [U] Bn]:=S.tops 7 [1,2] rfl;have hC:=(hCd _).2 ⟨_,S⟩;refine ⟨fun _=>hC,?_⟩;refine aO 19 rfl ?_;refine ax (S.top 2 rfl) rfl [i_ D.1.1,J] rfl rfl (dt rfl) (all_cons rfl (all_cons (oc (S.rdAt (R:=R2_) 3 rfl)) rfl)) ?_;intro Bs S;replace S:Sat w0 Bs [Box Z 117 [i_ D.1.1,J],Box Y 39 [i_ a1,u2,u3],Box Bm 35 [u0],Own R2_ [J] D.1.2,Own R0_ [Bq] Br,Own R2_ [Bo] Bp.2,Own bj [U] Bn]:=S;refine ag ?_;replace S:Sat w0 Bs [Box Y 39 [i_ a1,u2,u3],Box Bm 35 [u0],Box Z 117 [i_ D.1.1,J],Own R2_ [J] D.1.2,Own R0_ [Bq] Br,Own R2_ [Bo] Bp.2,Own bj [U] Bn]:=S.tops 7 [1,2] rfl;have hC:=(hCd _).2 ⟨_,S⟩;refine ⟨fun _=>hC,?_⟩;refine aO 20 rfl ?_;refine pa (.bool D.2) (ag ?_);refine ⟨fun _=>hC,?_⟩;refine bm (by kernel_rfl) ?_;replace S:Sat w0 Bs [Box Y 39 [i_ a1,u2,u3],Box Bm 35 [u0],Own bj [U] Bn,Box Z 117 [i_ D.1.1,J],Own R2_ [J] D.1.2,Own R0_ [Bq] Br,Own R2_ [Bo] Bp.2]:=S.tops 7 [0,1,6,2,3] rfl;replace S:Sat w0 Bs [Box Y 39 [i_ a1,u2,u3],Box Bm 35 [u0],Own bj [U] Bn,Box Z 117 [i_ D.1.1,J],Own R2_ [J] D.1.2]:=S.rems 7 [5,6] rfl;exact ⟨rfl,Z,J,BA,BB,Bw,BC,Bx,rfl,rfl,S⟩
       refine aU S (dt rfl) ?_;intro Bz Z S BM;refine ag ?_;replace S:Sat w0 Bz [Box Y 39 [i_ a1,u2,u3],Box Bm 35 [u0],Box Z 117 [i_ 0,n_],Own R0_ [Bq] Br,Own R2_ [Bo] Bp.2,Own bj [U] Bn]:=S.tops 6 [1,2] rfl;have hC:=(hCd _).2 ⟨_,S⟩;refine ⟨fun _=>hC,?_⟩;refine aO 14 rfl ?_;refine ec1 r8 (iP (S.rdAt (R:=R2_) 4 rfl) (S.rdAt (R:=R0_) 3 rfl) BD) (ca (ai rfl (ai rfl rfl))) S fun By J BL S=>?_;refine ag ?_;replace S:Sat w0 By [Box Y 39 [i_ a1,u2,u3],Box Bm 35 [u0],Own R2_ [J] D.1.2,Box Z 117 [i_ 0,n_],Own R0_ [Bq] Br,Own R2_ [Bo] Bp.2,Own bj [U] Bn]:=S.tops 7 [1,2] rfl;have hC:=(hCd _).2 ⟨_,S⟩;refine ⟨fun _=>hC,?_⟩;refine aO 15 rfl ?_;refine pm (.tuple #[.agg #[i_ D.1.1,J],.bool D.2]) (ag ?_);refine ⟨fun _=>hC,?_⟩;refine aP (.agg #[i_ D.1.1,J]) 16 rfl rfl hC (aw rfl (fun w' hw'=>by obtain ⟨_,S⟩:=(hCd _).1 hw'; exact (aI rfl rfl))) ?_;refine aP (.bool D.2) 17 rfl rfl hC (aw rfl (fun w' hw'=>by obtain ⟨_,S⟩:=(hCd _).1 hw'; exact (aI rfl rfl))) ?_;refine aO 19 rfl ?_;refine ax (S.top 3 rfl) rfl [i_ D.1.1,J] rfl rfl (dt rfl) (all_cons rfl (all_cons (oc (S.rdAt (R:=R2_) 2 rfl)) rfl)) ?_;intro Bs S;replace S:Sat w0 Bs [Box Z 117 [i_ D.1.1,J],Box Y 39 [i_ a1,u2,u3],Box Bm 35 [u0],Own R2_ [J] D.1.2,Own R0_ [Bq] Br,Own R2_ [Bo] Bp.2,Own bj [U] Bn]:=S;refine ag ?_;replace S:Sat w0 Bs [Box Y 39 [i_ a1,u2,u3],Box Bm 35 [u0],Box Z 117 [i_ D.1.1,J],Own R2_ [J] D.1.2,Own R0_ [Bq] Br,Own R2_ [Bo] Bp.2,Own bj [U] Bn]:=S.tops 7 [1,2] rfl;have hC:=(hCd _).2 ⟨_,S⟩;refine ⟨fun _=>hC,?_⟩;refine aO 20 rfl ?_;refine pa (.bool D.2) (ag ?_);refine ⟨fun _=>hC,?_⟩;refine bm (by kernel_rfl) ?_;replace S:Sat w0 Bs [Box Y 39 [i_ a1,u2,u3],Box Bm 35 [u0],Own bj [U] Bn,Box Z 117 [i_ D.1.1,J],Own R2_ [J] D.1.2,Own R0_ [Bq] Br,Own R2_ [Bo] Bp.2]:=S.tops 7 [0,1,6,2,3] rfl;replace S:Sat w0 Bs [Box Y 39 [i_ a1,u2,u3],Box Bm 35 [u0],Own bj [U] Bn,Box Z 117 [i_ D.1.1,J],Own R2_ [J] D.1.2]:=S.rems 7 [5,6] rfl;exact ⟨rfl,Z,J,BA,BB,Bw,BC,Bx,rfl,rfl,S⟩
      refine aU S (dt rfl) ?_;intro Bz Z S BM;refine ag ?_;replace S:Sat w0 Bz [Box Y 39 [i_ a1,u2,u3],Box Bm 35 [u0],Box Z 117 [i_ 0,n_],Own R2_ [Bo] Bp.2,Own bj [U] Bn]:=S.tops 5 [1,2] rfl;have hC:=(hCd _).2 ⟨_,S⟩;refine ⟨fun _=>hC,?_⟩;refine aO 13 rfl ?_;refine ec1 tD (g9 BK (S.up BE) (S.up ha4) BI) (ca (ai rfl (ai rfl rfl))) S fun BF Bq BX S=>?_;refine ag ?_;replace S:Sat w0 BF [Box Y 39 [i_ a1,u2,u3],Box Bm 35 [u0],Own R0_ [Bq] Br,Box Z 117 [i_ 0,n_],Own R2_ [Bo] Bp.2,Own bj [U] Bn]:=S.tops 6 [1,2] rfl;have hC:=(hCd _).2 ⟨_,S⟩;refine ⟨fun _=>hC,?_⟩;refine aO 14 rfl ?_;refine ec1 r8 (iP (S.rdAt (R:=R2_) 4 rfl) (S.rdAt (R:=R0_) 2 rfl) BD) (ca (ai rfl (ai rfl rfl))) S fun By J BL S=>?_;refine ag ?_;replace S:Sat w0 By [Box Y 39 [i_ a1,u2,u3],Box Bm 35 [u0],Own R2_ [J] D.1.2,Own R0_ [Bq] Br,Box Z 117 [i_ 0,n_],Own R2_ [Bo] Bp.2,Own bj [U] Bn]:=S.tops 7 [1,2] rfl;have hC:=(hCd _).2 ⟨_,S⟩;refine ⟨fun _=>hC,?_⟩;refine aO 15 rfl ?_;refine pm (.tuple #[.agg #[i_ D.1.1,J],.bool D.2]) (ag ?_);refine ⟨fun _=>hC,?_⟩;refine aP (.agg #[i_ D.1.1,J]) 16 rfl rfl hC (aw rfl (fun w' hw'=>by obtain ⟨_,S⟩:=(hCd _).1 hw'; exact (aI rfl rfl))) ?_;refine aP (.bool D.2) 17 rfl rfl hC (aw rfl (fun w' hw'=>by obtain ⟨_,S⟩:=(hCd _).1 hw'; exact (aI rfl rfl))) ?_;refine aO 19 rfl ?_;refine ax (S.top 4 rfl) rfl [i_ D.1.1,J] rfl rfl (dt rfl) (all_cons rfl (all_cons (oc (S.rdAt (R:=R2_) 2 rfl)) rfl)) ?_;intro Bs S;replace S:Sat w0 Bs [Box Z 117 [i_ D.1.1,J],Box Y 39 [i_ a1,u2,u3],Box Bm 35 [u0],Own R2_ [J] D.1.2,Own R0_ [Bq] Br,Own R2_ [Bo] Bp.2,Own bj [U] Bn]:=S;refine ag ?_;replace S:Sat w0 Bs [Box Y 39 [i_ a1,u2,u3],Box Bm 35 [u0],Box Z 117 [i_ D.1.1,J],Own R2_ [J] D.1.2,Own R0_ [Bq] Br,Own R2_ [Bo] Bp.2,Own bj [U] Bn]:=S.tops 7 [1,2] rfl;have hC:=(hCd _).2 ⟨_,S⟩;refine ⟨fun _=>hC,?_⟩;refine aO 20 rfl ?_;refine pa (.bool D.2) (ag ?_);refine ⟨fun _=>hC,?_⟩;refine bm (by kernel_rfl) ?_;replace S:Sat w0 Bs [Box Y 39 [i_ a1,u2,u3],Box Bm 35 [u0],Own bj [U] Bn,Box Z 117 [i_ D.1.1,J],Own R2_ [J] D.1.2,Own R0_ [Bq] Br,Own R2_ [Bo] Bp.2]:=S.tops 7 [0,1,6,2,3] rfl;replace S:Sat w0 Bs [Box Y 39 [i_ a1,u2,u3],Box Bm 35 [u0],Own bj [U] Bn,Box Z 117 [i_ D.1.1,J],Own R2_ [J] D.1.2]:=S.rems 7 [5,6] rfl;exact ⟨rfl,Z,J,BA,BB,Bw,BC,Bx,rfl,rfl,S⟩
     refine aU S (dt rfl) ?_;intro Bz Z S BM;refine ag ?_;replace S:Sat w0 Bz [Box Y 39 [i_ a1,u2,u3],Box Bm 35 [u0],Box Z 117 [i_ 0,n_],Own bj [U] Bn]:=S.tops 4 [1,2] rfl;have hC:=(hCd _).2 ⟨_,S⟩;refine ⟨fun _=>hC,?_⟩;refine aO 6 rfl ?_;refine ec1 wy (kR (S.up ha0) BW (S.up BJ) BV) (ca (ai rfl (ai rfl rfl))) S fun BR Bo Ct S=>?_;refine ag ?_;replace S:Sat w0 BR [Box Y 39 [i_ a1,u2,u3],Box Bm 35 [u0],Own R2_ [Bo] Bp.2,Box Z 117 [i_ 0,n_],Own bj [U] Bn]:=S.tops 5 [1,2] rfl;have hC:=(hCd _).2 ⟨_,S⟩;refine ⟨fun _=>hC,?_⟩;refine aO 13 rfl ?_;refine ec1 tD (g9 BK (S.up BE) (S.up ha4) BI) (ca (ai rfl (ai rfl rfl))) S fun BF Bq BX S=>?_;refine ag ?_;replace S:Sat w0 BF [Box Y 39 [i_ a1,u2,u3],Box Bm 35 [u0],Own R0_ [Bq] Br,Own R2_ [Bo] Bp.2,Box Z 117 [i_ 0,n_],Own bj [U] Bn]:=S.tops 6 [1,2] rfl;have hC:=(hCd _).2 ⟨_,S⟩;refine ⟨fun _=>hC,?_⟩;refine aO 14 rfl ?_;refine ec1 r8 (iP (S.rdAt (R:=R2_) 3 rfl) (S.rdAt (R:=R0_) 2 rfl) BD) (ca (ai rfl (ai rfl rfl))) S fun By J BL S=>?_;refine ag ?_;replace S:Sat w0 By [Box Y 39 [i_ a1,u2,u3],Box Bm 35 [u0],Own R2_ [J] D.1.2,Own R0_ [Bq] Br,Own R2_ [Bo] Bp.2,Box Z 117 [i_ 0,n_],Own bj [U] Bn]:=S.tops 7 [1,2] rfl;have hC:=(hCd _).2 ⟨_,S⟩;refine ⟨fun _=>hC,?_⟩;refine aO 15 rfl ?_;refine pm (.tuple #[.agg #[i_ D.1.1,J],.bool D.2]) (ag ?_);refine ⟨fun _=>hC,?_⟩;refine aP (.agg #[i_ D.1.1,J]) 16 rfl rfl hC (aw rfl (fun w' hw'=>by obtain ⟨_,S⟩:=(hCd _).1 hw'; exact (aI rfl rfl))) ?_;refine aP (.bool D.2) 17 rfl rfl hC (aw rfl (fun w' hw'=>by obtain ⟨_,S⟩:=(hCd _).1 hw'; exact (aI rfl rfl))) ?_;refine aO 19 rfl ?_;refine ax (S.top 5 rfl) rfl [i_ D.1.1,J] rfl rfl (dt rfl) (all_cons rfl (all_cons (oc (S.rdAt (R:=R2_) 2 rfl)) rfl)) ?_;intro Bs S;replace S:Sat w0 Bs [Box Z 117 [i_ D.1.1,J],Box Y 39 [i_ a1,u2,u3],Box Bm 35 [u0],Own R2_ [J] D.1.2,Own R0_ [Bq] Br,Own R2_ [Bo] Bp.2,Own bj [U] Bn]:=S;refine ag ?_;replace S:Sat w0 Bs [Box Y 39 [i_ a1,u2,u3],Box Bm 35 [u0],Box Z 117 [i_ D.1.1,J],Own R2_ [J] D.1.2,Own R0_ [Bq] Br,Own R2_ [Bo] Bp.2,Own bj [U] Bn]:=S.tops 7 [1,2] rfl;have hC:=(hCd _).2 ⟨_,S⟩;refine ⟨fun _=>hC,?_⟩;refine aO 20 rfl ?_;refine pa (.bool D.2) (ag ?_);refine ⟨fun _=>hC,?_⟩;refine bm (by kernel_rfl) ?_;replace S:Sat w0 Bs [Box Y 39 [i_ a1,u2,u3],Box Bm 35 [u0],Own bj [U] Bn,Box Z 117 [i_ D.1.1,J],Own R2_ [J] D.1.2,Own R0_ [Bq] Br,Own R2_ [Bo] Bp.2]:=S.tops 7 [0,1,6,2,3] rfl;replace S:Sat w0 Bs [Box Y 39 [i_ a1,u2,u3],Box Bm 35 [u0],Own bj [U] Bn,Box Z 117 [i_ D.1.1,J],Own R2_ [J] D.1.2]:=S.rems 7 [5,6] rfl;exact ⟨rfl,Z,J,BA,BB,Bw,BC,Bx,rfl,rfl,S⟩
    rintro Da CK ⟨Z,J,Cu,Cv,Cw,Cx,Cy,Cz,CA,S⟩;refine tn CI ?_;refine sg fun _ Ce=>?_;refine sR fun _ CL=>?_;refine pM (.bool D.2) CA (pe (.bool (!D.2)) (aZ rfl) (en CL ?_));rcases oif F with ⟨BN,F⟩|⟨BN,F⟩
    ·refine cf (an BN) (sn Ce (ah (pM U Cx (pe (.agg #[i_ D.1.1,J]) (ay (cs:=[i_ D.1.1,J]) Cz rfl (aK (S.boxAt 3 rfl))) ?_))));refine av [i_ D.1.1,J] rfl (by rfl) (dt rfl) rfl (dt rfl) S (dt rfl) ?_;intro Cf Cg S C0;obtain ⟨Ch,CB,F⟩:=ob F;have BY:=S.boxRow 0 rfl;replace S:Sat w0 Cf [Own bj [U] Bn,Box Cg 117 [i_ D.1.1,J],Box Y 39 [i_ a1,u2,u3],Box Bm 35 [u0],Box Z 117 [i_ D.1.1,J],Own R2_ [J] D.1.2]:=S.top 3 rfl;replace S:Sat w0 Cf [Own R2_ [J] D.1.2,Own bj [U] Bn,Box Cg 117 [i_ D.1.1,J],Box Y 39 [i_ a1,u2,u3],Box Bm 35 [u0],Box Z 117 [i_ D.1.1,J]]:=S.top 5 rfl;replace S:=S.int D.1.1;replace S:=S.pair;replace S:=S.one;refine az rfl (dt rfl) rfl (dt rfl) S rfl rfl rfl (by simp) BY CB (dt rfl) ?_;intro CM BS S;refine pa BS (ag (bn B9 (tn B8 ?_)));replace S:Sat w0 CM [Own bj [BS] Ch,Box Y 39 [i_ a1,u2,u3],Box Bm 35 [u0]]:=S.rems 5 [1,4] rfl;refine ah (pM (i_ Bv) Cy ?_);obtain ⟨BT,CC,F⟩:=ob F;refine pe (i_ BT) (aE rfl rfl CC) (pa (i_ BT) (en BQ ?_));replace S:=S.keep 3;exact ⟨BS,Ch,BT,Cu,Cv,Cw,rfl,rfl,S,F⟩
    refine ct (ap BN) ?_;refine sg fun _ CN=>?_;replace S:Sat w0 CK []:=S.rems 5 [0,1,2,3,4] rfl;refine ah ?_;refine aY R5_ S (dt rfl) ?_;intro CO BO S C1;refine pa BO (pa (.bool false) (en CN (aj (tr Ce (br B9 (tr B8 (tr BQ (br B5 (tr B4 ?_)))))))));replace F:=exL F BU;refine fi rfl rfl rfl ?_;have hr:=Option.some.inj F;exact ⟨BO,congrArg (fun (r:T7_ × Bool)=>Ending.returned (.tuple #[BO,.bool r.2])) hr,Eq.mp (congrArg (fun (r:T7_ × Bool)=>Sat w0 CO [Own bj [BO] r.1]) hr) (S.keep 1)⟩
   refine cf BH (aG (tx B7 (tx BQ ?_)));replace F:=exA F BU;refine bS B5 (tn B4 ?_);refine sg fun _ CP=>?_;replace S:Sat w0 B6 [Own bj [U] Bn]:=S.rems 3 [1,2] rfl;refine ah (pM U BC (pa U (pa (.bool true) (en CP (aj (fi rfl rfl rfl ?_))))));have hr:=Option.some.inj F;exact ⟨U,congrArg (fun (r:T7_ × Bool)=>Ending.returned (.tuple #[U,.bool r.2])) hr,Eq.mp (congrArg (fun (r:T7_ × Bool)=>Sat w0 B6 [Own bj [U] r.1]) hr) (S.keep 1)⟩
  refine ct (ap BG) ?_;refine sg fun _ CQ=>?_;replace S:Sat w0 B3 [Own bj [Bt] []]:=S.rems 3 [1,2] rfl;refine ah (pm Bt (pa Bt (pa (.bool false) (en CQ (aj (tr BP (fi rfl rfl rfl ?_)))))));have hr:=Option.some.inj F;exact ⟨Bt,congrArg (fun (r:T7_ × Bool)=>Ending.returned (.tuple #[Bt,.bool r.2])) hr,Eq.mp (congrArg (fun (r:T7_ × Bool)=>Sat w0 B3 [Own bj [Bt] r.1]) hr) (S.keep 1)⟩
 refine eo (ap Bu) (eo (ap Bu) (eo (ap Bu) (eo (ap Bu) (pe (.bool true) (aA rfl (ap Bu) rfl) (en BZ (ct rfl ?_))))));refine sg fun _ CR=>?_;replace S:Sat w0 B1 [Own bj [Bt] []]:=S.rems 3 [1,2] rfl;refine ah (pm Bt (pa Bt (pa (.bool false) (en CR (aj (tr BP (fi rfl rfl rfl ?_)))))));have hr:=Option.some.inj F;exact ⟨Bt,congrArg (fun (r:T7_ × Bool)=>Ending.returned (.tuple #[Bt,.bool r.2])) hr,Eq.mp (congrArg (fun (r:T7_ × Bool)=>Sat w0 B1 [Own bj [Bt] r.1]) hr) (S.keep 1)⟩
theorem qW {w0:World} {u0:Value} {a0:List T4_} (ha0:bj.rd w0 [u0] a0) {N:Nat} {r:Bool} (F:hQ N a0=some r): Calls Tryz.prog 51 #[u0] w0 fun e w'=>e=.returned (.bool r)∧Ext w0 w' := by
 unfold hQ at F;refine aD Tryz.func51 rfl rfl (dt rfl) ?_;have S:=Sat.start w0;refine sR fun _ BC=>?_;refine pa (.bool false) (en BC ?_);refine sg fun _ Bq=>?_;refine sR fun _ BD=>?_;refine pa (i_ 0) (en BD ?_);refine bg fun _ Br=>?_;obtain ⟨BE,hL,Bo⟩:=ob F;refine aH (fun k e w=>∃ (D:Int),e 0=u0∧e 3=i_ D∧Sat w0 w []∧dH N k a0 D=some BE) N ?_ ?_ ?_
 ·exact ⟨0,rfl,rfl,S,hL⟩
 ·rintro e w ⟨_,_,_,_,hz⟩; exact nomatch (show none=some _ from hz)
 rintro k BL BM ⟨D,J,U,S,F⟩;refine gn fun _ Bm=>?_;refine sg fun _ Bs=>?_;refine sR fun _ BF=>?_;refine pM (i_ D) U (pM u0 J (pe (i_ (a0.length:Int)) (aq rfl ha0) (pe (.bool (decide (D < (a0.length:Int)))) (aF rfl rfl) (en BF ?_))));rcases oif F with ⟨Y,F⟩|⟨Y,F⟩
 ·refine ct Y (sn Bs ?_);refine sg fun _ Bt=>?_;refine bg fun _ Bu=>?_;refine sR fun _ BG=>?_;refine pM u0 J (pM (i_ D) U ?_);obtain ⟨Bv,Bw,F⟩:=ob F;refine aJ (wA:=w0) rfl ha0 rfl (dt rfl) rfl Bw (dt rfl) ?_;intro BH Bx BN By Bz;obtain ⟨_,_,rfl,BA,Bp⟩:=By;obtain rfl:=BA;obtain ⟨BI,rfl⟩:=au Bp;refine pe (.pointer (some ⟨BH,Bx + 1,none⟩)) (ae rfl) (pe BI (ac rfl ((am S.below Bz) 1 _ rfl)) (pe (i_ (Bv.2.length:Int)) (aq rfl Bp) (pe (.bool ((Bv.2.length:Int) == 0)) (bG rfl rfl) (en BG ?_))));rcases oif F with ⟨Z,F⟩|⟨Z,F⟩
  ·refine ct Z ?_;refine sR fun _ BJ=>?_;refine pa (.bool true) (en BJ (aj (br Bu (tr Bt (tr Bm (br Br (tr Bq ?_)))))));replace F:=exL F Bo;refine aB rfl rfl ?_;exact rB F S
  refine cf Z (aV (bn Bu (tn Bt (ah (pM (i_ D) U ?_)))));obtain ⟨Bn,BB,F⟩:=ob F;refine pe (i_ Bn) (aE rfl rfl BB) (pa (i_ Bn) (en Bm ?_));replace S:=S.keep 0;exact ⟨Bn,J,rfl,S,F⟩
 refine cf Y (aG (tx Bs (tx Bm ?_)));replace F:=exA F Bo;refine bS Br (tn Bq ?_);refine sR fun _ BK=>?_;refine pa (.bool false) (en BK (aj (aB rfl rfl ?_)));exact rB F S
theorem ml {w0:World} {a0:Int} {u1:Value} {a1:List T3_} {u2:Value} {a2:List Int} {a3:Int} (ha1:R7_.rd w0 [u1] a1) (ha2:R0_.rd w0 [u2] a2) {N:Nat} {r:T0_} (F:eR N a0 a1 a2 a3=some r): Calls Tryz.prog 100 #[.agg #[i_ a0,u1,u2],i_ a3] w0 fun e w'=>∃ (q0:Value),e=.returned (q0)∧Sat w0 w' [Own R0_ [q0] r] := by
 unfold eR at F;refine aD Tryz.func100 rfl rfl (dt rfl) ?_;have S:=Sat.start w0;refine sR fun _ BV=>?_;refine aW [i_ a0,u1,u2] rfl S (dt rfl) ?_;intro Cc Bn S B6;refine pa n_ (en BV ?_);refine sR fun _ BW=>?_;refine aY a7 S (dt rfl) ?_;intro Cd BA S B7;refine pa BA (en BW ?_);refine sg fun _ BB=>?_;refine sR fun _ BX=>?_;refine pa (i_ 0) (en BX ?_);refine bg fun _ BC=>?_;obtain ⟨BY,hL,Bx⟩:=ob F;refine aH (fun k e w=>∃ (D:Value),∃ (Y:List Int),∃ (J:Int),e 1=i_ a3∧e 2=.pointer (some ⟨Bn,0,none⟩)∧e 5=D∧e 6=i_ J∧Sat w0 w [Own R0_ [D] Y,Box Bn 39 [i_ a0,u1,u2]]∧bH N k a3 a0 a1 a2 Y J=some BY) N ?_ ?_ ?_
 ·exact ⟨BA,[],0,rfl,rfl,rfl,rfl,S,hL⟩
 ·rintro e w ⟨_,_,_,_,_,_,_,_,hz⟩; exact nomatch (show none=some _ from hz)
 rintro k Ce BD ⟨D,Y,J,Bp,Z,Bo,Bm,S,F⟩;refine gn fun _ Bq=>?_;refine sg fun _ Bt=>?_;refine sR fun _ BE=>?_;refine pM (i_ J) Bm (pe (.pointer (some ⟨Bn,0 + 1,none⟩)) (ae Z) (pe u1 (ac rfl ((S.boxAt 1 rfl) 1 _ rfl)) (pe (i_ (a1.length:Int)) (aq rfl ha1) (pe (.bool (decide (J < (a1.length:Int)))) (aF rfl rfl) (pm (.bool (decide (J < (a1.length:Int)))) ?_)))));rcases oif F with ⟨U,F⟩|⟨U,F⟩
 ·refine ei U (pe (.agg #[i_ a0,u1,u2]) (ay (cs:=[i_ a0,u1,u2]) Z rfl (aK (S.boxAt 1 rfl))) (ei U ?_));obtain ⟨BZ,BL,F⟩:=ob F;refine ec0 tg (je (S.up ha1) (S.up ha2) BL) (ca (ai rfl rfl)) S fun BF B8 S=>?_;refine pe (.bool BZ) (aA rfl U rfl) (en BE ?_);rcases oif F with ⟨Br,F⟩|⟨Br,F⟩
  ·refine ct Br (sn Bt ?_);refine sg fun _ BG=>?_;refine bg fun _ BH=>?_;refine sR fun _ B0=>?_;refine pe (.pointer (some ⟨Bn,0 + 1,none⟩)) (ae Z) (pe u1 (ac rfl ((S.boxAt 1 rfl) 1 _ rfl)) (pM (i_ J) Bm ?_));obtain ⟨BI,BM,F⟩:=ob F;refine aJ (wA:=w0) rfl ha1 rfl (dt rfl) rfl BM (dt rfl) ?_;intro Cf B9 Cg BN BO;obtain ⟨_,_,rfl,BP,By⟩:=BN;obtain ⟨rfl,BQ⟩:=BP;obtain ⟨BJ,rfl⟩:=au By;refine pe (.agg #[.string BI.1,BJ]) (ay (cs:=[.string BI.1,BJ]) rfl rfl (am S.below BO)) (pM (i_ a3) Bp ?_);obtain ⟨Ch,BR,F⟩:=ob F;refine ec0 pB (fw BQ (S.up By) BR) (ca (ai rfl (ai rfl rfl))) S fun Ci Ca S=>?_;refine en B0 ?_;rcases oif F with ⟨Bs,F⟩|⟨Bs,F⟩
   ·refine ct Bs (ah (pM D Bo (pM (i_ J) Bm ?_)));refine av [i_ J] rfl (by rfl) (dt rfl) rfl (dt rfl) S (dt rfl) ?_;intro B1 B2 S Cb;obtain ⟨BK,BS,F⟩:=ob F;have Bz:=S.boxRow 0 rfl;replace S:Sat w0 B1 [Own R0_ [D] Y,Box B2 3 [i_ J],Box Bn 39 [i_ a0,u1,u2]]:=S.top 1 rfl;replace S:=S.int J;replace S:=S.one;refine az rfl (dt rfl) rfl (dt rfl) S rfl rfl rfl (by simp) Bz BS (dt rfl) ?_;intro B3 Bu S;refine pa Bu (ag (bn BH (tn BG ?_)));replace S:Sat w0 B3 [Own R0_ [Bu] BK,Box Bn 39 [i_ a0,u1,u2]]:=S.rems 3 [1] rfl;refine ah (pM (i_ J) Bm ?_);obtain ⟨Bv,BT,F⟩:=ob F;refine pe (i_ Bv) (aE rfl rfl BT) (pa (i_ Bv) (en Bq ?_));replace S:=S.keep 2;exact ⟨Bu,BK,Bv,Bp,Z,rfl,rfl,S,F⟩
   refine cf Bs (aV (bn BH (tn BG (ah (pM (i_ J) Bm ?_)))));obtain ⟨Bw,BU,F⟩:=ob F;refine pe (i_ Bw) (aE rfl rfl BU) (pa (i_ Bw) (en Bq ?_));replace S:=S.keep 2;exact ⟨D,Y,Bw,Bp,Z,Bo,rfl,S,F⟩
  refine cf Br (aG (tx Bt (tx Bq ?_)));replace F:=exB F Bx;refine bS BC (tn BB ?_);refine sg fun _ B4=>?_;replace S:Sat w0 BF [Own R0_ [D] Y]:=S.rems 2 [1] rfl;refine ah (pM D Bo (pa D (en B4 (aj (aB rfl rfl ?_)))));have hr:=Option.some.inj F;exact ⟨D,congrArg (fun (r:T0_)=>Ending.returned (D)) hr,Eq.mp (congrArg (fun (r:T0_)=>Sat w0 BF [Own R0_ [D] r]) hr) (S.keep 1)⟩
 refine eo U (eo U (pe (.bool false) (aC rfl U rfl) (en BE (cf rfl (aG (tx Bt (tx Bq ?_)))))));replace F:=exB F Bx;refine bS BC (tn BB ?_);refine sg fun _ B5=>?_;replace S:Sat w0 BD [Own R0_ [D] Y]:=S.rems 2 [1] rfl;refine ah (pM D Bo (pa D (en B5 (aj (aB rfl rfl ?_)))));have hr:=Option.some.inj F;exact ⟨D,congrArg (fun (r:T0_)=>Ending.returned (D)) hr,Eq.mp (congrArg (fun (r:T0_)=>Sat w0 BD [Own R0_ [D] r]) hr) (S.keep 1)⟩
theorem sw {w0:World} {a0:Int} {u1:Value} {a1:List T0_} (ha1:R2_.rd w0 [u1] a1) {N:Nat} {r:Int × List T0_} (F:lK N a0 a1=some r): Calls Tryz.prog 145 #[.agg #[i_ a0,u1]] w0 fun e w'=>∃ (q0:Value),e=.returned (.agg #[i_ r.1,q0])∧Ext w0 w'∧R2_.rd w' [q0] r.2 := by
 unfold lK at F;refine aD Tryz.func145 rfl rfl (dt rfl) ?_;have S:=Sat.start w0;refine sR fun _ U=>?_;refine aW [i_ a0,u1] rfl S (dt rfl) ?_;intro Bo D S Bm;refine aU S (dt rfl) ?_;intro Bp Y S Bn;refine en U ?_;refine sR fun _ Z=>?_;refine pe (.pointer (some ⟨D,0 + 0,none⟩)) (ae rfl) (pe (i_ a0) (ac rfl ((S.boxAt 1 rfl) 0 _ rfl)) (pe (.pointer (some ⟨D,0 + 1,none⟩)) (ae rfl) (pe u1 (ac rfl ((S.boxAt 1 rfl) 1 _ rfl)) (pe (.agg #[i_ a0,u1]) (bo [(0,[i_ a0]),(1,[u1])] [i_ a0,u1] (eE rfl (eE (aQ rfl (oc ha1)) rfl)) rfl) ?_))));refine ax (S.top 0 rfl) rfl [i_ a0,u1] rfl rfl (dt rfl) (all_cons rfl (all_cons (oc ha1) rfl)) ?_;intro J S;replace S:Sat w0 J [Box Y 65 [i_ a0,u1],Box D 117 [i_ a0,u1]]:=S;refine en Z (aj ?_);refine ja (cs:=[i_ a0,u1]) rfl rfl rfl (aK (S.boxAt 0 rfl))  ?_;have hr:=Option.some.inj F;exact ⟨u1,congrArg (fun (r:Int × List T0_)=>Ending.returned (.agg #[i_ r.1,u1])) hr,S.below,Eq.mp (congrArg (fun (r:Int × List T0_)=>R2_.rd J [u1] r.2) hr) (S.up ha1)⟩
theorem oI {w0:World} {a0:Int} {u1:Value} {a1:List T0_} (ha1:R2_.rd w0 [u1] a1) {N:Nat} {r:Bool} (F:gX N a0 a1=some r): Calls Tryz.prog 139 #[.agg #[i_ a0,u1]] w0 fun e w'=>e=.returned (.bool r)∧Ext w0 w' := by
 unfold gX at F;refine aD Tryz.func139 rfl rfl (dt rfl) ?_;have S:=Sat.start w0;refine sR fun _ Bm=>?_;refine aW [i_ a0,u1] rfl S (dt rfl) ?_;intro Bq Br S Bp;refine pa (.bool false) (en Bm ?_);refine sR fun _ Bn=>?_;refine pe (.agg #[i_ a0,u1]) (ay (cs:=[i_ a0,u1]) rfl rfl (aK (S.boxAt 0 rfl))) ?_;obtain ⟨Bs,J,F⟩:=ob F;refine be yx (sw (S.up ha1) J) (ca (ai rfl rfl)) (dt rfl) ?_;rintro _ Bt ⟨Bu,rfl,U,D⟩;refine ⟨_,rfl,?_⟩;replace S:=S.ext U;obtain ⟨Bo,Y,F⟩:=ob F;refine ec0 oP (er D Y) (ca (ai rfl rfl)) S fun Bv Z S=>?_;have D:=bl D Z;refine pa (.bool Bo) (en Bn (aj (aB rfl rfl ?_)));exact rB F S

end Go.Proofs.YtmnbfjhefejmoaaGreat
