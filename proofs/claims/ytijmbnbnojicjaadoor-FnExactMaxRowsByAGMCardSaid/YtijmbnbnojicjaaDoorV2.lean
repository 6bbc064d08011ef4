/- Plain laws: the program's vertices are the specification's points. -/
import Derived.Test.YtijmbnbnojicjaaDoorV1
namespace Go.Proofs.YtijmbnbnojicjaaDoor
open Go.RowKit
section
variable {N:Nat}
theorem mU {α:Type} [DecidableEq α] {a b:List α} {i:Nat} (h1:i<a.length) (h2:i<b.length):(a.drop i=b.drop i)↔(a[i]=b[i]∧a.drop (i+1)=b.drop (i+1)):=by
 rw [List.drop_eq_getElem_cons h1,List.drop_eq_getElem_cons h2,List.cons.injEq]
theorem t8 (p q:cL):(p.1 == q.1&&p.2 == q.2)=decide (p=q):=by
 obtain ⟨a,b⟩:=p;obtain ⟨c,d⟩:=q
 by_cases h:a=c <;> by_cases h2:b=d <;> simp [h,h2]
theorem xD {a b:aW} (hl:a.length=b.length) (h6:a.length≤1000):∀ (c i fuel:Nat),i+c=a.length→c<fuel→d8 N fuel a b (a.length:Int) (i:Int)=some (if a.drop i=b.drop i then .inr (a.length:Int) else .inl false):=by
 intro c
 induction c with
 | zero =>
  intro i fuel hi hf
  obtain ⟨fuel,rfl⟩:∃ k',fuel=k'+1:=⟨fuel-1,by omega⟩
  rw [d8,decide_eq_false (by omega),cond_false,List.drop_eq_nil_of_le (by omega),List.drop_eq_nil_of_le (by omega),if_pos rfl,show (i:Int)=(a.length:Int) by omega]
 | succ c ih =>
  intro i fuel hi hf
  obtain ⟨fuel,rfl⟩:∃ k',fuel=k'+1:=⟨fuel-1,by omega⟩
  rw [d8,decide_eq_true (by omega),cond_true,aV (by omega),bs,aV (by omega),bs,t8]
  by_cases h:a[i]'(by omega)=b[i]'(by omega)
  ·rw [decide_eq_true h,cond_true,bE (by omega) (by omega),bs]
   have:=ih (i+1) fuel (by omega) (by omega)
   rw [show ((i:Int)+1)=((i+1:Nat):Int) by omega,this]
   have e:(a.drop i=b.drop i)↔(a.drop (i+1)=b.drop (i+1)):=by rw [mU (by omega) (by omega)];simp [h]
   simp only [e]
  ·rw [decide_eq_false h,cond_false,if_neg (by rw [mU (by omega) (by omega)];exact fun h'=>h h'.1)]
theorem xX {a b:aW} (hl:a.length=b.length) (h6:a.length≤1000):∀ (c i fuel:Nat),i+c=a.length→c<fuel→bu N fuel a b (i:Int)=some (if a.drop i=b.drop i then .inr (a.length:Int) else .inl false):=by
 intro c
 induction c with
 | zero =>
  intro i fuel hi hf
  obtain ⟨fuel,rfl⟩:∃ k',fuel=k'+1:=⟨fuel-1,by omega⟩
  rw [bu,decide_eq_false (by omega),cond_false,List.drop_eq_nil_of_le (by omega),List.drop_eq_nil_of_le (by omega),if_pos rfl,show (i:Int)=(a.length:Int) by omega]
 | succ c ih =>
  intro i fuel hi hf
  obtain ⟨fuel,rfl⟩:∃ k',fuel=k'+1:=⟨fuel-1,by omega⟩
  rw [bu,decide_eq_true (by omega),cond_true,aV (by omega),bs,aV (by omega),bs,t8]
  by_cases h:a[i]'(by omega)=b[i]'(by omega)
  ·rw [decide_eq_true h,cond_true,bE (by omega) (by omega),bs]
   have:=ih (i+1) fuel (by omega) (by omega)
   rw [show ((i:Int)+1)=((i+1:Nat):Int) by omega,this]
   have e:(a.drop i=b.drop i)↔(a.drop (i+1)=b.drop (i+1)):=by rw [mU (by omega) (by omega)];simp [h]
   simp only [e]
  ·rw [decide_eq_false h,cond_false,if_neg (by rw [mU (by omega) (by omega)];exact fun h'=>h h'.1)]
theorem vK (hN:1073741824≤N) {a b:aW} (h6:a.length≤1000):fC N a b=some (decide (a=b)):=by
 unfold fC
 by_cases hl:a.length=b.length
 ·have:=xD (N:=N) hl h6 a.length 0 N (by omega) (by omega)
  rw [show ((0:Nat):Int)=0 from rfl] at this
  rw [show ((a.length:Int) != (b.length:Int))=false by simp [hl],cond_false,this,bs,List.drop_zero,List.drop_zero]
  by_cases e:a=b
  ·rw [if_pos e,decide_eq_true e];rfl
  ·rw [if_neg e,decide_eq_false e];rfl
 ·rw [show ((a.length:Int) != (b.length:Int))=true by simp;omega,cond_true,decide_eq_false (fun e=>hl (by rw [e]))]
theorem wF (hN:1073741824≤N) {a b:aW} (h6:a.length≤1000):cP N a b=some (decide (a=b)):=by
 unfold cP
 by_cases hl:a.length=b.length
 ·have:=xX (N:=N) hl h6 a.length 0 N (by omega) (by omega)
  rw [show ((0:Nat):Int)=0 from rfl] at this
  rw [show ((a.length:Int) != (b.length:Int))=false by simp [hl],cond_false,this,bs,List.drop_zero,List.drop_zero]
  by_cases e:a=b
  ·rw [if_pos e,decide_eq_true e];rfl
  ·rw [if_neg e,decide_eq_false e];rfl
 ·rw [show ((a.length:Int) != (b.length:Int))=true by simp;omega,cond_true,decide_eq_false (fun e=>hl (by rw [e]))]
theorem zm (hN:1073741824≤N) {sg n m i:Int} {A:ba} {B C x:aW} {L:List (List Int)} {out:ba} (ho:out.length≤100000) (hr:∀ y∈out,y.length≤1000):∀ (c k fuel:Nat) (b:Bool),k+c=out.length→c<fuel →
  bO N fuel sg A B C out n m L i x b (k:Int)=some (b||decide (x∈out.drop k),(out.length:Int)):=by
 intro c
 induction c with
 | zero =>
  intro k fuel b hk hf
  obtain ⟨fuel,rfl⟩:∃ k',fuel=k'+1:=⟨fuel-1,by omega⟩
  rw [bO,decide_eq_false (by omega),cond_false,List.drop_eq_nil_of_le (by omega),show (k:Int)=(out.length:Int) by omega]
  simp
 | succ c ih =>
  intro k fuel b hk hf
  obtain ⟨fuel,rfl⟩:∃ k',fuel=k'+1:=⟨fuel-1,by omega⟩
  have hk':k<out.length:=by omega
  rw [bO,decide_eq_true (by omega),cond_true,List.drop_eq_getElem_cons hk']
  cases b with
  | true =>
   rw [cond_true,bE (by omega) (by omega),bs]
   have:=ih (k+1) fuel true (by omega) (by omega)
   rw [show ((k:Int)+1)=((k+1:Nat):Int) by omega,this]
   simp
  | false =>
   rw [cond_false,aV hk',bs,wF hN (hr _ (List.getElem_mem hk')),bs,bE (by omega) (by omega),bs]
   have:=ih (k+1) fuel (decide (out[k]=x)) (by omega) (by omega)
   rw [show ((k:Int)+1)=((k+1:Nat):Int) by omega,this]
   have e:(x=out[k])↔(out[k]=x):=⟨Eq.symm,Eq.symm⟩
   simp only [List.mem_cons,e,Bool.false_or,Bool.decide_or]
theorem zn (hN:1073741824≤N) {rec:Int→(List Int)→Int→(List (List (Int × Int)))→(List (Int × Int))→(List (List (Int × Int)))→(List (Int × Int))→(List (Int × Int))→Int→(List (List (Int × Int)))→Option (List (List (Int × Int)))} {cs:List Int} {n sg:Int} {R A:ba} {H B C x:aW} {out:ba} (ho:out.length≤100000) (hx:x.length≤1000):∀ (c k fuel:Nat),k+c=out.length→c<fuel →
  fa rec N fuel cs n R H A B C sg out x out (out.length:Int) (k:Int)=some (if x∈out.drop k then .inl out else .inr (out.length:Int)):=by
 intro c
 induction c with
 | zero =>
  intro k fuel hk hf
  obtain ⟨fuel,rfl⟩:∃ k',fuel=k'+1:=⟨fuel-1,by omega⟩
  rw [fa,decide_eq_false (by omega),cond_false,List.drop_eq_nil_of_le (by omega),if_neg (by simp),show (k:Int)=(out.length:Int) by omega]
 | succ c ih =>
  intro k fuel hk hf
  obtain ⟨fuel,rfl⟩:∃ k',fuel=k'+1:=⟨fuel-1,by omega⟩
  have hk':k<out.length:=by omega
  rw [fa,decide_eq_true (by omega),cond_true,List.drop_eq_getElem_cons hk',aV hk',bs,vK hN hx,bs]
  by_cases e:x=out[k]
  ·rw [decide_eq_true e,cond_true,if_pos (List.mem_cons.2 (.inl e))]
  ·rw [decide_eq_false e,cond_false,bE (by omega) (by omega),bs]
   have:=ih (k+1) fuel (by omega) (by omega)
   rw [show ((k:Int)+1)=((k+1:Nat):Int) by omega,this]
   simp only [List.mem_cons,e,false_or]
def gS (N n:Nat) (atoms:List aX) (out:ba) (l:List Int):Option ba :=
 (bm N (df (aM n atoms) n atoms.length l) (cW n l)).bind fun r =>
 bif r.2 then (dA N (aM n atoms) (aA n) (aA atoms.length) r.1 1).bind fun b =>
  bif b then (bif decide (r.1∈out) then some out else apd 24 out [r.1]) else some out
 else some out
def iM (N n:Nat) (atoms:List aX):List (List Int)→ba→Option ba
 | [],out=>some out
 | l :: ls,out=>(gS N n atoms out l).bind (iM N n atoms ls)
theorem pC {n:Nat} {atoms:List aX}:∀ (a b:List (List Int)) (out:ba),iM N n atoms (a++b) out=(iM N n atoms a out).bind (iM N n atoms b)
 | [],_,_=>rfl
 | l :: a,b,out=>by
  show (gS N n atoms out l).bind (iM N n atoms (a++b))=((gS N n atoms out l).bind (iM N n atoms a)).bind (iM N n atoms b)
  cases gS N n atoms out l with
  | none=>rfl
  | some o=>exact pC a b o
def Ok (na c:Nat) (out:ba):Prop:=out.length≤c∧∀ y∈out,y.length=na
theorem rj (hN:1073741824≤N) {n:Nat} {atoms:List aX} (a4:atoms.length≤4) {l:List Int} (hl:l.length=atoms.length) {out o:ba} {c:Nat} (ho:Ok atoms.length c out) (h:gS N n atoms out l=some o):Ok atoms.length (c+1) o:=by
 unfold gS at h
 obtain ⟨r,hr,h⟩:=ob h
 have same:some out=some o→Ok atoms.length (c+1) o:=fun h=>by cases h;exact ⟨by have:=ho.1;omega,ho.2⟩
 rcases oif h with ⟨h2,h⟩ | ⟨_,h⟩
 rotate_left
 ·exact same h
 obtain ⟨b,_,h⟩:=ob h
 rcases oif h with ⟨_,h⟩ | ⟨_,h⟩
 rotate_left
 ·exact same h
 rcases oif h with ⟨_,h⟩ | ⟨_,h⟩
 ·exact same h
 have hbl:(cW n l).length=atoms.length:=by unfold cW gl;rw [List.length_map,List.length_map,hl]
 obtain ⟨x,ok,es,hsol⟩:=jE hN (n:=atoms.length) (by omega) (lj (n:=n) (atoms:=atoms) hl) hbl
 rw [hr] at es
 obtain rfl:=Option.some.inj es
 rw [pY h]
 refine ⟨by rw [List.length_append,List.length_singleton];have:=ho.1;omega,fun y hy=>?_⟩
 rcases List.mem_append.1 hy with h | h
 ·exact ho.2 y h
 ·rw [List.mem_singleton.1 h];exact (hsol h2).1
theorem us (hN:1073741824≤N) {n:Nat} {atoms:List aX} (n5:n≤5) (a4:atoms.length≤4) {L:List (List Int)} (hL:L.length≤10000) (hm:∀ l∈L,l.length=atoms.length∧∀ v∈l,0≤v∧v<(n+atoms.length:Nat)):∀ (c i fuel:Nat) (out:ba) (s:ba × Int),i+c=L.length→Ok atoms.length i out →
  bl N fuel 1 (aM n atoms) (aA n) (aA atoms.length) out (atoms.length:Int) (n:Int) L (i:Int)=some s→iM N n atoms (L.drop i) out=some s.1:=by
 intro c
 induction c with
 | zero =>
  intro i fuel out s hi ho h
  cases fuel with
  | zero=>cases h
  | succ fuel =>
   rw [bl,decide_eq_false (by omega),cond_false] at h
   cases h
   rw [List.drop_eq_nil_of_le (by omega)];rfl
 | succ c ih =>
  intro i fuel out s hi ho h
  cases fuel with
  | zero=>cases h
  | succ fuel =>
   have hiL:i<L.length:=by omega
   obtain ⟨m1,m2⟩:=hm _ (List.getElem_mem hiL)
   rw [bl,decide_eq_true (by omega),cond_true,ua hN a4 n5 cg hiL m1 m2,bs,lpB] at h
   dsimp only at h
   rw [List.drop_eq_getElem_cons hiL]
   have go:∀ o,gS N n atoms out L[i]=some o→bl N fuel 1 (aM n atoms) (aA n) (aA atoms.length) o (atoms.length:Int) (n:Int) L ((i+1:Nat):Int)=some s→(gS N n atoms out L[i]).bind (iM N n atoms (L.drop (i+1)))=some s.1:=fun o e h=>by
    have ok:=rj hN a4 m1 ho e
    rw [e,bs]
    exact ih (i+1) fuel o s (by omega) ok h
   show (gS N n atoms out L[i]).bind (iM N n atoms (L.drop (i+1)))=some s.1
   obtain ⟨r,hr,h⟩:=ob h
   rcases oif h with ⟨h2,h⟩ | ⟨h2,h⟩
   ·obtain ⟨b,hb,h⟩:=ob h
    rcases oif h with ⟨h3,h⟩ | ⟨h3,h⟩
    ·have hol:=ho.1
     have hd:=zm hN (sg:=1) (n:=(atoms.length:Int)) (m:=(n:Int)) (i:=(i:Int)) (A:=aM n atoms) (B:=aA n) (C:=aA atoms.length) (x:=r.1) (L:=L) (out:=out) (by omega) (fun y hy=>by rw [ho.2 y hy];omega) out.length 0 N false (by omega) (by omega)
     rw [show ((0:Nat):Int)=0 from rfl,Bool.false_or,List.drop_zero] at hd
     rw [hd,bs,lpB] at h
     dsimp only at h
     rcases oif h with ⟨h4,h⟩ | ⟨h4,h⟩
     ·rw [bE (by omega) (by omega),bs] at h
      exact go out (by unfold gS;rw [hr,bs,h2,cond_true,hb,bs,h3,cond_true,h4,cond_true]) h
     ·obtain ⟨o,eo,h⟩:=ob h
      rw [bE (by omega) (by omega),bs] at h
      exact go o (by unfold gS;rw [hr,bs,h2,cond_true,hb,bs,h3,cond_true,h4,cond_false,eo]) h
    ·rw [bE (by omega) (by omega),bs] at h
     exact go out (by unfold gS;rw [hr,bs,h2,cond_true,hb,bs,h3,cond_false]) h
   ·rw [bE (by omega) (by omega),bs] at h
    exact go out (by unfold gS;rw [hr,bs,h2,cond_false]) h
end
def iv (n:Nat) (atoms:List aX):ba:=aM n atoms++(List.range' 0 atoms.length).map (dy atoms.length)
def jV (n:Nat) (atoms:List aX):aW:=aA n++List.replicate atoms.length (0,1)
section
variable {N:Nat}
theorem wu {m i j:Nat} (h:j<(dy m i).length):(dy m i)[j]=bif ((i:Int) == (j:Int)) then (1,1) else (0,1):=by
 unfold dy at h ⊢
 rw [List.getElem_set]
 by_cases e:i=j
 ·subst e;simp
 ·rw [if_neg e,show (((i:Nat):Int) == (j:Int))=false by simpa using fun h=>e (by omega),cond_false];simp
theorem wl (hN:1073741824≤N) {m i:Nat} (hm:m≤1000) {A R:ba} {B C H:aW} {sg:Int} :
  dI N N A B C sg (m:Int) R H (i:Int) [] 0=some (dy m i,(m:Int)):=by
 have ul:=j2 m i
 have h:=gW (fun q (o:aW) v=>dI N q A B C sg (m:Int) R H (i:Int) o v) m (fun v=>(dy m i).take v) (dy m i,(m:Int))
  (fun q v h=>by
   show dI N (q+1) A B C sg (m:Int) R H (i:Int) ((dy m i).take v) (v:Int)=dI N q A B C sg (m:Int) R H (i:Int) ((dy m i).take (v+1)) ((v+1:Nat):Int)
   have hv:v<(dy m i).length:=by omega
   rw [dI,dlt h,cond_true,List.take_succ_eq_append_getElem hv,wu hv]
   unfold jS
   cases ((i:Int) == (v:Int)) with
   | true=>rw [cond_true,bs,bz (by decide) (by rw [List.length_take,List.length_singleton];omega),bs,ad1 (by omega),bs,cond_true]
   | false=>rw [cond_false,bs,bz (by decide) (by rw [List.length_take,List.length_singleton];omega),bs,ad1 (by omega),bs,cond_false])
  (fun q=>by
   show dI N (q+1) A B C sg (m:Int) R H (i:Int) ((dy m i).take m) (m:Int)=_
   rw [dI,dge (by omega),cond_false,List.take_of_length_le (by omega)]) N 0 (by omega) (by omega)
 exact h
theorem vR (hN:1073741824≤N) {n:Nat} (n5:n≤5) {atoms:List aX} (a4:atoms.length≤4) {C:aW} {sg:Int} :
  dH N N (aM n atoms) (aA n) C sg (atoms.length:Int) (aM n atoms) (aA n) 0=some (iv n atoms,jV n atoms,(atoms.length:Int)):=by
 have l0:=cg (n:=n) (atoms:=atoms)
 have l1:(aA n).length=n:=by unfold aA;simp
 have h:=gW (fun q (o:ba × aW) v=>dH N q (aM n atoms) (aA n) C sg (atoms.length:Int) o.1 o.2 v) atoms.length (fun v=>(aM n atoms++(List.range' 0 v).map (dy atoms.length),aA n++List.replicate v (0,1))) (iv n atoms,jV n atoms,(atoms.length:Int))
  (fun q v h=>by
   show dH N (q+1) (aM n atoms) (aA n) C sg (atoms.length:Int) (aM n atoms++(List.range' 0 v).map (dy atoms.length)) (aA n++List.replicate v (0,1)) (v:Int)=dH N q (aM n atoms) (aA n) C sg (atoms.length:Int) (aM n atoms++(List.range' 0 (v+1)).map (dy atoms.length)) (aA n++List.replicate (v+1) (0,1)) ((v+1:Nat):Int)
   rw [dH,dlt h,cond_true,wl hN (by omega),bs,lpB]
   dsimp only
   rw [bz (by decide) (by simp;omega),bs,bz (by decide) (by simp;omega),bs,ad1 (by omega),bs,List.range'_1_concat,List.map_append,← List.append_assoc,List.replicate_succ',← List.append_assoc,Nat.zero_add]
   rfl)
  (fun q=>by
   show dH N (q+1) (aM n atoms) (aA n) C sg (atoms.length:Int) (aM n atoms++(List.range' 0 atoms.length).map (dy atoms.length)) (aA n++List.replicate atoms.length (0,1)) (atoms.length:Int)=_
   rw [dH,dge (by omega),cond_false];rfl) N 0 (by omega) (by omega)
 have e:aM n atoms++(List.range' 0 0).map (dy atoms.length)=aM n atoms:=by simp
 have e2:aA n++List.replicate 0 ((0:Int),(1:Int))=aA n:=by simp
 dsimp only at h
 rw [e,e2] at h
 exact h
theorem mJ (n:Nat) (atoms:List aX):(iv n atoms).length=n+atoms.length:=by unfold iv;rw [List.length_append,cg,List.length_map,List.length_range']
theorem uX {n:Nat} {atoms:List aX} {j:Nat} (h:j<n+atoms.length):ix (iv n atoms) (j:Int)=some (fm (aM n atoms) n atoms.length j):=by
 rw [aV (by rw [mJ];exact h)]
 congr 1
 unfold fm iv
 by_cases hj:j<n
 ·have hc:j<(aM n atoms).length:=by rw [cg];exact hj
  rw [if_pos hj,List.getElem_append_left hc]
  unfold aZ;simp [hc]
 ·rw [if_neg hj,List.getElem_append_right (by rw [cg];omega)]
  simp [cg]
theorem wm {n:Nat} {atoms:List aX} {j:Nat} (h:j<n+atoms.length):ix (jV n atoms) (j:Int)=some (f6 n j):=by
 have l1:(aA n).length=n:=by unfold aA;simp
 unfold jV
 rw [aV (by rw [List.length_append,l1,List.length_replicate];exact h)]
 congr 1
 unfold f6
 by_cases hj:j<n
 ·rw [if_pos hj,List.getElem_append_left (by omega)]
  unfold aA;simp
 ·rw [if_neg hj,List.getElem_append_right (by omega)]
  simp
theorem vz (hN:1073741824≤N) {rec:Int→(List Int)→Int→(List (List (Int × Int)))→(List (Int × Int))→(List (List (Int × Int)))→(List (Int × Int))→(List (Int × Int))→Int→(List (List (Int × Int)))→Option (List (List (Int × Int)))} {n:Nat} {atoms:List aX} (a4:atoms.length≤4) {l:List Int} (hl:l.length=atoms.length) (hb:∀ v∈l,0≤v∧v<(n+atoms.length:Nat)) {sg w:Int} {A out:ba} {B C:aW} :
  de rec N N l w (iv n atoms) (jV n atoms) A B C sg out [] [] l (l.length:Int) 0=some (df (aM n atoms) n atoms.length l,cW n l,(l.length:Int)):=by
 have h:=gW (fun q (o:ba × aW) k=>de rec N q l w (iv n atoms) (jV n atoms) A B C sg out o.1 o.2 l (l.length:Int) k) l.length (fun k=>(df (aM n atoms) n atoms.length (l.take k),cW n (l.take k))) (df (aM n atoms) n atoms.length l,cW n l,(l.length:Int))
  (fun q k h=>by
   show de rec N (q+1) l w (iv n atoms) (jV n atoms) A B C sg out (df (aM n atoms) n atoms.length (l.take k)) (cW n (l.take k)) l (l.length:Int) (k:Int)=de rec N q l w (iv n atoms) (jV n atoms) A B C sg out (df (aM n atoms) n atoms.length (l.take (k+1))) (cW n (l.take (k+1))) l (l.length:Int) ((k+1:Nat):Int)
   have hv:=hb _ (List.getElem_mem h)
   have l1:(df (aM n atoms) n atoms.length (l.take k)).length≤1000:=by unfold df gl;rw [List.length_map,List.length_map,List.length_take];omega
   have l2:(cW n (l.take k)).length≤1000:=by unfold cW gl;rw [List.length_map,List.length_map,List.length_take];omega
   have eA:df (aM n atoms) n atoms.length (l.take (k+1))=df (aM n atoms) n atoms.length (l.take k)++[fm (aM n atoms) n atoms.length l[k].toNat]:=by
    unfold df gl
    rw [List.take_succ_eq_append_getElem h,List.map_append,List.map_append];rfl
   have eB:cW n (l.take (k+1))=cW n (l.take k)++[f6 n l[k].toNat]:=by
    unfold cW gl
    rw [List.take_succ_eq_append_getElem h,List.map_append,List.map_append];rfl
   obtain ⟨j,hj⟩:∃ j:Nat,l[k]=(j:Int):=⟨l[k].toNat,by omega⟩
   rw [hj] at hv
   rw [de,dlt h,cond_true,aV h,bs,eA,eB,hj,Int.toNat_natCast,uX (by omega),bs,bz (by decide) (by rw [List.length_singleton];omega),bs,wm (by omega),bs,bz (by decide) (by rw [List.length_singleton];omega),bs,ad1 (by omega),bs])
  (fun q=>by
   show de rec N (q+1) l w (iv n atoms) (jV n atoms) A B C sg out (df (aM n atoms) n atoms.length (l.take l.length)) (cW n (l.take l.length)) l (l.length:Int) (l.length:Int)=_
   rw [de,dge (by omega),cond_false,List.take_length]) N 0 (by omega) (by omega)
 exact h
theorem uP (hN:1073741824≤N) {m i:Nat} (j:Int) (r:cL) (h:ix (dy m i) j=some r):VR N r:=by
 have:=lv h
 unfold dy at this
 rcases List.mem_or_eq_of_mem_set this with h | rfl
 ·rw [List.eq_of_mem_replicate h];exact gB hN (by decide) (by decide)
 ·exact gB hN (by decide) (by decide)
theorem wd (hN:1073741824≤N) {n:Nat} {atoms:List aX} {l:List Int} (i:Int) (R:aW) (h:ix (df (aM n atoms) n atoms.length l) i=some R):R.length=atoms.length∧∀ j r,ix R j=some r→VR N r:=by
 have:=lv h
 unfold df at this
 obtain ⟨v,_,rfl⟩:=List.mem_map.1 this
 unfold fm
 by_cases hv:v<n
 ·rw [if_pos hv]
  exact ru hN (v:Int) _ (ixM (by rw [cg];exact hv))
 ·rw [if_neg hv]
  exact ⟨j2 _ _,fun j r hr=>uP hN j r hr⟩
theorem vQ (hN:1073741824≤N) {n:Nat} {l:List Int} (i:Int) (r:cL) (h:ix (cW n l) i=some r):VR N r:=by
 have:=lv h
 unfold cW at this
 obtain ⟨v,_,rfl⟩:=List.mem_map.1 this
 unfold f6
 split
 ·exact gB hN (by decide) (by decide)
 ·exact gB hN (by decide) (by decide)
theorem vZ (hN:1073741824≤N) {n:Nat} {atoms:List aX} (n1:1≤n) (n5:n≤5) (a1:1≤atoms.length) (a4:atoms.length≤4) {l:List Int} (hl:l.length=atoms.length) (hb:∀ v∈l,0≤v∧v<(n+atoms.length:Nat)) {f:Int} {out o:ba} {c:Nat} (ho:Ok atoms.length c out) (hc:c≤100000) (h:gS N n atoms out l=some o) :
  ce (N+1) f l (atoms.length:Int) (iv n atoms) (jV n atoms) (aM n atoms) (aA n) (aA atoms.length) 1 out=some o:=by
 have hol:=ho.1
 unfold gS at h
 obtain ⟨r,hr,h⟩:=ob h
 have hbl:(cW n l).length=atoms.length:=by unfold cW gl;rw [List.length_map,List.length_map,hl]
 have hal:(df (aM n atoms) n atoms.length l).length=atoms.length:=by unfold df gl;rw [List.length_map,List.length_map,hl]
 have hs:=tC hN (A:=df (aM n atoms) n atoms.length l) (b:=cW n l) (by omega) (by omega) (fun i R hR=>by
  rw [hbl];exact wd hN i R hR) (fun i r hr=>vQ hN i r hr) hr
 rw [ce,decide_eq_false (by omega),cond_false,vz hN a4 hl hb,bs,lpB]
 dsimp only
 rw [hs,bs]
 rcases oif h with ⟨h2,h⟩ | ⟨h2,h⟩
 ·rw [h2,cond_true]
  obtain ⟨x,ok,es,hsol⟩:=jE hN (n:=atoms.length) (by omega) (lj (n:=n) (atoms:=atoms) hl) hbl
  rw [hr] at es
  obtain rfl:=Option.some.inj es
  obtain ⟨xl,xv,_⟩:=hsol h2
  have xl':x.length=atoms.length:=xl
  rw [tm hN (sK hN n1 n5 a1 a4) (nY hN n1 n5 a1 a4) (by show x.length≤1000;omega) (fun i q hq=>by
   obtain ⟨k,rfl,hk,rfl⟩:=eS hq
   have hk':k<x.length:=hk
   have:=xv k (by omega)
   unfold ax at this
   simpa [hk'] using this)]
  obtain ⟨b,hb',h⟩:=ob h
  rw [hb',bs]
  rcases oif h with ⟨h3,h⟩ | ⟨h3,h⟩
  ·rw [h3,cond_true]
   have hd:=zn hN (rec:=ce N) (cs:=l) (n:=(atoms.length:Int)) (sg:=1) (R:=iv n atoms) (H:=jV n atoms) (A:=aM n atoms) (B:=aA n) (C:=aA atoms.length) (x:=x) (out:=out) (by omega) (by omega) out.length 0 N (by omega) (by omega)
   rw [show ((0:Nat):Int)=0 from rfl,List.drop_zero] at hd
   rw [hd,bs]
   rcases oif h with ⟨h4,h⟩ | ⟨h4,h⟩
   ·rw [if_pos (of_decide_eq_true h4)]
    exact h
   ·rw [if_neg (of_decide_eq_false h4)]
    simp only [lpS]
    rw [h,bs]
  ·rw [h3,cond_false];exact h
 ·rw [h2,cond_false];exact h
theorem yx {xs:List Int} (h:xs.length≤1048576):iC N xs=some xs:=by
 unfold iC
 rw [bz (by decide) (by simpa using Nat.le_trans h (by decide)),bs,List.nil_append]
theorem un {r i t:Nat} (h:t≤i):cO (r+1) i t=[]:=by
 show (List.range' i (t-r-i)).flatMap _=[]
 rw [show t-r-i=0 by omega];rfl
theorem nP {r i t:Nat} (h:i<t):cO (r+1) i t=(cO r (i+1) t).map (fun l=>(i:Int) :: l)++cO (r+1) (i+1) t:=by
 show (List.range' i (t-r-i)).flatMap (fun j:Nat=>(cO r (j+1) t).map fun l=>(j:Int) :: l)=_
 by_cases hr:i+r<t
 ·obtain ⟨k,hk⟩:∃ k,t-r-i=k+1:=⟨t-r-i-1,by omega⟩
  rw [hk,List.range'_succ,List.flatMap_cons]
  congr 1
  show _=(List.range' (i+1) (t-r-(i+1))).flatMap _
  rw [show t-r-(i+1)=k by omega]
 ·rw [show t-r-i=0 by omega]
  have e:cO r (i+1) t=[]:=by
   cases r with
   | zero=>omega
   | succ r =>
    show (List.range' (i+1) (t-r-(i+1))).flatMap _=[]
    rw [show t-r-(i+1)=0 by omega];rfl
  rw [e]
  show []=[]++(List.range' (i+1) (t-r-(i+1))).flatMap _
  rw [show t-r-(i+1)=0 by omega];rfl
theorem rz (hN:1073741824≤N) {n:Nat} {atoms:List aX} (a4:atoms.length≤4):∀ (L:List (List Int)) (out o:ba) (c:Nat),(∀ l∈L,l.length=atoms.length)→Ok atoms.length c out→iM N n atoms L out=some o→Ok atoms.length (c+L.length) o
 | [],out,o,c,_,ho,h=>by cases h;exact ho
 | l :: L,out,o,c,hl,ho,h=>by
  obtain ⟨o1,h1,h⟩:=ob (show (gS N n atoms out l).bind (iM N n atoms L)=some o from h)
  have:=rz hN a4 L o1 o (c+1) (fun x hx=>hl x (List.mem_cons_of_mem _ hx)) (rj hN a4 (hl l (by simp)) ho h1) h
  rw [List.length_cons,show c+(L.length+1)=c+1+L.length by omega]
  exact this
theorem sH (hN:1073741824≤N) {n:Nat} {atoms:List aX} (n1:1≤n) (n5:n≤5) (a1:1≤atoms.length) (a4:atoms.length≤4):∀ (r f:Nat) (cs:List Int) (out o:ba) (c:Nat),cs.length+r=atoms.length→f≤n+atoms.length→(∀ v∈cs,0≤v∧v<(n+atoms.length:Nat))→Ok atoms.length c out→c+(cO r f (n+atoms.length)).length≤100000 →
  iM N n atoms ((cO r f (n+atoms.length)).map fun l=>cs++l) out=some o →
  ce (N+1+r) (f:Int) cs (atoms.length:Int) (iv n atoms) (jV n atoms) (aM n atoms) (aA n) (aA atoms.length) 1 out=some o:=by
 intro r
 induction r with
 | zero =>
  intro f cs out o c hcl hf hcs ho hc h
  obtain ⟨o1,h1,h⟩:=ob (show (gS N n atoms out (cs++[])).bind (fun o=>some o)=some o from h)
  cases h
  rw [List.append_nil] at h1
  exact vZ hN n1 n5 a1 a4 (by omega) hcs ho (by omega) h1
 | succ r ih =>
  intro f cs out o c hcl hf hcs ho hc h
  rw [show N+1+(r+1)=(N+1+r)+1 by omega,ce,decide_eq_true (by omega),cond_true]
  have key:∀ (d i fuel:Nat) (out o:ba) (c:Nat),i+d=n+atoms.length→d<fuel→Ok atoms.length c out→c+(cO (r+1) i (n+atoms.length)).length≤100000→iM N n atoms ((cO (r+1) i (n+atoms.length)).map fun l=>cs++l) out=some o →
    fd (ce (N+1+r)) (N+1+r) fuel cs (atoms.length:Int) (iv n atoms) (jV n atoms) (aM n atoms) (aA n) (aA atoms.length) 1 out (i:Int)=some (o,((n+atoms.length:Nat):Int)):=by
   intro d
   induction d with
   | zero =>
    intro i fuel out o c hi hf ho hc h
    obtain ⟨fuel,rfl⟩:∃ k',fuel=k'+1:=⟨fuel-1,by omega⟩
    rw [un (by omega)] at h
    cases h
    rw [fd,mJ,decide_eq_false (by omega),cond_false,show (i:Int)=((n+atoms.length:Nat):Int) by omega]
   | succ d ihd =>
    intro i fuel out o c hi hf ho hc h
    obtain ⟨fuel,rfl⟩:∃ k',fuel=k'+1:=⟨fuel-1,by omega⟩
    rw [nP (by omega),List.map_append,pC,List.map_map] at h
    rw [nP (by omega),List.length_append,List.length_map] at hc
    obtain ⟨o1,h1,h⟩:=ob h
    have e:((fun l=>cs++l) ∘ fun l=>(i:Int) :: l)=fun l=>(cs++[(i:Int)])++l:=by
     funext l;simp
    rw [e] at h1
    have ho1:=rz hN a4 _ out o1 c (fun l hl=>by
     obtain ⟨l',hl',rfl⟩:=List.mem_map.1 hl
     rw [List.length_append,List.length_append,List.length_singleton,(iW hl').1];omega) ho h1
    rw [List.length_map] at ho1
    have g:=ih (i+1) (cs++[(i:Int)]) out o1 c (by rw [List.length_append,List.length_singleton];omega) (by omega) (fun v hv=>by
     rcases List.mem_append.1 hv with h | h
     ·exact hcs v h
     ·rw [List.mem_singleton.1 h];omega) ho (by omega) h1
    rw [fd,mJ,decide_eq_true (by omega),cond_true,ad1 (by omega),bs,yx (by omega),bs,bz (by decide) (by rw [List.length_singleton];omega),bs,g,bs,bs]
    exact ihd (i+1) fuel o1 o _ (by omega) (by omega) ho1 (by omega) h
  rw [key (n+atoms.length-f) f (N+1+r) out o c (by omega) (by omega) ho hc h,bs,lpB]
theorem yB (hN:1073741824≤N) {n:Nat} {atoms:List aX} (n1:1≤n) (n5:n≤5) (a1:1≤atoms.length) (a4:atoms.length≤4) {P:ba} (h:bV N (aM n atoms) (aA n) (aA atoms.length)=some P) :
  ∃ z,bl N N 1 (aM n atoms) (aA n) (aA atoms.length) [] (atoms.length:Int) (n:Int) (cO atoms.length 0 (n+atoms.length)) 0=some (P,z):=by
 have l1:(aA n).length=n:=by unfold aA;simp
 have l2:(aA atoms.length).length=atoms.length:=by unfold aA;simp
 have ep:dD N 0 ((n:Int)+(atoms.length:Int)) (atoms.length:Int)=some (cO atoms.length 0 (n+atoms.length)):=by
  rw [show ((n:Int)+(atoms.length:Int))=((n+atoms.length:Nat):Int) by omega]
  exact lY atoms.length N 0 (n+atoms.length) a4 (by omega) (by omega) (by omega)
 unfold bV gt at h
 rw [nY hN n1 n5 a1 a4,bs,cond_true,l1,l2,bE (by omega) (by omega),bs,ep,bs] at h
 obtain ⟨q,g1,h2⟩:=ob h
 obtain ⟨s,g2,h3⟩:=ob g1
 obtain rfl:q=P:=Option.some.inj h2
 obtain ⟨s1,s2⟩:=s
 obtain rfl:s1=q:=Option.some.inj h3
 exact ⟨s2,g2⟩
theorem yz (hN:1073741824≤N) {n:Nat} {atoms:List aX} (n1:1≤n) (n5:n≤5) (a1:1≤atoms.length) (a4:atoms.length≤4) {P:ba} {z:Int} (h:bl N N 1 (aM n atoms) (aA n) (aA atoms.length) [] (atoms.length:Int) (n:Int) (cO atoms.length 0 (n+atoms.length)) 0=some (P,z)) :
  bV N (aM n atoms) (aA n) (aA atoms.length)=some P:=by
 have l1:(aA n).length=n:=by unfold aA;simp
 have l2:(aA atoms.length).length=atoms.length:=by unfold aA;simp
 have ep:dD N 0 ((n:Int)+(atoms.length:Int)) (atoms.length:Int)=some (cO atoms.length 0 (n+atoms.length)):=by
  rw [show ((n:Int)+(atoms.length:Int))=((n+atoms.length:Nat):Int) by omega]
  exact lY atoms.length N 0 (n+atoms.length) a4 (by omega) (by omega) (by omega)
 unfold bV gt
 rw [nY hN n1 n5 a1 a4,bs,cond_true,l1,l2,bE (by omega) (by omega),bs,ep,bs,h,bs,lpB,bs]
theorem wt (hM:1073742848≤N) {n:Nat} {atoms:List aX} (n1:1≤n) (n5:n≤5) (a1:1≤atoms.length) (a4:atoms.length≤4) :
  ∃ P,bV N (aM n atoms) (aA n) (aA atoms.length)=some P∧iA N (aM n atoms) (aA n) (aA atoms.length) 1=some P:=by
 obtain ⟨K,rfl⟩:∃ K,N=K+1+atoms.length:=⟨N-1-atoms.length,by omega⟩
 have hK:1073741824≤K:=by omega
 obtain ⟨P,hP,_⟩:=tT hK (atoms:=atoms) n1 n5 a1 a4
 obtain ⟨z,hz⟩:=yB hK n1 n5 a1 a4 hP
 have hPl:=Nat.le_trans (kT atoms.length 0 (n+atoms.length)) (r9 (by omega) a4)
 have hf:=us hK n5 a4 (L:=cO atoms.length 0 (n+atoms.length)) (by omega) (fun l hl=>by
  obtain ⟨m1,m2⟩:=iW hl
  exact ⟨m1,fun v hv=>by have:=m2 v hv;omega⟩) _ 0 K [] (P,z) (Nat.zero_add _) ⟨Nat.le_refl _,fun _ h=>by cases h⟩ hz
 have hle:=lH (N:=K) (N':=K+1+atoms.length) (by omega) K (K+1+atoms.length) (by omega) _ _ _ _ _ _ _ _ _ _ hz
 refine ⟨P,yz (by omega) n1 n5 a1 a4 hle,?_⟩
 have l1:(aA n).length=n:=by unfold aA;simp
 have l2:(aA atoms.length).length=atoms.length:=by unfold aA;simp
 have hc:=sH hK n1 n5 a1 a4 atoms.length 0 [] [] P 0 (by simp) (by omega) (fun _ h=>by cases h) ⟨Nat.le_refl _,fun _ h=>by cases h⟩ (by omega) (by
  have e:(fun l:List Int=>([]:List Int)++l)=id:=by funext l;rfl
  rw [e,List.map_id];exact hf)
 rw [show ((0:Nat):Int)=0 from rfl] at hc
 unfold iA
 rw [bz (by decide) (by rw [cg];simp;omega),bs,qn (by omega),bs,l2,List.nil_append,vR (by omega) n5 a4,bs,lpB]
 dsimp only
 rw [hc,bs]
theorem za (hM:1073742848≤N) {n:Nat} {atoms:List aX} (n1:1≤n) (n5:n≤5) (a1:1≤atoms.length) (a4:atoms.length≤4):e5 N (aM n atoms) (aA n) (aA atoms.length)=bV N (aM n atoms) (aA n) (aA atoms.length):=by
 obtain ⟨P,h1,h2⟩:=wt hM n1 n5 a1 a4
 unfold e5
 rw [sK (by omega) n1 n5 a1 a4,bs,cond_true,h2,h1,bs]
end
section
variable {N:Nat}
theorem yS {n:Nat} {atoms:List aX} {out:List Int} (hq:fM (n:Int) atoms out=true):∀ v,v<n→∃ j,j<atoms.length∧((v:Nat):Int)∈(g6 atoms j).2:=fun v hv=>by
 unfold fM at hq
 simp only [Bool.and_eq_true] at hq
 have h:=hq.2
 unfold jr at h
 rw [List.all_eq_true] at h
 have h:=h v (by rw [List.mem_range'_1];simp;exact hv)
 rw [List.any_eq_true] at h
 obtain ⟨a,ha,h⟩:=h
 obtain ⟨j,hj,rfl⟩:=List.getElem_of_mem ha
 exact ⟨j,hj,by rw [pz hj];exact of_decide_eq_true h⟩
theorem zb (hN:1073741824≤N) {n:Nat} {atoms:List aX} {out:List Int} (ha:eT atoms) (ho:okI out) (hq:fM (n:Int) atoms out=true):gd N (n:Int) atoms out=some (iS n):=by
 obtain ⟨_,n5,_,a4⟩:=ka hq
 have h:=gW (fun k (o:List Int) i=>cF N k (n:Int) atoms out o i) n (fun i=>iS i) (iS n,(n:Int))
  (fun k i h=>by
   show cF N (k+1) (n:Int) atoms out (iS i) (i:Int)=cF N k (n:Int) atoms out (iS (i+1)) ((i+1:Nat):Int)
   rw [cF,dlt h,cond_true,bz (by decide) (by rw [nl,List.length_singleton];omega),bs,ad1 (by omega),bs]
   unfold iS
   rw [List.range'_1_concat,List.map_append,Nat.zero_add];rfl)
  (fun k=>by
   show cF N (k+1) (n:Int) atoms out (iS n) (n:Int)=_
   rw [cF,dge (by omega),cond_false]) N 0 (by omega) (by omega)
 have h':cF N N (n:Int) atoms out [] 0=some (iS n,(n:Int)):=h
 unfold gd
 rw [gm hN ha ho,bs,hq,cond_true,h',bs,lpB]
theorem wc (hN:1073741824≤N) {n v:Int} {atoms:List aX} {out l:List Int} {a b:Int} {b1 b4:ba} {b2 b3 b5 b6:aW} (ha:eT atoms) (h4:atoms.length≤1000) :
  dP N N n atoms out b1 b2 b3 b4 b5 b6 v [] l a b atoms (atoms.length:Int) 0=some (dF atoms v,(atoms.length:Int)) :=
 gW (fun k (o:aW) i=>dP N k n atoms out b1 b2 b3 b4 b5 b6 v o l a b atoms (atoms.length:Int) i) atoms.length (fun i=>dF (atoms.take i) v) (dF atoms v,(atoms.length:Int))
  (fun k i h=>by
   show dP N (k+1) n atoms out b1 b2 b3 b4 b5 b6 v (dF (atoms.take i) v) l a b atoms (atoms.length:Int) (i:Int)=dP N k n atoms out b1 b2 b3 b4 b5 b6 v (dF (atoms.take (i+1)) v) l a b atoms (atoms.length:Int) ((i+1:Nat):Int)
   have hl:(dF (atoms.take i) v).length≤1000:=by unfold dF;rw [List.length_map,List.length_take];omega
   have e:dF (atoms.take (i+1)) v=dF (atoms.take i) v++[ip atoms[i] v]:=by
    unfold dF
    rw [List.take_succ_eq_append_getElem h,List.map_append];rfl
   rw [dP,dlt h,cond_true,aV h,bs,kx hN (qh ha h),bs,e]
   unfold ip jS
   cases decide (v∈atoms[i].2) with
   | true=>rw [cond_true,cond_true,bs,bz (by decide) (by rw [List.length_singleton];omega),bs,ad1 (by omega),bs]
   | false=>rw [cond_false,cond_false,bs,bz (by decide) (by rw [List.length_singleton];omega),bs,ad1 (by omega),bs])
  (fun k=>by
   show dP N (k+1) n atoms out b1 b2 b3 b4 b5 b6 v (dF (atoms.take atoms.length) v) l a b atoms (atoms.length:Int) (atoms.length:Int)=_
   rw [dP,dge (by omega),cond_false,List.take_length]) N 0 (by omega) (by omega)
theorem wC (hN:1073741824≤N) {n:Nat} (hn:n≤1000) {m:Int} {atoms:List aX} {out:List Int} {b1:ba} {b2 b3 b6:aW} (ha:eT atoms) (h4:atoms.length≤1000) :
  dQ N N m atoms out b1 b2 b3 [] [] b6 (iS n) (n:Int) 0=some (aM n atoms,aA n,(n:Int)) :=
 gW (fun k (o:ba × aW) i=>dQ N k m atoms out b1 b2 b3 o.1 o.2 b6 (iS n) (n:Int) i) n (fun i=>(aM i atoms,aA i)) (aM n atoms,aA n,(n:Int))
  (fun k i h=>by
   show dQ N (k+1) m atoms out b1 b2 b3 (aM i atoms) (aA i) b6 (iS n) (n:Int) (i:Int)=dQ N k m atoms out b1 b2 b3 (aM (i+1) atoms) (aA (i+1)) b6 (iS n) (n:Int) ((i+1:Nat):Int)
   have h1:(aM i atoms).length=i:=by unfold aM;simp
   have h2:(aA i).length=i:=by unfold aA;simp
   have ho:ix (iS n) (i:Int)=some (i:Int):=by
    rw [aV (by rw [nl];exact h)];unfold iS;simp
   rw [dQ,dlt h,cond_true,ho,bs,wc hN ha h4,bs,lpB]
   dsimp only
   rw [bz (by decide) (by rw [List.length_singleton];omega),bs,bz (by decide) (by rw [List.length_singleton];omega),bs,ad1 (by omega),bs,pO,kj])
  (fun k=>by
   show dQ N (k+1) m atoms out b1 b2 b3 (aM n atoms) (aA n) b6 (iS n) (n:Int) (n:Int)=_
   rw [dQ,dge (by omega),cond_false]) N 0 (by omega) (by omega)
theorem vY (hN:1073741824≤N) {c:Nat} (h4:c≤1000) {b1 b4:ba} {b2 b3 b5:aW} :
  dO N N b1 b2 b3 b4 b5 [] (c:Int) 0=some (aA c,(c:Int)) :=
 gW (fun k (o:aW) i=>dO N k b1 b2 b3 b4 b5 o (c:Int) i) c (fun i=>aA i) (aA c,(c:Int))
  (fun k i h=>by
   show dO N (k+1) b1 b2 b3 b4 b5 (aA i) (c:Int) (i:Int)=dO N k b1 b2 b3 b4 b5 (aA (i+1)) (c:Int) ((i+1:Nat):Int)
   have h2:(aA i).length=i:=by unfold aA;simp
   rw [dO,dlt h,cond_true,bz (by decide) (by rw [List.length_singleton];omega),bs,ad1 (by omega),bs,kj])
  (fun k=>by
   show dO N (k+1) b1 b2 b3 b4 b5 (aA c) (c:Int) (c:Int)=_
   rw [dO,dge (by omega),cond_false]) N 0 (by omega) (by omega)
theorem m9 (hN:1073741824≤N) {n:Nat} {atoms:List aX} {out:List Int} (ha:eT atoms) (ho:okI out) (hq:fM (n:Int) atoms out=true) :
  gc N (n:Int) atoms out=some ((aM n atoms,aA n,aA atoms.length),true):=by
 obtain ⟨_,n5,_,a4⟩:=ka hq
 unfold gc
 rw [gm hN ha ho,bs,hq,cond_true,zb hN ha ho hq,bs]
 unfold jB
 rw [nl,wC hN (by omega) ha (by omega),bs,lpB]
 dsimp only
 rw [vY hN (by omega),bs,lpB]
 rfl
theorem py (hN:1073741824≤N) {na e:Nat} {k:Nat→Nat} (hna:na≤1000) (hb:∀ i,i<na→k i*e≤1000000) :
  iF N ((List.range' 0 na).map fun i:Nat=>(k i:Int)) (e:Int)=some ((List.range' 0 na).map fun i:Nat=>((k i*e:Nat):Int)):=by
 have hl:((List.range' 0 na).map fun i:Nat=>(k i:Int)).length=na:=by simp
 have h:=gW (fun f (o:List Int) i=>dZ N f (e:Int) o ((List.range' 0 na).map fun i:Nat=>(k i:Int)) (na:Int) i) na (fun i=>(List.range' 0 i).map fun i:Nat=>((k i*e:Nat):Int)) ((List.range' 0 na).map (fun i:Nat=>((k i*e:Nat):Int)),(na:Int))
  (fun f i h=>by
   show dZ N (f+1) (e:Int) ((List.range' 0 i).map fun i:Nat=>((k i*e:Nat):Int)) ((List.range' 0 na).map fun i:Nat=>(k i:Int)) (na:Int) (i:Int)=dZ N f (e:Int) ((List.range' 0 (i+1)).map fun i:Nat=>((k i*e:Nat):Int)) ((List.range' 0 na).map fun i:Nat=>(k i:Int)) (na:Int) ((i+1:Nat):Int)
   have hx:ix ((List.range' 0 na).map fun i:Nat=>(k i:Int)) (i:Int)=some (k i:Int):=by
    rw [aV (by rw [hl];exact h)];simp
   have hm:=hb i h
   have p:(k i:Int)*(e:Int)=((k i*e:Nat):Int):=(Int.natCast_mul ..).symm
   rw [dZ,dlt h,cond_true,hx,bs,eN (by rw [p];omega) (by rw [p];omega),bs,p,bz (by decide) (by simp;omega),bs,ad1 (by omega),bs,List.range'_1_concat,List.map_append,Nat.zero_add]
   rfl)
  (fun f=>by
   show dZ N (f+1) (e:Int) ((List.range' 0 na).map fun i:Nat=>((k i*e:Nat):Int)) ((List.range' 0 na).map fun i:Nat=>(k i:Int)) (na:Int) (na:Int)=_
   rw [dZ,dge (by omega),cond_false]) N 0 (by omega) (by omega)
 have h':dZ N N (e:Int) [] ((List.range' 0 na).map fun i:Nat=>(k i:Int)) (na:Int) 0=some ((List.range' 0 na).map (fun i:Nat=>((k i*e:Nat):Int)),(na:Int)):=h
 unfold iF
 rw [hl,h',bs,lpB]
theorem qU (hN:1073741824≤N) {x:aW} {v:List Int × Int} (hl:x.length≤1048576) (h:bG N x=some v):dz N x=some v:=by
 obtain ⟨w,e1,e2,_⟩:=rU hN (rs:=x) hl
 rw [h] at e1
 rw [e2,Option.some.inj e1]
theorem sl (hN:1073741824≤N) {xs ks:List Int} {v:List Int × Bool} (hl:xs.length≤1048576) (hr:∀ v∈xs,v≤9223372036854775807) (h:bQ N xs ks=some v):dB N xs ks=some v:=by
 obtain ⟨w,e1,e2,_⟩:=tQ hN (ks:=ks) hl hr
 rw [h] at e1
 rw [e2,Option.some.inj e1]
theorem ww (hN:1073741824≤N) {n:Nat} {atoms:List aX} (n5:n≤5) (a1:1≤atoms.length) (a4:atoms.length≤4) {s:Nat→Nat} (hs:∀ i,i<atoms.length→s i≤16) {x y:aW} (hx:fD N n atoms x) (hy:fD N n atoms y) :
  ∃ c,fh N ((List.range' 0 atoms.length).map fun i:Nat=>(s i:Int)) x y=some (c,true)∧ff N ((List.range' 0 atoms.length).map fun i:Nat=>(s i:Int)) x y=some (c,true)∧-1≤c∧c≤1:=by
 obtain ⟨d,k,d1,d3,hk,ed,_⟩:=kM hN n5 a1 a4 hx
 obtain ⟨e,q,e1,e3,hq,ee,_⟩:=kM hN n5 a1 a4 hy
 have l1:∀ f:Nat→Nat,((List.range' 0 atoms.length).map fun i:Nat=>(f i:Int)).length=atoms.length:=fun f=>by simp
 obtain ⟨z,e4⟩:=vt hN (ss:=(List.range' 0 atoms.length).map fun i:Nat=>(s i:Int)) d3 e3 a4 hk hq atoms.length 0 N (by omega) (by omega)
 rw [qH,qH,qf,qf] at e4
 have e4':dm N N ((List.range' 0 atoms.length).map fun i:Nat=>(s i:Int)) ((List.range' 0 atoms.length).map fun i:Nat=>(k i:Int)) (d:Int) ((List.range' 0 atoms.length).map fun i:Nat=>(q i:Int)) (e:Int) 0=_:=e4
 have b1:∀ i,i<atoms.length→k i*e≤9:=fun i hi=>Nat.le_trans (Nat.mul_le_mul (hk i hi) e3) (by decide)
 have b2:∀ i,i<atoms.length→q i*d≤9:=fun i hi=>Nat.le_trans (Nat.mul_le_mul (hq i hi) d3) (by decide)
 obtain ⟨r1,f1,g1,c1,lr1,_⟩:=sB hN a4 hs (k:=fun i=>k i*e) b1
 obtain ⟨r2,f2,g2,c2,lr2,_⟩:=sB hN a4 hs (k:=fun i=>q i*d) b2
 obtain ⟨c,ec,h1,h2,h3⟩:=wY hN c1 c2 lr1 lr2
 obtain ⟨c',ec',ei⟩:=l5 hN (a:=r1) (b:=r2) (by omega) (by omega)
 obtain rfl:c=c':=by rw [ec] at ec';exact Option.some.inj ec'
 have sb:∀ v∈((List.range' 0 atoms.length).map fun i:Nat=>(s i:Int)),v≤9223372036854775807:=fun v hv=>by
  obtain ⟨i,hi,rfl⟩:=List.mem_map.1 hv
  have:=hs i (by rw [List.mem_range'_1] at hi;omega)
  omega
 refine ⟨c,?_,?_,h2,h3⟩
 ·unfold fh
  rw [ed,bs,ee,bs]
  dsimp only
  rw [show ((d:Int) == 0)=false by rw [beq_eq_false_iff_ne];omega,cond_false,show ((e:Int) == 0)=false by rw [beq_eq_false_iff_ne];omega,cond_false,l1,l1,l1,show ((atoms.length:Int) != (atoms.length:Int))=false by rw [bne_eq_false_iff_eq],cond_false,cond_false,e4',bs,lpB]
  dsimp only
  rw [f1,bs,f2,bs]
  dsimp only
  rw [cond_true,cond_true,ec,bs]
 ·have xl:=hx.1.len
  have yl:=hy.1.len
  unfold ff
  rw [qU hN (by omega) ed,bs,qU hN (by omega) ee,bs]
  dsimp only
  rw [l1,show ((x.length:Int) != (atoms.length:Int))=false by rw [bne_eq_false_iff_eq];omega,cond_false,show ((y.length:Int) != (atoms.length:Int))=false by rw [bne_eq_false_iff_eq];omega,cond_false,show ((d:Int) == 0)=false by rw [beq_eq_false_iff_ne];omega,cond_false,show ((e:Int) == 0)=false by rw [beq_eq_false_iff_ne];omega,cond_false,py hN (by omega) (fun i hi=>Nat.le_trans (b1 i hi) (by decide)),bs,sl hN (by rw [l1];omega) sb f1,bs,py hN (by omega) (fun i hi=>Nat.le_trans (b2 i hi) (by decide)),bs,sl hN (by rw [l1];omega) sb f2,bs]
  dsimp only
  rw [cond_true,cond_true,ei,bs]
theorem xa {ss:List Int} {n:Int} {atoms:List aX} {out:List Int} {A:ba} {B C:aW}:∀ (fuel:Nat) (i:Int),gh N fuel ss n atoms out ss (ss.length:Int) i=cC N fuel ss A B C i:=by
 intro fuel
 induction fuel with
 | zero=>intros;rfl
 | succ fuel ih =>
  intro i
  rw [gh,cC]
  simp only [ni,ih]
theorem yh (hN:1073741824≤N) {ss:List Int} (hl:ss.length≤1000) {A:ba} {B C:aW}:∀ (c i fuel:Nat),i+c=ss.length→c<fuel→(∃ j,i≤j∧j<ss.length∧¬ (0≤ss.getD j 0∧ss.getD j 0≤16))→cC N fuel ss A B C (i:Int)=some (.inl ([],false)):=by
 intro c
 induction c with
 | zero=>intro i fuel hi hf ⟨j,h1,h2,_⟩;omega
 | succ c ih =>
  intro i fuel hi hf ⟨j,h1,h2,h3⟩
  obtain ⟨fuel,rfl⟩:∃ k',fuel=k'+1:=⟨fuel-1,by omega⟩
  rw [cC,decide_eq_true (by omega),cond_true,ixD (by omega),bs,d6,bs]
  by_cases hv:0≤ss.getD i 0∧ss.getD i 0≤16
  ·rw [show inR (ss.getD i 0) 0 16=true from cz.2 hv,cond_true,bE (by omega) (by omega),bs]
   have hij:i≠j:=fun e=>h3 (by rw [← e];exact hv)
   exact ih (i+1) fuel (by omega) (by omega) ⟨j,by omega,h2,h3⟩
  ·have:inR (ss.getD i 0) 0 16=false:=by
    cases h:inR (ss.getD i 0) 0 16 with
    | false=>rfl
    | true=>exact absurd (cz.1 h) hv
   rw [this,cond_false]
theorem xS (hN:1073741824≤N) {n:Nat} {atoms:List aX} (n5:n≤5) (a1:1≤atoms.length) (a4:atoms.length≤4) {s:Nat→Nat} (hs:∀ i,i<atoms.length→s i≤16) {P:ba} (hP:∀ x∈P,fD N n atoms x) (hl:P.length≤100000):∀ (c i fuel:Nat) (x:aW),i+1+c=P.length→c<fuel→fD N n atoms x →
  ∃ x' z z',cU N fuel ((List.range' 0 atoms.length).map fun i:Nat=>(s i:Int)) P x ((i+1:Nat):Int)=some (x',z)∧cX N fuel ((List.range' 0 atoms.length).map fun i:Nat=>(s i:Int)) x (P.drop 1) ((P.drop 1).length:Int) (i:Int)=some (x',z')∧fD N n atoms x':=by
 intro c
 induction c with
 | zero =>
  intro i fuel x hi hf hx
  obtain ⟨fuel,rfl⟩:∃ k',fuel=k'+1:=⟨fuel-1,by omega⟩
  rw [cU,cX,decide_eq_false (by omega),cond_false,decide_eq_false (by rw [List.length_drop];omega),cond_false]
  exact ⟨x,_,_,rfl,rfl,hx⟩
 | succ c ih =>
  intro i fuel x hi hf hx
  obtain ⟨fuel,rfl⟩:∃ k',fuel=k'+1:=⟨fuel-1,by omega⟩
  have hil:i+1<P.length:=by omega
  have hm:aZ P (i+1)∈P:=by unfold aZ;simp [hil]
  have hd:ix (P.drop 1) (i:Int)=some (aZ P (i+1)):=by
   rw [aV (by rw [List.length_drop];omega),List.getElem_drop]
   unfold aZ;simp [hil,Nat.add_comm]
  obtain ⟨q,eq,ei,q1,q2⟩:=ww hN n5 a1 a4 hs (hP _ hm) hx
  have hS:cU N (fuel+1) ((List.range' 0 atoms.length).map fun i:Nat=>(s i:Int)) P x ((i+1:Nat):Int)=bif decide (q<0) then cU N fuel ((List.range' 0 atoms.length).map fun i:Nat=>(s i:Int)) P (aZ P (i+1)) ((i+1+1:Nat):Int) else cU N fuel ((List.range' 0 atoms.length).map fun i:Nat=>(s i:Int)) P x ((i+1+1:Nat):Int):=by
   rw [cU,decide_eq_true (by omega),cond_true,ixM hil,bs,eq,bs]
   dsimp only
   cases decide (q<0) with
   | true=>rw [cond_true,cond_true,bs,ad1 (by omega),bs]
   | false=>rw [cond_false,cond_false,ad1 (by omega),bs]
  have hdl:decide ((i:Int)<((P.drop 1).length:Int))=true:=decide_eq_true (by rw [List.length_drop];omega)
  have hI:cX N (fuel+1) ((List.range' 0 atoms.length).map fun i:Nat=>(s i:Int)) x (P.drop 1) ((P.drop 1).length:Int) (i:Int)=bif (q == -1) then cX N fuel ((List.range' 0 atoms.length).map fun i:Nat=>(s i:Int)) (aZ P (i+1)) (P.drop 1) ((P.drop 1).length:Int) ((i+1:Nat):Int) else cX N fuel ((List.range' 0 atoms.length).map fun i:Nat=>(s i:Int)) x (P.drop 1) ((P.drop 1).length:Int) ((i+1:Nat):Int):=by
   rw [cX,hdl,cond_true,hd,bs,ei,bs]
   dsimp only
   cases (q == -1) with
   | true=>rw [cond_true,cond_true,ad1 (by omega),bs]
   | false=>rw [cond_false,cond_false,ad1 (by omega),bs]
  rw [hS,hI]
  by_cases hc:q<0
  ·rw [decide_eq_true hc,cond_true,show (q == -1)=true by rw [beq_iff_eq];omega,cond_true]
   exact ih (i+1) fuel _ (by omega) (by omega) (hP _ hm)
  ·rw [decide_eq_false hc,cond_false,show (q == -1)=false by rw [beq_eq_false_iff_ne];omega,cond_false]
   exact ih (i+1) fuel x (by omega) (by omega) hx
theorem pd (hM:1073742848≤N) {n:Int} {atoms:List aX} {out ss:List Int} (ha:eT atoms) (ho:okI out):∃ r:aW × Bool,gr N n atoms out ss=some r∧fF N n atoms out ss=some r∧(r=([],false)∨∃ n':Nat,n=(n':Int)∧r.2=true∧fD N n' atoms r.1∧fM n atoms out=true∧ss.length=atoms.length∧∀ v∈ss,0≤v∧v≤16):=by
 have hN:1073741824≤N:=by omega
 cases hq:fM n atoms out with
 | false =>
  refine ⟨([],false),?_,?_,.inl rfl⟩
  ·unfold gr fz
   rw [jx hN ha ho,bs,hq,cond_false];rfl
  ·unfold fF
   rw [gm hN ha ho,bs,hq,cond_false]
 | true =>
  obtain ⟨n1,n5,a1,a4⟩:=ka hq
  obtain ⟨n,rfl⟩:=Int.eq_ofNat_of_zero_le (show 0≤n by omega)
  have n1:1≤n:=by omega
  have n5:n≤5:=by omega
  have a1:1≤atoms.length:=by omega
  have a4:atoms.length≤4:=by omega
  unfold gr fF
  rw [gm hN ha ho,bs,hq,cond_true,oh hN ha ho hq,bs,m9 hN ha ho hq]
  dsimp only
  rw [cond_true]
  by_cases hl:ss.length=atoms.length
  ·rw [show ((ss.length:Int) != (atoms.length:Int))=false by rw [bne_eq_false_iff_eq];omega,cond_false,cond_false,xa (A:=aM n atoms) (B:=aA n) (C:=aA atoms.length)]
   by_cases hv:∀ v∈ss,0≤v∧v≤16
   ·obtain ⟨z0,hb⟩:=yU hN (ss:=ss) (by omega) hv (A:=aM n atoms) (B:=aA n) (C:=aA atoms.length) ss.length 0 N (by omega) (by omega)
    obtain ⟨s,hs,es⟩:=tX hv
    rw [hl] at hs es
    obtain ⟨P,eP,hPl,hP,hne⟩:=tT hN n1 n5 a1 a4
    have hne:=hne (ux hN n1 n5 a1 a4 (yS hq))
    have h0:0<P.length:=List.length_pos_iff.2 hne
    have hm:aZ P 0∈P:=by unfold aZ;simp [h0]
    obtain ⟨x,z,z',e1,e2,hpx⟩:=xS hN n5 a1 a4 hs hP hPl (P.length-1) 0 N (aZ P 0) (by omega) (by omega) (hP _ hm)
    have hb':cC N N ss (aM n atoms) (aA n) (aA atoms.length) 0=some (.inr z0):=hb
    have i0:ix P 0=some (aZ P 0):=ixM (i:=0) h0
    have hsl:slc P 1 (P.length:Int)=some (P.drop 1):=by
     unfold slc
     rw [if_pos (by omega)]
     simp
    have e1':cU N N ss P (aZ P 0) 1=some (x,z):=by rw [es];exact e1
    have e2':cX N N ss (aZ P 0) (P.drop 1) ((P.drop 1).length:Int) 0=some (x,z'):=by rw [es];exact e2
    refine ⟨(x,true),?_,?_,.inr ⟨n,rfl,rfl,hpx,rfl,hl,hv⟩⟩
    ·rw [hb',bs,fQ,eP,bs,i0,bs,e1',bs,lpB]
    ·rw [hb',bs,fQ,bs]
     dsimp only
     rw [za hM n1 n5 a1 a4,eP,bs,show ((P.length:Int) == 0)=false by rw [beq_eq_false_iff_ne];omega,cond_false,i0,bs,hsl,bs,e2',bs,lpB]
   ·obtain ⟨v,hv1,hv2⟩:∃ v∈ss,¬ (0≤v∧v≤16):=Classical.byContradiction fun h=>hv fun v hv=>Classical.byContradiction fun h2=>h ⟨v,hv,h2⟩
    obtain ⟨j,hj,rfl⟩:=List.getElem_of_mem hv1
    have hb:=yh hN (ss:=ss) (by omega) (A:=aM n atoms) (B:=aA n) (C:=aA atoms.length) ss.length 0 N (by omega) (by omega) ⟨j,Nat.zero_le _,hj,by rw [eJ hj];exact hv2⟩
    have hb':cC N N ss (aM n atoms) (aA n) (aA atoms.length) 0=_:=hb
    rw [hb',bs]
    exact ⟨_,rfl,rfl,.inl rfl⟩
  ·rw [show ((ss.length:Int) != (atoms.length:Int))=true by rw [bne_iff_ne];omega,cond_true,cond_true]
   exact ⟨_,rfl,rfl,.inl rfl⟩
end
section
variable {N:Nat}
theorem yn (hN:1073741824≤N) {n k:Int} {v:List Int × Bool} (h1:n≤9223372036854775807) (h:d7 N n k=some v):d5 N n k=some v:=by
 obtain ⟨w,e1,e2,_⟩:=nk hN (k:=k) h1
 rw [h] at e1
 rw [e2,Option.some.inj e1]
theorem zi (hN:1073741824≤N) {a b:List Int} {v:List Int × Bool} (ha:a.length≤1048576) (hb:b.length≤1048576) (h:fc N a b=some v):d9 N a b=some v:=by
 obtain ⟨w,e1,e2,_⟩:=lK hN ha hb
 rw [h] at e1
 rw [e2,Option.some.inj e1]
theorem yM (hN:1073741824≤N) {a b:List Int} {c:Int} (ha:a.length≤1048576) (hb:b.length≤1048576) (h:dn N a b=some c):cQ N a b=some c:=by
 obtain ⟨w,e1,e2⟩:=l5 hN ha hb
 rw [h] at e1
 rw [e2,Option.some.inj e1]
theorem xE {c f e:Int} {ks ss:List Int} (hl:ss.length≤1000) (hv:∀ v∈ss,0≤v):∀ (k i fuel:Nat),i+k=ss.length→k<fuel→∃ z,dX N fuel ss c f ks e ss (ss.length:Int) (i:Int)=some (.inr z):=by
 intro k
 induction k with
 | zero =>
  intro i fuel hi hf
  obtain ⟨fuel,rfl⟩:∃ k',fuel=k'+1:=⟨fuel-1,by omega⟩
  rw [dX,decide_eq_false (by omega),cond_false]
  exact ⟨_,rfl⟩
 | succ k ih =>
  intro i fuel hi hf
  obtain ⟨fuel,rfl⟩:∃ k',fuel=k'+1:=⟨fuel-1,by omega⟩
  have h0:=hv _ (List.getElem_mem (show i<ss.length by omega))
  rw [dX,decide_eq_true (by omega),cond_true,aV (by omega),bs,decide_eq_false (by omega),cond_false,bE (by omega) (by omega),bs]
  exact ih (i+1) fuel (by omega) (by omega)
theorem ra (hN:1073741824≤N) {n:Nat} {atoms:List aX} (n5:n≤5) (a1:1≤atoms.length) (a4:atoms.length≤4) {s:Nat→Nat} (hs:∀ i,i<atoms.length→s i≤16) {x:aW} (hx:fD N n atoms x) {c:Nat} (hc:c≤9007199254740992) :
  du N ((List.range' 0 atoms.length).map fun i:Nat=>(s i:Int)) x (c:Int)=some (decide (c ^ (PVx N atoms.length s x).2≤(PVx N atoms.length s x).1)):=by
 obtain ⟨d,k,d1,d3,hk,ed,_⟩:=kM hN n5 a1 a4 hx
 have hkd:=s9 hN n5 a1 a4 hx ed
 have v1:=t9 (s:=s) ed
 rw [v1]
 dsimp only
 have hb:=qD a4 d1 hs hkd
 have hb2:prN ((List.range' 0 atoms.length).map fun i=>s i ^ k i)<10 ^ 60:=Nat.lt_trans hb (Nat.lt_of_le_of_lt (Nat.pow_le_pow_right (by decide) d3) (by decide))
 obtain ⟨r,er,hr,cr,lr,_⟩:=sO hN a4 hs hk
 obtain ⟨y,ey,hy,cy,ly⟩:=mL hN (n:=(c:Int)) (by omega) (by omega) (d:=d) (by omega) (ms hc d3)
 obtain ⟨o,eo,ho,co,lo⟩:=mL hN (n:=((1:Nat):Int)) (by decide) (by decide) (d:=d) (by omega) (ms (by decide) d3)
 have ho1:vB o=1:=by rw [ho,← Int.natCast_pow,Nat.one_pow];rfl
 obtain ⟨m,em,hm,cm,lm⟩:=st hN cr co lr lo (by
  rw [ho1,hr,Int.mul_one]
  have:((prN ((List.range' 0 atoms.length).map fun i=>s i ^ k i):Nat):Int)<((10 ^ 60:Nat):Int):=Int.ofNat_lt.2 hb2
  simpa using this)
 obtain ⟨q,eq,hq⟩:=vi hN cy cm ly lm
 have l1:((List.range' 0 atoms.length).map fun i:Nat=>(s i:Int)).length=atoms.length:=by simp
 have sb:∀ v∈((List.range' 0 atoms.length).map fun i:Nat=>(s i:Int)),0≤v∧v≤9223372036854775807:=fun v hv=>by
  obtain ⟨i,hi,rfl⟩:=List.mem_map.1 hv
  have:=hs i (by rw [List.mem_range'_1] at hi;omega)
  omega
 obtain ⟨z,ez⟩:=xE (N:=N) (c:=(c:Int)) (f:=1) (e:=(d:Int)) (ks:=(List.range' 0 atoms.length).map (fun i:Nat=>(k i:Int))) (ss:=(List.range' 0 atoms.length).map fun i:Nat=>(s i:Int)) (by rw [l1];omega) (fun v hv=>(sb v hv).1) atoms.length 0 N (by rw [l1];omega) (by omega)
 have ez':dX N N ((List.range' 0 atoms.length).map fun i:Nat=>(s i:Int)) (c:Int) 1 ((List.range' 0 atoms.length).map (fun i:Nat=>(k i:Int))) (d:Int) ((List.range' 0 atoms.length).map fun i:Nat=>(s i:Int)) (((List.range' 0 atoms.length).map fun i:Nat=>(s i:Int)).length:Int) 0=some (.inr z):=ez
 have eo':d7 N 1 (d:Int)=some (o,true):=eo
 have xl:=hx.1.len
 unfold du h9
 rw [qU hN (by omega) ed,bs]
 dsimp only
 rw [decide_eq_false (by omega),cond_false,decide_eq_false (by omega),cond_false,decide_eq_false (by omega),cond_false,ez',bs]
 simp only [lpS]
 rw [yn hN (by omega) ey,bs,sl hN (by rw [l1];omega) (fun v hv=>(sb v hv).2) er,bs,yn hN (by decide) eo',bs]
 dsimp only
 rw [zi hN (by omega) (by omega) em,bs]
 dsimp only
 rw [cond_true,cond_true,cond_true,cond_true,yM hN (by omega) (by omega) eq,bs,bs]
 have:(q≤0)↔(c ^ d≤prN ((List.range' 0 atoms.length).map fun i=>s i ^ k i)):=by
  rw [hq,hy,hm,ho1,hr,Int.mul_one,← Int.natCast_pow]
  exact Int.ofNat_le
 congr 1
 exact decide_eq_decide.2 this
theorem yi (hN:1073741824≤N) {ss:List Int} {x:aW} {f:Nat→Bool} (h1:∀ c:Nat,c≤100001→ck N ss x (c:Int)=some (f c)) (h2:∀ c:Nat,c≤100001→du N ss x (c:Int)=some (f c)):∀ (w fuel lo hi:Nat),hi≤lo+w→w<fuel→lo≤hi→hi≤100000→f lo=true→f (hi+1)=false →
  ∃ m:Nat,c6 N fuel ss x (lo:Int) (hi:Int)=some ((m:Int),(m:Int))∧c4 N fuel ss x (lo:Int) (hi:Int)=some ((m:Int),(m:Int))∧m≤100000∧f m=true∧f (m+1)=false:=by
 intro w
 induction w with
 | zero =>
  intro fuel lo hi hw hf hl hh e1 e2
  obtain ⟨fuel,rfl⟩:∃ k',fuel=k'+1:=⟨fuel-1,by omega⟩
  obtain rfl:lo=hi:=by omega
  rw [c6,c4,decide_eq_false (by omega),cond_false,cond_false]
  exact ⟨lo,rfl,rfl,hh,e1,e2⟩
 | succ w ih =>
  intro fuel lo hi hw hf hl hh e1 e2
  obtain ⟨fuel,rfl⟩:∃ k',fuel=k'+1:=⟨fuel-1,by omega⟩
  by_cases hlt:lo<hi
  ·obtain ⟨m,hm⟩:∃ m:Nat,m=(lo+hi+1) / 2:=⟨_,rfl⟩
   have hq:qt ((lo:Int)+(hi:Int)+1) 2=some (m:Int):=by
    have e:((lo:Int)+(hi:Int)+1).tdiv 2=(m:Int):=by
     rw [Int.tdiv_eq_ediv_of_nonneg (by omega)];omega
    unfold qt
    rw [e,if_pos ⟨by decide,by unfold rng;simp;omega⟩]
   rw [c6,c4,decide_eq_true (by omega),cond_true,cond_true,bE (by omega) (by omega),bs,bs,bE (by omega) (by omega),bs,bs,hq,bs,bs,h1 m (by omega),h2 m (by omega),bs,bs]
   cases hfm:f m with
   | true =>
    rw [cond_true,cond_true]
    exact ih fuel m hi (by omega) (by omega) (by omega) hh hfm e2
   | false =>
    rw [cond_false,cond_false,fj (by omega) (by omega),bs,bs,show ((m:Int)-1)=((m-1:Nat):Int) by omega]
    exact ih fuel lo (m-1) (by omega) (by omega) (by omega) (by omega) e1 (by rw [show m-1+1=m by omega];exact hfm)
  ·rw [c6,c4,decide_eq_false (by omega),cond_false,cond_false]
   obtain rfl:lo=hi:=by omega
   exact ⟨lo,rfl,rfl,hh,e1,e2⟩
theorem qN (hM:1073742848≤N) (n:Int) {atoms:List aX} {out:List Int} (ss:List Int) (ha:eT atoms) (ho:okI out):∃ v:Int × Bool,gi N n atoms out ss=some v∧gg N n atoms out ss=some v ∧
  (∀ x,fF N n atoms out ss=some (x,true)→v.2=true∧∃ m:Nat,v.1=(m:Int)∧m≤100000∧ck N ss x (m:Int)=some true∧ck N ss x ((m+1:Nat):Int)=some false):=by
 have hN:1073741824≤N:=by omega
 obtain ⟨r,h1,h2,h3⟩:=pd hM (n:=n) (ss:=ss) ha ho
 unfold gi gg
 rw [h1,h2,bs,bs]
 rcases h3 with rfl | ⟨n',rfl,hr,hp,hq,hl,hv⟩
 ·exact ⟨(0,false),rfl,rfl,fun x h=>by cases h⟩
 ·obtain ⟨_,n5,a1,a4⟩:=ka hq
  have n5:n'≤5:=by omega
  have a1:1≤atoms.length:=by omega
  have a4:atoms.length≤4:=by omega
  obtain ⟨s,hs,es⟩:=tX hv
  rw [hl] at hs es
  obtain ⟨w1,w2,w3⟩:=rP hN n5 a1 a4 hs hp
  have w4:=fun c (hc:c≤9007199254740992)=>ra hN n5 a1 a4 hs hp (c:=c) hc
  rw [← es] at w3 w4
  obtain ⟨m,g1,g2,g3,g4,g5⟩:=yi hN (ss:=ss) (x:=r.1) (f:=fun c=>decide (c ^ (PVx N atoms.length s r.1).2≤(PVx N atoms.length s r.1).1)) (fun c hc=>w3 c (by omega)) (fun c hc=>w4 c (by omega)) 100000 N 0 100000 (by omega) (by omega) (by omega) (by omega) (by
   rw [decide_eq_true]
   rw [Nat.zero_pow (by omega)];exact Nat.zero_le _) (decide_eq_false (by
   show ¬ (100001 ^ (PVx N atoms.length s r.1).2≤(PVx N atoms.length s r.1).1)
   omega))
  have z1:ck N ss r.1 0=some true:=by
   have:=w3 0 (by omega)
   rw [show ((0:Nat):Int)=0 from rfl] at this
   rw [this,decide_eq_true]
   rw [Nat.zero_pow (by omega)];exact Nat.zero_le _
  have z2:du N ss r.1 0=some true:=by
   have:=w4 0 (by omega)
   rw [show ((0:Nat):Int)=0 from rfl] at this
   rw [this,decide_eq_true]
   rw [Nat.zero_pow (by omega)];exact Nat.zero_le _
  have g1':c6 N N ss r.1 0 100000=some ((m:Int),(m:Int)):=g1
  have g2':c4 N N ss r.1 0 100000=some ((m:Int),(m:Int)):=g2
  refine ⟨((m:Int),true),?_,?_,fun x hx=>?_⟩
  ·rw [hr,cond_true,z1,bs,cond_true,g1',bs,lpB]
  ·rw [hr,cond_true,z2,bs,cond_true,g2',bs,lpB]
  ·have e:r=(x,true):=Option.some.inj hx
   subst e
   refine ⟨rfl,m,rfl,g3,?_,?_⟩
   ·rw [w3 m (by omega)];exact congrArg some g4
   ·rw [w3 (m+1) (by omega)];exact congrArg some g5
end
theorem kL {N:Nat} (hM:1073742848≤N) {x0:Int × List (ByteArray × List Int) × List Int} (hb0:(fun x=>(bP (fun x=>(fun s=>s.size≤9223372036854775807) x.1∧(bP (fun _=>True) 9223372036854775807) x.2) 9223372036854775807) x.2.1∧(bP (fun _=>True) 9223372036854775807) x.2.2) x0) {x1:List Int} (hb1:(bP (fun _=>True) 9223372036854775807) x1):fv N x0.1 x0.2.1 x0.2.2 x1=some true:=by
 have hN:1073741824≤N:=by omega
 unfold fv
 by_cases hc1:(1048576:Int)<(x1.length:Int)
 ·rw [decide_eq_true hc1];rfl
 rw [decide_eq_false hc1,cond_false]
 have o1:bP (fun _=>True) 1048576 x1:=⟨by omega,fun _ _=>trivial⟩
 obtain ⟨r0,e0,k0⟩:=uE hN hb0 (l:=1048576) (by omega) (by omega)
 rw [e0,bs]
 by_cases hr0:r0<0
 ·rw [decide_eq_true hr0];rfl
 rw [decide_eq_false hr0,cond_false]
 obtain ⟨o0,m0⟩:=k0 (by omega)
 obtain ⟨vv,hspec,himpl⟩:=qN hM x0.1 x1 o0.1 o0.2
 simp only [ut hN o0,uR hN o0 o0,oS hN o1,o6 hN o1 o1,bs,hspec,himpl,bne_self_eq_false,cond_false,cond_true,decide_true,pi]
section
variable {P:Program} {n:Nat} {Q Q':Exit→Env→World→Prop} {K:Env→World→Prop} {KQ:Env→Prop} {e:Env} {w w0:World} {c y:Code} {x:Exit} {ops:Array Oper} {rest:List Oper}
variable {d:Nat} {op:Op} {ty:TypeId} {pos:String} {af:Array Edge} {o z1 z2 z3:Operand} {v:Value} {q1:Oper}
def RdF {α:Type} (w0 W:World) (F:List Nat) (R:Rep α) (cs:List Value) (x:α):Prop:=R.rd w0 cs x∨∃ f,R.own W cs x f∧∀ b∈f,b∈F
theorem RdF.up {α:Type} {R:Rep α} {W W':World} {F F':List Nat} {cs:List Value} {x:α} (h:RdF w0 W F R cs x) (he:∀ b∈F,W'.heap[b]? = W.heap[b]?) (hs:∀ b∈F,b∈F'):RdF w0 W' F' R cs x:=by
 rcases h with h | ⟨f,h1,h2⟩
 ·exact .inl h
 ·exact .inr ⟨f,R.own_ext h1 (fun b hb=>he b (h2 b hb)),fun b hb=>hs b (h2 b hb)⟩
theorem dt {p:Prop} [Decidable p] (h:decide p=true:=by rfl):p:=of_decide_eq_true h
theorem oB {α β:Type} {C:Prop} {o:Option α} {f:α→Option β} {r:β} (h:o.bind f=some r) (k:∀ x,o=some x→f x=some r→C):C:=by
 obtain ⟨x,h1,h2⟩:=ob h
 exact k x h1 h2
theorem oF {α:Type} {C:Prop} {c:Bool} {x y:Option α} {r:α} (h:(bif c then x else y)=some r) (k1:c=true→x=some r→C) (k2:c=false→y=some r→C):C:=by
 rcases oif h with ⟨h1,h2⟩ | ⟨h1,h2⟩
 ·exact k1 h1 h2
 ·exact k2 h1 h2
theorem oI {α:Type} {a b:α} (h:some a=some b):a=b:=Option.some.inj h
theorem nn {α:Type} {x:α} (h:none=some x):False:=nomatch h
theorem cR {α:Type} {a b:α} (h:a=b) (f:α→Value):Ending.returned (f a)=Ending.returned (f b):=by rw [h]
theorem sP {α:Type} {a b:α} (h:a=b) (f:α→List Asn) (S:Sat w0 w (f a)):Sat w0 w (f b):=by rw [← h];exact S
theorem nB {f:FuncId} {g:Operand} {args:Array Operand} {tys:Array TypeId} {cap vals:Array Value} {R:Ending→World→Prop} (hf:ev e g=.func (.func f) #[] cap) (hg:Goes P f) (hc:Calls P f vals w R) (hv:(args.toList.map (ev e)).toArray++cap=vals) (hd:d<n)
  (hK:∀ x w',R x w'→∃ v,x=.returned v∧EL P n ops K rest (upd e d v) w'):EL P n ops K (⟨some d,.call ⟨.value g,args,tys⟩,ty,pos,af,none⟩ :: rest) e w:=by
 intro a ha
 refine wpList_plain rfl fun K' hK'=>?_
 unfold Oper.wp execOp
 have he:args.map (ev e)++cap=vals:=by
  rw [← hv]
  congr 1
  apply Array.ext';simp
 simp only [ha.eval,resolve,hf,Deferred.ofValue,Sem.run_bind,Sem.run_pure,Result.andThen_ok,Array.empty_append,he,invoke,hg.run,Oper.upon_enter]
 refine hc.mono fun x w' hx=>?_
 obtain ⟨v,rfl,h⟩:=hK x w' hx
 exact hK' _ _ (h _ (ha.put hd v))
theorem uS {l cap:List Value} {X:Array Value} (h:X=l.toArray):X++cap.toArray=(l++cap).toArray:=by rw [h];simp
theorem q7 {fn:Fn} {cap:Array Operand} {vs:Array Value} {D:Option Nat} (hc:(cap.toList.map (ev e)).toArray=vs):PV P ⟨D,.makeFunc fn #[] cap,ty,pos,af,none⟩ e w (.func fn #[] vs):=fun w' _=>by
 have he:cap.map (ev e)=vs:=by
  rw [← hc]
  apply Array.ext';simp
 unfold execOp
 simp [Instr.makeFunc,he]
abbrev pt (b o:Nat):Value:=.pointer (some ⟨b,o,none⟩)
theorem sg (h:∀ Q':Exit→Env→World→Prop,(∀ x e w,thn (fun e w=>CW P n y Q e w) Q x e w→Q' x e w)→CW P n c Q' e w):CW P n (.seq c y) Q e w:=sU (n6 h)
theorem sR {id:Nat} {l:List Oper} (h:∀ Q':Exit→Env→World→Prop,(∀ x e w,thn (fun e w=>CW P n y Q e w) Q x e w→Q' x e w)→EL P n l.toArray (fun e w=>Q' .normal e w) l e w):CW P n (.seq (.region id l.toArray false) y) Q e w:=sU (n6 fun Q' q=>ac (h Q' q))
theorem gn (h:∀ Q':Exit→Env→World→Prop,(∀ x e w,Q x e w→Q' x e w)→CW P n c Q' e w):CW P n c Q e w:=n6 h
theorem bg {i:Nat} (h:∀ Q':Exit→Env→World→Prop,(∀ x e w,inb i Q x e w→Q' x e w)→CW P n c Q' e w):CW P n (.block i c) Q e w:=uO (n6 h)
theorem hq {f:Exit→Env→World→Prop} (h:∀ x e w,f x e w→Q' x e w) (k:f x e w):Q' x e w:=h _ _ _ k
theorem tn (h:∀ x e w,thn K Q x e w→Q' x e w) (k:K e w):Q' .normal e w:=h _ _ _ k
theorem tr (h:∀ x e w,thn K Q x e w→Q' x e w) (k:Q .ret e w):Q' .ret e w:=h _ _ _ k
theorem tx {i:Nat} (h:∀ x e w,thn K Q x e w→Q' x e w) (k:Q (.exit i) e w):Q' (.exit i) e w:=h _ _ _ k
theorem bn {i:Nat} (h:∀ x e w,inb i Q x e w→Q' x e w) (k:Q .normal e w):Q' .normal e w:=h _ _ _ k
theorem br {i:Nat} (h:∀ x e w,inb i Q x e w→Q' x e w) (k:Q .ret e w):Q' .ret e w:=h _ _ _ k
theorem bS {i:Nat} (h:∀ x e w,inb i Q x e w→Q' x e w) (k:Q .normal e w):Q' (.exit i) e w:=h _ _ _ (yX k)
theorem en (h:∀ x e w,thn K Q x e w→Q' x e w) (k:K e w):EL P n ops (fun e w=>Q' .normal e w) [] e w:=ah (h _ _ _ k)
theorem sn (h:∀ x e w,thn K Q x e w→Q' x e w) (k:K e w):CW P n .skip Q' e w:=bk (h _ _ _ k)
theorem pa (v:Value) (hK:EL P n ops K rest (upd e d v) w) (hx:ev e o=v:=by exact rfl) (hd:d<n:=by decide):EL P n ops K (⟨some d,.assign o,ty,pos,af,none⟩ :: rest) e w:=kn (gY hx) hd hK
theorem pm (v:Value) (hK:EL P n ops K rest (upd e d v) w) (hx:ev e o=v:=by exact rfl) (hd:d<n:=by decide):EL P n ops K (⟨some d,.move o,ty,pos,af,none⟩ :: rest) e w:=kn (aq hx) hd hK
theorem pM (v:Value) (hx:ev e o=v) (hK:EL P n ops K rest (upd e d v) w) (hd:d<n:=by decide):EL P n ops K (⟨some d,.move o,ty,pos,af,none⟩ :: rest) e w:=kn (aq hx) hd hK
theorem pe (v:Value) (hp:PV P ⟨some d,op,ty,pos,af,none⟩ e w v) (hK:EL P n ops K rest (upd e d v) w) (hd:d<n:=by decide):EL P n ops K (⟨some d,op,ty,pos,af,none⟩ :: rest) e w:=kn hp hd hK
theorem qe (v:Value) (hp:PV P ⟨some d,op,ty,pos,af,none⟩ e w v) (hK:QL P n ops w KQ rest (upd e d v)) (hd:d<n:=by decide):QL P n ops w KQ (⟨some d,op,ty,pos,af,none⟩ :: rest) e:=oQ hp hd hK
theorem qm (v:Value) (hK:QL P n ops w KQ rest (upd e d v)) (hx:ev e o=v:=by exact rfl) (hd:d<n:=by decide):QL P n ops w KQ (⟨some d,.move o,ty,pos,af,none⟩ :: rest) e:=oQ (aq hx) hd hK
theorem qM (v:Value) (hx:ev e o=v) (hK:QL P n ops w KQ rest (upd e d v)) (hd:d<n:=by decide):QL P n ops w KQ (⟨some d,.move o,ty,pos,af,none⟩ :: rest) e:=oQ (aq hx) hd hK
theorem eo {j:Nat} {b b' c:Bool} (hc:c=b) (hK:EL P n ops K rest (upd e d undef) w) (h:yld ops e j=some c:=by exact rfl) (hb:(b == b')=false:=by exact rfl) (hd:d<n:=by decide):EL P n ops K (⟨some d,op,ty,pos,af,some (j,b')⟩ :: rest) e w:=xb h hc hb hd hK
theorem qo {j:Nat} {b b' c:Bool} (hc:c=b) (hK:QL P n ops w KQ rest (upd e d undef)) (h:yld ops e j=some c:=by exact rfl) (hb:(b == b')=false:=by exact rfl) (hd:d<n:=by decide):QL P n ops w KQ (⟨some d,op,ty,pos,af,some (j,b')⟩ :: rest) e:=wU h hc hb hd hK
theorem ei {j:Nat} {b c:Bool} {dst:Option Nat} (hc:c=b) (hK:EL P n ops K (⟨dst,op,ty,pos,af,none⟩ :: rest) e w) (h:yld ops e j=some c:=by exact rfl):EL P n ops K (⟨dst,op,ty,pos,af,some (j,b)⟩ :: rest) e w:=yF h hc hK
theorem qi {j:Nat} {b c:Bool} {dst:Option Nat} (hc:c=b) (hK:QL P n ops w KQ (⟨dst,op,ty,pos,af,none⟩ :: rest) e) (h:yld ops e j=some c:=by exact rfl):QL P n ops w KQ (⟨dst,op,ty,pos,af,some (j,b)⟩ :: rest) e:=yQ h hc hK
theorem ct {b:Bool} (hb:b=true) (h:CW P n c Q e w) (hc:ev e o=.bool b:=by exact rfl):CW P n (.cond o c y) Q e w:=tS hc hb h
theorem cf {b:Bool} (hb:b=false) (h:CW P n y Q e w) (hc:ev e o=.bool b:=by exact rfl):CW P n (.cond o c y) Q e w:=tY hc hb h
theorem rB {a b:Bool} {Γ:List Asn} (h:some a=some b) (hS:Sat w0 w Γ):Ending.returned (.bool a)=.returned (.bool b)∧Ext w0 w:=⟨by rw [Option.some.inj h],hS.below⟩
theorem rI {a b:Int} {Γ:List Asn} (h:some a=some b) (hS:Sat w0 w Γ):Ending.returned (.int .i64 a)=.returned (.int .i64 b)∧Ext w0 w:=⟨by rw [Option.some.inj h],hS.below⟩
abbrev i_ (x:Int):Value:=.int .i64 x
abbrev n_:Value:=.slice none 0 0
theorem ec0 {f:FuncId} {args:Array Operand} {tys:Array TypeId} {vals:Array Value} {Γ:List Asn} (hg:Goes P f) (hc:Calls P f vals w fun x w'=>x=.returned v∧Ext w w') (hv:(args.toList.map (ev e)).toArray=vals) (S:Sat w0 w Γ)
  (hK:∀ w',Ext w w'→Sat w0 w' Γ→EL P n ops K rest (upd e d v) w') (hd:d<n:=by decide):EL P n ops K (⟨some d,.call ⟨.value (.func f),args,tys⟩,ty,pos,af,none⟩ :: rest) e w :=
 fK hg hc hv hd (by rintro _ w' ⟨rfl,hx⟩;exact ⟨_,rfl,hK w' hx (S.ext hx)⟩)
theorem ec1 {f:FuncId} {args:Array Operand} {tys:Array TypeId} {vals:Array Value} {Γ:List Asn} {G:Value→Value} {A:Value→Asn} (hg:Goes P f) (hc:Calls P f vals w fun x w'=>∃ v,x=.returned (G v)∧Sat w w' [A v]) (hv:(args.toList.map (ev e)).toArray=vals) (S:Sat w0 w Γ)
  (hK:∀ w' v,Ext w w'→Sat w0 w' (A v :: Γ)→EL P n ops K rest (upd e d (G v)) w') (hd:d<n:=by decide):EL P n ops K (⟨some d,.call ⟨.value (.func f),args,tys⟩,ty,pos,af,none⟩ :: rest) e w :=
 fK hg hc hv hd (by rintro _ w' ⟨v,rfl,S'⟩;exact ⟨_,rfl,hK w' v S'.below (S.call1 S')⟩)
theorem aO {X:List Nat} {C:World→Prop} (i:Nat) {f:Nat} {L:Array Bool} (ho:ops[i]? = some q1)
  (h:EL P n ops (fun e' w'=>(X.contains i=true→C w')∧AL P n ops X C K f (L.setIfInBounds i true) e' w') [q1] e w) (hr:Region.ready .any ops L=[i]:=by kernel_rfl):AL P n ops X C K (f+1) L e w:=xA i hr ho h
theorem aP {X:List Nat} {C:World→Prop} (v:Value) (i:Nat) {f:Nat} {L:Array Bool} (hi:ops[i]? = some q1) (hdst:q1.dst=some d) (hC:C w)
  (hy:SV P n ops C q1 e v) (hK:AL P n ops X C K f (L.setIfInBounds i true) (upd e d v) w) (hsel:jm ops=true:=by kernel_rfl) (hdn:d<n:=by decide) (hf:ma ops X L i q1=true:=by kernel_rfl) (hr:(Region.ready .any ops L).contains i=true:=by kernel_rfl):AL P n ops X C K (f+1) L e w:=ur hsel i hi hdst hdn hC hf hr hy hK
theorem ca {α β:Type} {f:α→β} {l:List α} {m:List β} (h:l.map f=m):(l.map f).toArray=m.toArray:=congrArg List.toArray h
theorem Sat.t1 {a0 a1:Asn} {Γ:List Asn} (h:Sat w0 w (a0 :: a1 :: Γ)):Sat w0 w (a1 :: a0 :: Γ):=h.top 1 rfl
theorem Sat.t2 {a0 a1 a2:Asn} {Γ:List Asn} (h:Sat w0 w (a0 :: a1 :: a2 :: Γ)):Sat w0 w (a2 :: a0 :: a1 :: Γ):=h.top 2 rfl
theorem Sat.t3 {a0 a1 a2 a3:Asn} {Γ:List Asn} (h:Sat w0 w (a0 :: a1 :: a2 :: a3 :: Γ)):Sat w0 w (a3 :: a0 :: a1 :: a2 :: Γ):=h.top 3 rfl
theorem Sat.t4 {a0 a1 a2 a3 a4:Asn} {Γ:List Asn} (h:Sat w0 w (a0 :: a1 :: a2 :: a3 :: a4 :: Γ)):Sat w0 w (a4 :: a0 :: a1 :: a2 :: a3 :: Γ):=h.top 4 rfl
theorem Sat.t5 {a0 a1 a2 a3 a4 a5:Asn} {Γ:List Asn} (h:Sat w0 w (a0 :: a1 :: a2 :: a3 :: a4 :: a5 :: Γ)):Sat w0 w (a5 :: a0 :: a1 :: a2 :: a3 :: a4 :: Γ):=h.top 5 rfl
theorem Sat.r0 {a0:Asn} {Γ:List Asn} (h:Sat w0 w (a0 :: Γ)):Sat w0 w (Γ):=h.rem 0 rfl
theorem Sat.r1 {a0 a1:Asn} {Γ:List Asn} (h:Sat w0 w (a0 :: a1 :: Γ)):Sat w0 w (a0 :: Γ):=h.rem 1 rfl
theorem Sat.r2 {a0 a1 a2:Asn} {Γ:List Asn} (h:Sat w0 w (a0 :: a1 :: a2 :: Γ)):Sat w0 w (a0 :: a1 :: Γ):=h.rem 2 rfl
theorem Sat.r3 {a0 a1 a2 a3:Asn} {Γ:List Asn} (h:Sat w0 w (a0 :: a1 :: a2 :: a3 :: Γ)):Sat w0 w (a0 :: a1 :: a2 :: Γ):=h.rem 3 rfl
theorem Sat.r4 {a0 a1 a2 a3 a4:Asn} {Γ:List Asn} (h:Sat w0 w (a0 :: a1 :: a2 :: a3 :: a4 :: Γ)):Sat w0 w (a0 :: a1 :: a2 :: a3 :: Γ):=h.rem 4 rfl
theorem Sat.r5 {a0 a1 a2 a3 a4 a5:Asn} {Γ:List Asn} (h:Sat w0 w (a0 :: a1 :: a2 :: a3 :: a4 :: a5 :: Γ)):Sat w0 w (a0 :: a1 :: a2 :: a3 :: a4 :: Γ):=h.rem 5 rfl
theorem Sat.r6 {a0 a1 a2 a3 a4 a5 a6:Asn} {Γ:List Asn} (h:Sat w0 w (a0 :: a1 :: a2 :: a3 :: a4 :: a5 :: a6 :: Γ)):Sat w0 w (a0 :: a1 :: a2 :: a3 :: a4 :: a5 :: Γ):=h.rem 6 rfl
end
theorem rH {α:Type} {R:Rep α} {w:World} (hsz:R.sz=1):∀ {xs:List α} {ccs:List Value} {f:List Nat},eZ R w ccs xs f→∃ ts:List (Value × α × List Nat),ccs=ts.map (·.1)∧xs=ts.map (·.2.1)∧f=(ts.map (·.2.2)).flatten∧∀ t∈ts,R.own w [t.1] t.2.1 t.2.2
 | [],_,_,h=>by
  obtain ⟨rfl,rfl⟩:=h
  exact ⟨[],rfl,rfl,rfl,by simp⟩
 | x :: xs,_,_,h=>by
  obtain ⟨ec,rest,f1,f2,rfl,rfl,h1,h2⟩:=h
  obtain ⟨ts,rfl,rfl,rfl,h3⟩:=rH hsz h2
  have hl:=R.rd_len (R.own_rd h1)
  rw [hsz] at hl
  obtain ⟨c,rfl⟩:=List.length_eq_one_iff.1 hl
  refine ⟨(c,x,f1) :: ts,rfl,rfl,rfl,fun t ht=>?_⟩
  rcases List.mem_cons.1 ht with rfl | ht
  ·exact h1
  ·exact h3 t ht
theorem rf {α:Type} {R:Rep α} {w:World}:∀ {ts:List (Value × α × List Nat)},(∀ t∈ts,R.own w [t.1] t.2.1 t.2.2)→eZ R w (ts.map (·.1)) (ts.map (·.2.1)) (ts.map (·.2.2)).flatten
 | [],_=>⟨rfl,rfl⟩
 | t :: _,h=>⟨[t.1],_,t.2.2,_,rfl,rfl,h t List.mem_cons_self,rf fun u hu=>h u (List.mem_cons_of_mem _ hu)⟩
theorem s7 {α:Type} {R:Rep α} {w:World} (hsz:R.sz=1) {xs:List α} {ccs:List Value} {f:List Nat} (h:eZ R w ccs xs f) {k p:Nat} (hk:k<xs.length) (hp:p<xs.length) {a b:Value} (ha:ccs[k]? = some a) (hb:ccs[p]? = some b) :
  ∃ f',f'.Perm f∧eZ R w ((ccs.set k b).set p a) ((xs.set k xs[p]).set p xs[k]) f':=by
 obtain ⟨ts,rfl,rfl,rfl,h3⟩:=rH hsz h
 rw [List.length_map] at hk hp
 rw [List.getElem?_map,List.getElem?_eq_getElem hk] at ha
 rw [List.getElem?_map,List.getElem?_eq_getElem hp] at hb
 have ha:ts[k].1=a:=Option.some.inj ha
 have hb:ts[p].1=b:=Option.some.inj hb
 have hpm:=List.set_set_perm hk hp
 refine ⟨(((ts.set k ts[p]).set p ts[k]).map (·.2.2)).flatten,(hpm.map _).flatten,?_⟩
 have:=rf (R:=R) (w:=w) (ts:=(ts.set k ts[p]).set p ts[k]) fun t ht=>h3 t (hpm.mem_iff.1 ht)
 rw [List.map_set,List.map_set,List.map_set,List.map_set,ha,hb] at this
 rw [List.getElem_map,List.getElem_map]
 exact this
def nC {α:Type} (R:Rep α) (E:TypeId) (v:Value) (ys:List α) (p:Nat) (c:Value):Asn where
 holds w fp:=∃ g cap cur f2,v=.slice (some ⟨g,0,none⟩) ys.length cap∧w.heap[g]? = some (.cells cur E (0,0))∧ys.length≤cap∧cap≤maxLen∧cur.size=cap*R.sz∧R.sz=1∧p<ys.length∧eZ R w ((cur.toList.take ys.length).set p c) ys f2∧fp=g :: f2
 ext h he:=by
  obtain ⟨g,cap,cur,f2,h1,h2,h3,h4,h5,h6,h7,h8,rfl⟩:=h
  exact ⟨g,cap,cur,f2,h1,by rw [he g List.mem_cons_self];exact h2,h3,h4,h5,h6,h7,gb h8 (fun b hb=>he b (List.mem_cons_of_mem _ hb)),rfl⟩
 lt h:=by
  obtain ⟨g,cap,cur,f2,h1,h2,h3,h4,h5,h6,h7,h8,rfl⟩:=h
  intro b hb
  rcases List.mem_cons.1 hb with rfl | hb
  ·exact (Array.getElem?_eq_some_iff.1 h2).1
  ·exact gO h8 b hb
section
variable {P:Program} {n:Nat} {K:Env→World→Prop} {e:Env} {w w0:World} {ops:Array Oper} {rest:List Oper} {ty:TypeId} {pos:String} {af:Array Edge}
variable {α:Type} {R:Rep α} {Γ:List Asn} {E:TypeId} {v:Value}
theorem pI {e:Env} {K:Env→World→Prop} {x y:Operand} {t:TypeId} {z:List Value} {bytes:Nat} [hz:ElemT P t z 1 bytes] {A B:Asn} {g o:Nat} {c:Value} {cur:Array Value}
  (hS:Sat w0 w (A :: Γ)) (hg:w.heap[g]? = some (.cells cur E (0,0))) (ho:o<cur.size) (hx:ev e x=.pointer (some ⟨g,o,none⟩)) (hy:(ev e y).cells=[c].toArray) (h1:c.oneCell'=true)
  (hAB:∀ w' fp,A.holds w fp→fp.Nodup→w'.heap[g]? = some (.cells (cur.toList.set o c).toArray E (0,0))→(∀ x,x≠g→x<w.heap.size→w'.heap[x]? = w.heap[x]?)→∃ fp',fp'.Perm fp∧g∈fp∧B.holds w' fp')
  (hK:∀ w',Sat w0 w' (B :: Γ)→EL P n ops K rest e w'):EL P n ops K (⟨none,.store t x y,ty,pos,af,none⟩ :: rest) e w:=by
 intro a ha
 refine wpList_plain rfl fun K' hK'=>?_
 have hz:=hz.h
 cases hi:P.info? t with
 | none=>simp [hi] at hz
 | some inf =>
  simp [hi] at hz
  have hh':w.heap[g]? = some (.cells cur.toList.toArray E (0,0)):=by simpa using hg
  obtain ⟨w',hr,hnew,hc⟩:=gZ (P:=P) [c] o 0 cur.toList w hh' (by simp;omega) (by simpa using h1)
  have hsz:¬ ([c].toArray.size≠inf.size):=by simp;omega
  unfold Oper.wp execOp
  simp only [ha.eval,hx,Instr.storeAt,Instr.sureAddr,storeVar,sizeOf,typeInfo,hi,hy,Sem.run_bind,Sem.run_pure,run_program,Result.andThen_ok,hsz,if_false,Sem.run_ite,List.toList_toArray,hr,Oper.upon_skip]
  refine hK' _ _ (hK w' ?_ _ ha)
  refine hS.upd ?_
  intro fp hA hnd
  have hoth:∀ x,x≠g→x<w.heap.size→w'.heap[x]? = w.heap[x]?:=fun x hx hlt=>hc.block x hlt (by simpa using hx)
  have hnew':w'.heap[g]? = some (.cells (cur.toList.set o c).toArray E (0,0)):=by
   rw [hnew]
   have e:cur.toList.take (o+0)++[c]++cur.toList.drop (o+0+[c].length)=cur.toList.set o c:=by
    rw [List.set_eq_take_append_cons_drop,if_pos (by simpa using ho)]
    simp
   rw [← e]
  obtain ⟨fp',hp,hgm,hB⟩:=hAB w' fp hA hnd hnew' hoth
  exact ⟨fp',hB,hp.nodup_iff.2 hnd,hc.mono (by simpa using hgm),fun b hb=>.inl (hp.mem_iff.1 hb)⟩
theorem lW {e:Env} {K:Env→World→Prop} {x y:Operand} {t:TypeId} {z:List Value} {bytes:Nat} [hz:ElemT P t z 1 bytes] {xs ys:List α} {g cap g1 cap1 g2 cap2:Nat} {k p:Int} {a b:α} {ca cb:Value}
  (hS:Sat w0 w (Own (aD R E) [v] xs :: Γ)) (hv:v=.slice (some ⟨g,0,none⟩) xs.length cap) (hv1:v=.slice (some ⟨g1,0,none⟩) xs.length cap1) (hv2:v=.slice (some ⟨g2,0,none⟩) xs.length cap2) (hsz:R.sz=1) (ha:ix xs k=some a) (hb:ix xs p=some b) (hca:∀ j c,[ca][j]? = some c→w.cell? ⟨g1,k.toNat*1+j,none⟩=some c) (hcb:∀ j c,[cb][j]? = some c→w.cell? ⟨g2,p.toNat*1+j,none⟩=some c)
  (hy1:sto xs k b=some ys) (hx:ev e x=.pointer (some ⟨g,k.toNat*1,none⟩)) (hy:(ev e y).cells=[cb].toArray) (h1:cb.oneCell'=true)
  (hK:∀ w',Sat w0 w' (nC R E v (ys.set p.toNat a) p.toNat ca :: Γ)→EL P n ops K rest e w'):EL P n ops K (⟨none,.store t x y,ty,pos,af,none⟩ :: rest) e w:=by
 obtain ⟨rfl,rfl⟩:g=g1∧cap=cap1:=by rw [hv] at hv1;simpa using hv1
 obtain ⟨rfl,rfl⟩:g=g2∧cap=cap2:=by rw [hv] at hv2;simpa using hv2
 clear hv1 hv2
 obtain ⟨k,rfl,hk,rfl⟩:=eS ha
 obtain ⟨p,rfl,hp,rfl⟩:=eS hb
 have ey:ys=xs.set k xs[p]:=by
  unfold sto at hy1;split at hy1
  ·exact (Option.some.inj hy1).symm
  ·cases hy1
 subst ey hv
 simp only [Int.toNat_natCast,Nat.mul_one] at hx hca hcb hK
 obtain ⟨fp,hv,_⟩:=hS.head
 rcases hv with ⟨_,h2,_⟩ | ⟨g',cap',cur,ccs,f2,hv,hg,k1,k2,k3,k4,k5,rfl⟩
 ·subst h2;simp at hk
 obtain ⟨rfl,rfl⟩:g=g'∧cap=cap':=by simpa using hv
 rw [hsz,Nat.mul_one] at k4
 have hcur:xs.length≤cur.size:=by rw [k3,hsz];omega
 have at1:∀ {i:Nat} {c:Value},i<xs.length→w.cell? ⟨g,i+0,none⟩=some c→(cur.toList.take xs.length)[i]? = some c:=by
  intro i c hi h
  rw [cell_of_row w g _ cur E (0,0) hg,← Array.getElem?_toList,Nat.add_zero] at h
  rw [List.getElem?_take,if_pos hi];exact h
 have hA:=at1 hk (hca 0 ca rfl)
 have hB:=at1 hp (hcb 0 cb rfl)
 refine pI (B:=nC R E (.slice (some ⟨g,0,none⟩) xs.length cap) ((xs.set k xs[p]).set p xs[k]) p ca) hS hg (by omega) hx hy h1 ?_ hK
 intro w' fp2 hA2 hnd hnew hoth
 rcases hA2 with ⟨_,h2,_⟩ | ⟨g',cap',cur',ccs',f3,hv',hg',m1,m2,m3,m4,m5,rfl⟩
 ·subst h2;simp at hk
 obtain ⟨rfl,rfl⟩:g=g'∧cap=cap':=by simpa using hv'
 obtain ⟨rfl⟩:cur'=cur:=by rw [hg] at hg';simpa using hg'.symm
 rw [hsz,Nat.mul_one] at m4
 subst m4
 obtain ⟨f',hpm,hsw⟩:=s7 hsz m5 hk hp hA hB
 refine ⟨g :: f',hpm.cons g,List.mem_cons_self,g,cap,_,f',by simp,hnew,by simpa using m1,m2,by simpa using m3,hsz,by simpa using hp,?_,rfl⟩
 have hgn:g∉f3:=(List.nodup_cons.1 hnd).1
 have e:((cur.toList.set k cb).toArray.toList.take ((xs.set k xs[p]).set p xs[k]).length).set p ca=((cur.toList.take xs.length).set k cb).set p ca:=by
  rw [List.length_set,List.length_set,List.take_set]
 rw [e]
 exact gb hsw fun b hb=>hoth b (fun eb=>hgn (hpm.mem_iff.1 (eb ▸ hb))) (gO m5 b (hpm.mem_iff.1 hb))
theorem lL {e:Env} {K:Env→World→Prop} {x y:Operand} {t:TypeId} {z:List Value} {bytes:Nat} [hz:ElemT P t z 1 bytes] {xs ys:List α} {g cap ln:Nat} {p:Int} {a:α} {ca:Value}
  (hS:Sat w0 w (nC R E v (xs.set p.toNat a) p.toNat ca :: Γ)) (hv:v=.slice (some ⟨g,0,none⟩) ln cap) (hy1:sto xs p a=some ys) (hx:ev e x=.pointer (some ⟨g,p.toNat*1,none⟩)) (hy:(ev e y).cells=[ca].toArray) (h1:ca.oneCell'=true)
  (hK:∀ w',Sat w0 w' (Own (aD R E) [v] ys :: Γ)→EL P n ops K rest e w'):EL P n ops K (⟨none,.store t x y,ty,pos,af,none⟩ :: rest) e w:=by
 have ey:ys=xs.set p.toNat a:=by
  unfold sto at hy1;split at hy1
  ·exact (Option.some.inj hy1).symm
  ·cases hy1
 rw [← ey] at hS
 clear ey hy1
 rw [Nat.mul_one] at hx
 obtain ⟨fp,⟨g',cap',cur,f2,k1,k2,k3,k4,k5,k6,k7,k8,rfl⟩,_⟩:=hS.head
 subst k1
 obtain ⟨rfl,rfl,rfl⟩:g'=g∧ys.length=ln∧cap'=cap:=by simpa using hv
 rw [k6,Nat.mul_one] at k5
 refine pI (B:=Own (aD R E) [.slice (some ⟨g',0,none⟩) ys.length cap'] ys) hS k2 (by omega) hx hy h1 ?_ hK
 intro w' fp2 hA2 hnd hnew hoth
 obtain ⟨g2,cap2,cur2,f3,m1,m2,m3,m4,m5,m6,m7,m8,rfl⟩:=hA2
 obtain ⟨rfl,rfl⟩:g'=g2∧cap'=cap2:=by simpa using m1
 obtain ⟨rfl⟩:cur2=cur:=by rw [k2] at m2;simpa using m2.symm
 have hgn:g'∉f3:=(List.nodup_cons.1 hnd).1
 refine ⟨g' :: f3,.refl _,List.mem_cons_self,.inr ⟨g',cap',_,_,f3,rfl,hnew,m3,m4,by simpa using m5,rfl,?_,rfl⟩⟩
 have e:(cur.toList.set p.toNat ca).toArray.toList.take (ys.length*R.sz)=(cur.toList.take ys.length).set p.toNat ca:=by
  rw [m6,Nat.mul_one,List.take_set]
 rw [e]
 exact gb m8 fun b hb=>hoth b (fun eb=>hgn (eb ▸ hb)) (gO m8 b hb)
end
def gL {α:Type} (w0:World) (R:Rep α):Rep α where
 sz:=R.sz
 rd w cs x:=R.rd w0 cs x∨R.rd w cs x
 own w cs x fp:=R.rd w0 cs x∧fp=[]∨R.own w cs x fp
 rd_len h:=by rcases h with h | h <;> exact R.rd_len h
 rd_one h:=by rcases h with h | h <;> exact R.rd_one h
 rd_ext h he:=h.imp id fun h=>R.rd_ext h he
 own_rd h:=h.imp (·.1) R.own_rd
 own_ext h he:=h.imp id fun h=>R.own_ext h he
 own_lt h:=by
  rcases h with h | h
  ·rw [h.2];simp
  ·exact R.own_lt h
theorem pn {α:Type} {R:Rep α} {w w0:World} (hx:Ext w0 w):∀ {xs:List α} {ccs:List Value},rdL (gL w0 R) w ccs xs→rdL R w ccs xs
 | [],_,h=>h
 | x :: xs,_,h=>by
  obtain ⟨ec,rest,rfl,h1,h2⟩:=h
  refine ⟨ec,rest,rfl,?_,pn hx h2⟩
  rcases h1 with h1 | h1
  ·exact R.rd_ext h1 hx
  ·exact h1
theorem Sat.unmix {α:Type} {R:Rep α} {w w0:World} {Γ:List Asn} {E:TypeId} {cs:List Value} {xs:List α} (hS:Sat w0 w Γ) (h:(aD (gL w0 R) E).rd w cs xs):(aD R E).rd w cs xs:=by
 obtain ⟨ao,cap,ccs,h1,h2,h3,h4,h5,h6⟩:=h
 exact ⟨ao,cap,ccs,h1,h2,h3,h4,pn hS.below h5,h6⟩
theorem Sat.mixRo {α:Type} {R:Rep α} {w w0:World} {Γ:List Asn} {cs:List Value} {x:α} (hS:Sat w0 w Γ) (h:R.rd w0 cs x):Sat w0 w (Own (gL w0 R) cs x :: Γ):=hS.add (.inl ⟨h,rfl⟩)
theorem Sat.mixOwn {α:Type} {R:Rep α} {w w0:World} {Γ:List Asn} {cs:List Value} {x:α} (hS:Sat w0 w (Own R cs x :: Γ)):Sat w0 w (Own (gL w0 R) cs x :: Γ):=hS.conv fun _ h=>.inr h
theorem qS {α:Type} {R:Rep α} {W w w2:World}:∀ {xs:List α} {ccs:List Value},rdL (roR W R) w ccs xs→eZ (gL W R) w2 ccs xs []
 | [],_,h=>⟨h,rfl⟩
 | x :: xs,_,h=>by
  obtain ⟨ec,rest,rfl,h1,h2⟩:=h
  exact ⟨ec,rest,[],[],rfl,rfl,.inl ⟨h1,rfl⟩,qS h2⟩
theorem Sat.mixL {α:Type} {R:Rep α} {W w w0 w2:World} {Γ:List Asn} {ccs:List Value} {xs:List α} (hS:Sat w0 w Γ) (h:rdL (roR W R) w2 ccs xs):Sat w0 w (my (gL W R) ccs xs :: Γ):=hS.add (qS h)
theorem kN {P:Program} {t:TypeId} {k:IntKind} (ht:P.underlying t=some (.int k)) {cs:Array Value} {off:Nat} {c:Value} (hc:cs[off]? = some c) (w:World):(part t cs off).run P w=.ok c w:=by
 have hagg:(isAgg t).run P w=.ok false w:=by
  unfold isAgg
  rw [Sem.run_bind,run_underlying ht w]
  simp
 simp [part,Sem.run_bind,hagg,hc]
theorem vC {P:Program} {t:TypeId} {fs:Array Field} {f g:Field} {k1 k2:IntKind} (h1:P.underlying t=some (.struct fs)) (hfs:fs.toList=[f,g]) (n1:f.name≠ "_") (n2:g.name≠ "_") (o1:f.offset=0) (o2:g.offset=1) (t1:P.underlying f.type=some (.int k1)) (t2:P.underlying g.type=some (.int k2)) (hp:P.stoodInHeld t=false) (a b c d:Int) (w:World) :
  (Op.equalIn 10000 t (.agg #[.int .i64 a,.int .i64 b]) (.agg #[.int .i64 c,.int .i64 d])).run P w=.ok (a == c&&b == d) w:=by
 have hF:P.fieldsOf t=fs:=by unfold Program.fieldsOf;rw [h1]
 rw [run_equalIn_struct w 9999 t _ _ (by rw [hF];exact h1) hp,hF,hfs]
 unfold Op.eqFields
 rw [if_pos n1]
 simp only [Sem.run_bind,o1]
 rw [kN t1 (c:=.int .i64 a) rfl,Result.andThen_ok,kN t1 (c:=.int .i64 c) rfl,Result.andThen_ok,run_equalIn_int w 9998 f.type .i64 k1 a c t1,Result.andThen_ok,Sem.run_ite]
 cases hac:(a == c) with
 | false=>rw [if_pos (by rfl),Sem.run_pure,Bool.false_and]
 | true =>
  rw [if_neg (by decide),Bool.true_and]
  unfold Op.eqFields
  rw [if_pos n2]
  simp only [Sem.run_bind,o2]
  rw [kN t2 (c:=.int .i64 b) rfl,Result.andThen_ok,kN t2 (c:=.int .i64 d) rfl,Result.andThen_ok,run_equalIn_int w 9998 g.type .i64 k2 b d t2,Result.andThen_ok,Sem.run_ite]
  unfold Op.eqFields
  cases hbd:(b == d) with
  | false=>rw [if_pos (by rfl),Sem.run_pure]
  | true=>rw [if_neg (by decide),Sem.run_pure]
theorem rp {P:Program} {e:Env} {w:World} {ty:TypeId} {pos:String} {af:Array Edge} {o:Option Nat} {x y:Operand} {t u:TypeId} {fs:Array Field} {f g:Field} {k1 k2:IntKind} (h1:P.underlying t=some (.struct fs)) (hfs:fs.toList=[f,g]) (n1:f.name≠ "_") (n2:g.name≠ "_") (o1:f.offset=0) (o2:g.offset=1) (t1:P.underlying f.type=some (.int k1)) (t2:P.underlying g.type=some (.int k2)) (hp:P.stoodInHeld t=false) (hm:P.eqGuardType P.depth t=false) {a b c d:Int} (hx:ev e x=.agg #[.int .i64 a,.int .i64 b]) (hy:ev e y=.agg #[.int .i64 c,.int .i64 d]) :
  PV P ⟨o,.binOp .neq t x y u,ty,pos,af,none⟩ e w (.bool (!(a == c&&b == d))):=fun w' _=>by
 have g1:=run_eqGuard_agg (P:=P) w' .neq t x y #[.int .i64 a,.int .i64 b] #[.int .i64 c,.int .i64 d] hm
 have g2:=run_neq_struct (P:=P) w' t #[.int .i64 a,.int .i64 b] #[.int .i64 c,.int .i64 d]
 rw [vC h1 hfs n1 n2 o1 o2 t1 t2 hp] at g2
 unfold execOp
 simp only [hx,hy,Sem.run_bind,g1,g2,Result.andThen_ok,Sem.run_pure]
theorem Sat.unfrz {α:Type} {R:Rep α} {w w0 W:World} {Γ:List Asn} {F:List Nat} {cs:List Value} {x:α} (hS:Sat w0 w (Frz W F :: Γ)) (ho:R.own W cs x F):Sat w0 w (Own R cs x :: Γ) :=
 hS.conv fun f h=>by
  obtain ⟨rfl,h2,_⟩:=h
  exact R.own_ext ho h2
theorem p8 {α:Type} {R:Rep α} {w:World}:∀ {xs:List α} {ccs:List Value} {f:List Nat},eZ R w ccs xs f→∀ (k p:Nat) (hk:k<xs.length) (hp:p<xs.length),k≠p →
  ∃ ec f1 f2 f3 ep fp,R.own w ec xs[k] f2∧f=f1++(f2++f3)∧(∀ j c,ec[j]? = some c→ccs[k*R.sz+j]? = some c) ∧
   (∀ w' y f',(∀ b∈f1++f3,w'.heap[b]? = w.heap[b]?)→R.own w' ec y f'→eZ R w' ccs (xs.set k y) (f1++(f'++f3))) ∧
   R.own w ep xs[p] fp∧(∀ b∈fp,b∈f1++f3)∧∀ j c,ep[j]? = some c→ccs[p*R.sz+j]? = some c
 | [],_,_,_,k,_,hk,_,_=>absurd hk (by simp)
 | x :: xs,_,_,h,k,p,hk,hp,hne=>by
  have hh:=h
  obtain ⟨ec,rest,f1,f2,rfl,rfl,h1,h2⟩:=h
  have hd:∀ j c,ec[j]? = some c→(ec++rest)[0*R.sz+j]? = some c:=fun j c hj=>by
   have hlt:j<ec.length:=(List.getElem?_eq_some_iff.1 hj).1
   rw [Nat.zero_mul,Nat.zero_add,List.getElem?_append_left hlt];exact hj
  have tl:∀ (q:Nat) (e':List Value),(∀ j c,e'[j]? = some c→rest[q*R.sz+j]? = some c)→∀ j c,e'[j]? = some c→(ec++rest)[(q+1)*R.sz+j]? = some c:=fun q e' h3 j c hj=>by
   have e:(q+1)*R.sz+j=ec.length+(q*R.sz+j):=by rw [R.rd_len (R.own_rd h1),Nat.add_mul];omega
   rw [e,List.getElem?_append_right (by omega),Nat.add_sub_cancel_left]
   exact h3 j c hj
  cases k with
  | zero =>
   cases p with
   | zero=>exact absurd rfl hne
   | succ p =>
    obtain ⟨ep,g1,g2,g3,k1,rfl,k3,_⟩:=jX h2 p (by simpa using hp)
    refine ⟨ec,[],f1,_,ep,g2,h1,rfl,hd,fun w' y f' he ho=>?_,by simpa using k1,fun b hb=>by simp [hb],tl p ep k3⟩
    exact ⟨ec,rest,f',_,rfl,rfl,ho,gb h2 fun b hb=>he b (by simpa using hb)⟩
  | succ k =>
   cases p with
   | zero =>
    obtain ⟨ec',g1,g2,g3,k1,rfl,k3,k4⟩:=jX h2 k (by simpa using hk)
    refine ⟨ec',f1++g1,g2,g3,ec,f1,by simpa using k1,by simp,tl k ec' k3,fun w' y f' he ho=>?_,h1,fun b hb=>by simp [hb],hd⟩
    refine ⟨ec,rest,f1,g1++(f'++g3),rfl,by simp,R.own_ext h1 fun b hb=>he b (by simp [hb]),k4 w' y f' (fun b hb=>he b ?_) ho⟩
    rcases List.mem_append.1 hb with h | h <;> simp [h]
   | succ p =>
    obtain ⟨ec',g1,g2,g3,ep,fp,k1,rfl,k3,k4,k5,k6,k7⟩:=p8 h2 k p (by simpa using hk) (by simpa using hp) (by omega)
    refine ⟨ec',f1++g1,g2,g3,ep,fp,by simpa using k1,by simp,tl k ec' k3,fun w' y f' he ho=>?_,by simpa using k5,fun b hb=>?_,tl p ep k7⟩
    ·refine ⟨ec,rest,f1,g1++(f'++g3),rfl,by simp,R.own_ext h1 fun b hb=>he b (by simp [hb]),k4 w' y f' (fun b hb=>he b ?_) ho⟩
     rcases List.mem_append.1 hb with h | h <;> simp [h]
    ·rcases List.mem_append.1 (k6 b hb) with h | h <;> simp [h]
theorem Sat.takeOutF {α:Type} {R:Rep α} {w w0:World} {Γ:List Asn} {E:TypeId} {v:Value} {xs:List α} {g ln cap g9 ln9 cap9 m:Nat} {i p:Int} {u up:α} {ec ep:List Value} (hS:Sat w0 w (Own (aD R E) [v] xs :: Γ)) (hv:v=.slice (some ⟨g,0,none⟩) ln cap) (hv9:v=.slice (some ⟨g9,0,none⟩) ln9 cap9) (h:ix xs i=some u) (hp:ix xs p=some up) (hne:i≠p) (hn:R.sz=m) (hl:ec.length=m) (hlp:ep.length=m)
  (hm:∀ j c,ec[j]? = some c→w.cell? ⟨g,i.toNat*m+j,none⟩=some c) (hmp:∀ j c,ep[j]? = some c→w.cell? ⟨g9,p.toNat*m+j,none⟩=some c) :
  ∃ F Fp,R.own w ep up Fp∧(∀ q∈Fp,q∈F)∧(o9 R E v xs i.toNat ec).holds w F∧Sat w0 w (Own R ec u :: Frz w F :: Γ):=by
 obtain ⟨k,rfl,hk,rfl⟩:=eS h
 obtain ⟨q,rfl,hq,rfl⟩:=eS hp
 subst hv hn
 obtain ⟨rfl,rfl,rfl⟩:g=g9∧ln=ln9∧cap=cap9:=by simpa using hv9
 obtain ⟨hb,_,⟨f0,fr,rfl,hf,hr⟩,hnd,h3'⟩:=hS
 rcases hf with ⟨_,h2,_⟩ | ⟨g',cap',cur,ccs,fe,hv,hg,h1,h2,h3,h4,h5,rfl⟩
 ·subst h2;simp at hk
 obtain ⟨rfl,rfl,rfl⟩:g=g'∧ln=xs.length∧cap=cap':=by simpa using hv
 obtain ⟨ec',f1,f2,f3,ep',fp,k1,rfl,k3,k4,k5,k6,k7⟩:=p8 h5 k q hk hq (by omega)
 have same:∀ (r:Nat) (a b:List Value),a.length=R.sz→b.length=R.sz→(∀ j c,a[j]? = some c→w.cell? ⟨g,(r:Int).toNat*R.sz+j,none⟩=some c)→(∀ j c,b[j]? = some c→ccs[r*R.sz+j]? = some c)→a=b:=fun r a b ha hb' e1 e2=>by
  refine List.ext_getElem (by rw [ha,hb']) fun j hj1 hj2=>?_
  have e1:=e1 j a[j] (List.getElem?_eq_getElem hj1)
  have e2:=e2 j b[j] (List.getElem?_eq_getElem hj2)
  simp only [Int.toNat_natCast] at e1
  rw [cell_of_row w g _ cur E (0,0) hg,← Array.getElem?_toList] at e1
  rw [← h4,List.getElem?_take] at e2
  split at e2
  ·rw [e1] at e2;exact Option.some.inj e2
  ·cases e2
 obtain rfl:=same k ec ec' hl (R.rd_len (R.own_rd k1)) hm k3
 obtain rfl:=same q ep ep' hlp (R.rd_len (R.own_rd k5)) hmp k7
 have hH:(o9 R E (.slice (some ⟨g,0,none⟩) xs.length cap) xs (k:Int).toNat ec).holds w (g :: (f1++f3)):=by
  refine ⟨fun b hb=>?_,fun w' y f' he ho=>⟨g :: (f1++(f'++f3)),?_,.inr ⟨g,cap,cur,ccs,_,by simp,by rw [he g (by simp)];exact hg,by simpa using h1,h2,h3,by simpa using h4,by
   simp only [Int.toNat_natCast]
   exact k4 w' y f' (fun b hb=>he b (List.mem_cons_of_mem _ hb)) ho,rfl⟩⟩⟩
  ·rcases List.mem_cons.1 hb with rfl | hb
   ·exact (Array.getElem?_eq_some_iff.1 hg).1
   ·refine gO h5 b ?_
    rcases List.mem_append.1 hb with h | h <;> simp [h]
  ·refine .trans (.cons _ ?_) List.perm_middle.symm
   rw [← List.append_assoc,← List.append_assoc]
   exact List.Perm.append_right _ List.perm_append_comm
 have hpp:(f2++(g :: (f1++f3)++fr)).Perm ((g :: (f1++(f2++f3)))++fr):=by
  rw [← List.append_assoc]
  refine List.Perm.append_right _ ?_
  refine List.perm_middle.trans (.cons _ ?_)
  rw [← List.append_assoc,← List.append_assoc]
  exact List.Perm.append_right _ List.perm_append_comm
 exact ⟨g :: (f1++f3),fp,k5,fun b hb=>List.mem_cons_of_mem _ (k6 b hb),hH,hb,f2++(g :: (f1++f3)++fr),⟨f2,_,rfl,k1,_,fr,rfl,⟨rfl,fun _ _=>rfl,hH.1⟩,hr⟩,hpp.nodup_iff.2 hnd,fun b hb=>h3' b (hpp.mem_iff.1 hb)⟩
theorem Sat.putBackF {α:Type} {R:Rep α} {w w0 W:World} {Γ:List Asn} {E:TypeId} {v:Value} {F:List Nat} {xs ys:List α} {i:Int} {y:α} {ec:List Value} (hS:Sat w0 w (Own R ec y :: Frz W F :: Γ)) (hh:(o9 R E v xs i.toNat ec).holds W F) (h:sto xs i y=some ys):Sat w0 w (Own (aD R E) [v] ys :: Γ):=by
 have e:ys=xs.set i.toNat y:=by
  unfold sto at h;split at h
  ·exact (Option.some.inj h).symm
  ·cases h
 subst e
 refine hS.joinp fun f g h1 h2=>?_
 obtain ⟨rfl,h3,_⟩:=h2
 exact hh.2 w y f h3 h1
theorem tO {a b:Int} (h:(a != b)=true):a≠b:=by simpa using h
class FreeR {α:Type} (R:Rep α):Prop where
 h:∀ {w w2:World} {cs:List Value} {x:α},R.rd w cs x→R.own w2 cs x []
instance:FreeR bH:=⟨fun h=>⟨h,rfl⟩⟩
instance {α β:Type} {R:Rep α} {S:Rep β} [hR:FreeR R] [hS:FreeR S]:FreeR (f7 R S):=⟨fun h=>by
 obtain ⟨c1,c2,rfl,h1,h2⟩:=h
 exact ⟨c1,c2,[],[],rfl,rfl,hR.h h1,hS.h h2⟩⟩
theorem pv {α:Type} {R:Rep α} [hR:FreeR R] {w w2:World}:∀ {xs:List α} {ccs:List Value},rdL R w ccs xs→eZ R w2 ccs xs []
 | [],_,h=>⟨h,rfl⟩
 | x :: xs,_,h=>by
  obtain ⟨ec,rest,rfl,h1,h2⟩:=h
  exact ⟨ec,rest,[],[],rfl,rfl,hR.h h1,pv h2⟩
theorem mN {α:Type} {R:Rep α} {w:World} {E:TypeId} {v:Value} {xs:List α} (h:(aD R E).rd w [v] xs):∃ ao c ccs,v=.slice ao xs.length c∧(ao=none→c=0)∧kQ w ao ccs∧rdL R w ccs xs:=by
 obtain ⟨ao,cap,ccs,hv,h1,h2,h3,h4,h5⟩:=h
 exact ⟨ao,cap,ccs,by simpa using hv,h3,h5,h4⟩
theorem Sat.freeL {α:Type} {R:Rep α} [FreeR R] {w w0 w2:World} {Γ:List Asn} {ccs:List Value} {xs:List α} (hS:Sat w0 w Γ) (h:rdL R w2 ccs xs):Sat w0 w (my R ccs xs :: Γ):=hS.add (pv h)
section
variable {P:Program} {n:Nat} {ops:Array Oper} {X:List Nat} {C:World→Prop} {K:Env→World→Prop}
theorem uH {o:Oper} {K1 K2:Env→World→Prop} {e:Env} {w:World} (h:∀ e w,K1 e w→K2 e w) (hE:EL P n ops K1 [o] e w):EL P n ops K2 [o] e w:=by
 intro a ha
 have:=hE a ha
 unfold wpList at this ⊢
 have key:∀ a w,wpList P ops (nrm n K1) [] a w→wpList P ops (nrm n K2) [] a w:=by
  rintro a w ⟨h0,e',ha',h2⟩
  exact ⟨h0,e',ha',h _ _ h2⟩
 split
 ·rename_i hw
  rw [if_pos hw] at this
  rcases this with h1 | ⟨_,h1⟩
  ·exact .inl (tf key h1)
  ·exact absurd h1 oJ
 ·rename_i hw
  rw [if_neg hw] at this
  exact key _ _ this
theorem rA {X':List Nat} {C':World→Prop} (hC:∀ j w',(X'.contains j=true→C' w')→X.contains j=true→C w'):∀ (f:Nat) (L:Array Bool) (e:Env) (w:World),AL P n ops X' C' K f L e w→AL P n ops X C K f L e w
 | 0,_,_,_,h=>h
 | f+1,_,_,_,h=>⟨h.1,fun i hi=>by
   obtain ⟨o,ho,hE⟩:=h.2 i hi
   exact ⟨o,ho,uH (fun e' w' h12=>⟨hC i w' h12.1,rA hC _ _ _ _ h12.2⟩) hE⟩⟩
theorem pS (X':List Nat) {f:Nat} {L:Array Bool} {e:Env} {w:World} (h:AL P n ops X' (fun w'=>w'=w) K f L e w):AL P n ops X (fun _=>True) K f L e w:=rA (fun _ _ _ _=>trivial) _ _ _ _ h
theorem eG {o:Oper} {e:Env} {v:Value} {wA:World} (hg:o.guard=none) (h:PV P o e wA v):SV P n ops (fun w'=>w'=wA) o e v:=fun a ha=>.inl ⟨by simp [Region.wanted,hg],fun w' hw'=>by subst hw';rw [ha.eval];exact h _ (Ext.refl _)⟩
theorem dJ {dst:Option Nat} {op:Op} {ty:TypeId} {pos:String} {af:Array Edge} {j:Nat} {b c:Bool} {e:Env} {v:Value} {wA:World} (hy:yld ops e j=some c) (hc:c=b) (h:PV P ⟨dst,op,ty,pos,af,none⟩ e wA v):SV P n ops (fun w'=>w'=wA) ⟨dst,op,ty,pos,af,some (j,b)⟩ e v :=
 uo hy hc fun w' hw'=>by subst hw';exact h
variable {wA w w0:World} {v:Value} {d:Nat} {ty:TypeId} {pos:String} {af:Array Edge} {x y:Operand} {α:Type} {R:Rep α} {E E':TypeId} {f:Nat} {L:Array Bool} {e:Env} {Γ:List Asn}
theorem po {dd:Option Nat} {t:TypeId} [ht:SliceT P t E] {zz:List Value} {m bytes:Nat} [hz:ElemT P E zz m bytes] {xs:List α} (hS:Sat w0 w (Own (aD R E) [v] xs :: Γ)) (hs:ev e x=v)
  (hn:R.sz=m) {k:IntKind} {i:Int} (hi:ev e y=.int k i) {u:α} (h:ix xs i=some u) :
  ∃ g cap ec,v=.slice (some ⟨g,0,none⟩) xs.length cap∧R.rd w ec u∧(∀ j c,ec[j]? = some c→w.cell? ⟨g,i.toNat*m+j,none⟩=some c)∧∀ w',PV P ⟨dd,.indexAddr t x y,ty,pos,af,none⟩ e w' (.pointer (some ⟨g,i.toNat*m,none⟩)):=by
 obtain ⟨k',rfl,hk,rfl⟩:=eS h
 obtain ⟨fp,hv,_⟩:=hS.head
 rcases hv with ⟨_,h2,_⟩ | ⟨g,cap,cur,ccs,f2,hv,hg,h1,h2,h3,h4,h5,rfl⟩
 ·subst h2;simp at hk
 obtain rfl:v=.slice (some ⟨g,0,none⟩) xs.length cap:=by simpa using hv
 obtain ⟨ec,hec,hcc⟩:=lx (hG h5) k' hk
 have hz:=hz.h
 cases hq:P.info? E with
 | none=>simp [hq] at hz
 | some inf =>
  simp [hq] at hz
  have hsz:inf.size=m:=hz.2.1
  refine ⟨g,cap,ec,rfl,hec,?_,?_⟩
  ·intro j c hj
   have h0:=hcc j c hj
   simp only [Int.toNat_natCast]
   rw [cell_of_row w g _ cur E (0,0) hg,← Array.getElem?_toList]
   rw [← h4,List.getElem?_take] at h0
   rw [← hn]
   split at h0
   ·exact h0
   ·cases h0
  ·intro _ w' _
   unfold execOp
   simp [hs,hi,Instr.indexAt,asIntOf,run_underlying ht.h,sizeOf,typeInfo,hq,hk,Addr.add_lit,hsz]
theorem jp (T:List Nat) (hsel:jm ops=true) (i':Nat) {t:TypeId} [SliceT P t E] {zz:List Value} {m bytes:Nat} [ElemT P E zz m bytes] {xs:List α} (hi':ops[i']? = some ⟨some d,.indexAddr t x y,ty,pos,af,none⟩) (hC:C w) (hf:kh ops X T L i' ⟨some d,.indexAddr t x y,ty,pos,af,none⟩=true) (hrd:(Region.ready .any ops L).contains i'=true)
  (hS:Sat w0 w (Own (aD R E) [v] xs :: Γ)) (hs:ev e x=v) (hn:R.sz=m) {k:IntKind} {i:Int} (hi:ev e y=.int k i) {u:α} (h:ix xs i=some u) (hd:d<n)
  (hK:∀ g cap ec,v=.slice (some ⟨g,0,none⟩) xs.length cap→R.rd w ec u→(∀ j c,ec[j]? = some c→w.cell? ⟨g,i.toNat*m+j,none⟩=some c)→AL P n ops X C K f (L.setIfInBounds i' true) (upd e d (.pointer (some ⟨g,i.toNat*m,none⟩))) w):AL P n ops X C K (f+1) L e w:=by
 obtain ⟨g,cap,ec,h1,h2,h3,h4⟩:=po (P:=P) (dd:=some d) (ty:=ty) (pos:=pos) (af:=af) (t:=t) hS hs hn hi h
 exact aL T hsel i' hi' rfl hd hC hf hrd (ap rfl fun w' _=>h4 w') (hK g cap ec h1 h2 h3)
theorem i8 (T:List Nat) (hsel:jm ops=true) (i':Nat) {t:TypeId} [SliceT P t E] {zz:List Value} {m bytes:Nat} [ElemT P E zz m bytes] {xs:List α} {j':Nat} {bb cc:Bool} (hi':ops[i']? = some ⟨some d,.indexAddr t x y,ty,pos,af,some (j',bb)⟩) (hC:C w) (hf:kh ops X T L i' ⟨some d,.indexAddr t x y,ty,pos,af,some (j',bb)⟩=true) (hrd:(Region.ready .any ops L).contains i'=true)
  (hy':yld ops e j'=some cc) (hcc:cc=bb) (hS:Sat w0 w (Own (aD R E) [v] xs :: Γ)) (hs:ev e x=v) (hn:R.sz=m) {k:IntKind} {i:Int} (hi:ev e y=.int k i) {u:α} (h:ix xs i=some u) (hd:d<n)
  (hK:∀ g cap ec,v=.slice (some ⟨g,0,none⟩) xs.length cap→R.rd w ec u→(∀ j c,ec[j]? = some c→w.cell? ⟨g,i.toNat*m+j,none⟩=some c)→AL P n ops X C K f (L.setIfInBounds i' true) (upd e d (.pointer (some ⟨g,i.toNat*m,none⟩))) w):AL P n ops X C K (f+1) L e w:=by
 obtain ⟨g,cap,ec,h1,h2,h3,h4⟩:=po (P:=P) (dd:=some d) (ty:=ty) (pos:=pos) (af:=af) (t:=t) hS hs hn hi h
 exact aL T hsel i' hi' rfl hd hC hf hrd (uo hy' hcc fun w' _=>h4 w') (hK g cap ec h1 h2 h3)
theorem nL (T:List Nat) (hsel:jm ops=true) (i:Nat) {t:TypeId} [SliceT P t E'] {zz:List Value} {m bytes:Nat} [ElemT P E' zz m bytes] {xs:List α} {j':Nat} {bb cc:Bool} (hi':ops[i]? = some ⟨some d,.indexAddr t x y,ty,pos,af,some (j',bb)⟩) (hC:C w) (hf:kh ops X T L i ⟨some d,.indexAddr t x y,ty,pos,af,some (j',bb)⟩=true) (hrd:(Region.ready .any ops L).contains i=true)
  (hy':yld ops e j'=some cc) (hcc:cc=bb) (hs:ev e x=v) (hr:(aD R E).rd wA [v] xs) (hn:R.sz=m) (hpos:0<m) {k:IntKind} {j:Int} (hi:ev e y=.int k j) {u:α} (h:ix xs j=some u) (hd:d<n)
  (hK:∀ b off ec,R.rd wA ec u→(∀ j c,ec[j]? = some c→wA.cell? ⟨b,off+j,none⟩=some c)→AL P n ops X C K f (L.setIfInBounds i true) (upd e d (.pointer (some ⟨b,off,none⟩))) w):AL P n ops X C K (f+1) L e w:=by
 obtain ⟨b,off,ec,h1,h2,h3⟩:=lT (P:=P) (d:=some d) (ty:=ty) (pos:=pos) (af:=af) (t:=t) hs hr hn hpos hi h
 exact aL T hsel i hi' rfl hd hC hf hrd (uo hy' hcc fun w' _=>h3 w') (hK b off ec h1 h2)
end
theorem sh {P:Program} {e:Env} {W:World} {α:Type} {R:Rep α} {E:TypeId} {v:Value} {x y:Operand} {ty:TypeId} {pos:String} {af:Array Edge} {F:List Nat} {d:Option Nat} {t:TypeId} [ht:SliceT P t E] {zz:List Value} {m bytes:Nat} [hz:ElemT P E zz m bytes] {xs ys:List α} {l h:Int} (hs:ev e x=dh m v l h) (hr:(aD R E).own W [v] xs F)
  (hn:R.sz=m) (hq:slc xs l h=some ys) {k:IntKind} {i:Int} (hi:ev e y=.int k i) {u:α} (hu:ix ys i=some u) :
  ∃ b off ec F2,R.own W ec u F2∧(∀ q∈F2,q∈F)∧b∈F∧(∀ j c,ec[j]? = some c→W.cell? ⟨b,off+j,none⟩=some c)∧∀ w,PV P ⟨d,.indexAddr t x y,ty,pos,af,none⟩ e w (.pointer (some ⟨b,off,none⟩)):=by
 obtain ⟨l',h',rfl,rfl,hlh,hh,rfl⟩:=lX hq
 obtain ⟨k',rfl,hk,rfl⟩:=eS hu
 rcases hr with ⟨_,h2,_⟩ | ⟨g,cap,cur,ccs,f2,hv,hg,h1,h2,h3,h4,h5,rfl⟩
 ·subst h2;simp at hk
 obtain rfl:v=.slice (some ⟨g,0,none⟩) xs.length cap:=by simpa using hv
 have hk2:k'<h' - l':=by simpa [Nat.min_eq_left hh] using hk
 have hne:cap≠l':=by omega
 have hk3:l'+k'<xs.length:=by omega
 have hel:((xs.take h').drop l')[k']=xs[l'+k']:=by simp
 obtain ⟨ec,f1,f2',f3,k1,rfl,k3,_⟩:=jX h5 (l'+k') hk3
 have hz:=hz.h
 cases hq:P.info? E with
 | none=>simp [hq] at hz
 | some inf =>
  simp [hq] at hz
  have hsz:inf.size=m:=hz.2.1
  rw [hel]
  refine ⟨g,l'*m+k'*m,ec,f2',k1,fun q hq=>by simp [hq],by simp,fun j c hj=>?_,fun w w' _=>?_⟩
  ·have h0:=k3 j c hj
   rw [cell_of_row W g _ cur E (0,0) hg,← Array.getElem?_toList]
   rw [← h4,List.getElem?_take] at h0
   rw [← hn,← Nat.add_mul]
   split at h0
   ·exact h0
   ·cases h0
  ·unfold execOp
   simp [hs,dh,hne,hi,Instr.indexAt,asIntOf,run_underlying ht.h,sizeOf,typeInfo,hq,hk2,Addr.add_add,hsz]
   simp only [Addr.add]
   split
   ·rename_i h0;rw [h0]
   ·simp
theorem rS {P:Program} {n:Nat} {ops:Array Oper} {K:Env→World→Prop} {rest:List Oper} {e:Env} {w W:World} {α:Type} {R:Rep α} {E:TypeId} {v:Value} {x y:Operand} {ty:TypeId} {pos:String} {af:Array Edge} {F:List Nat} {d:Nat} {t:TypeId} [SliceT P t E] {zz:List Value} {m bytes:Nat} [ElemT P E zz m bytes] {xs ys:List α} {l h:Int} (hs:ev e x=dh m v l h) (hr:(aD R E).own W [v] xs F)
  (hn:R.sz=m) (hq:slc xs l h=some ys) {k:IntKind} {i:Int} (hi:ev e y=.int k i) {u:α} (hu:ix ys i=some u) (hd:d<n)
  (hK:∀ b off ec F2,R.own W ec u F2→(∀ q∈F2,q∈F)→b∈F→(∀ j c,ec[j]? = some c→W.cell? ⟨b,off+j,none⟩=some c)→EL P n ops K rest (upd e d (.pointer (some ⟨b,off,none⟩))) w):EL P n ops K (⟨some d,.indexAddr t x y,ty,pos,af,none⟩ :: rest) e w:=by
 obtain ⟨b,off,ec,F2,h1,h2,h3,h4,h5⟩:=sh (P:=P) (d:=some d) (ty:=ty) (pos:=pos) (af:=af) (t:=t) hs hr hn hq hi hu
 exact kn (h5 _) hd (hK b off ec F2 h1 h2 h3 h4)
class NoFp {α:Type} (R:Rep α):Prop where
 h:∀ {w cs x fp},R.own w cs x fp→fp=[]
instance:NoFp bH:=⟨fun h=>h.2⟩
instance {α β:Type} {A:Rep α} {B:Rep β} [hA:NoFp A] [hB:NoFp B]:NoFp (f7 A B):=⟨fun h=>by
 obtain ⟨_,_,f1,f2,_,rfl,h1,h2⟩:=h
 rw [hA.h h1,hB.h h2];rfl⟩
abbrev R0_:=aD bH 3
abbrev R1_:=f7 bH bH
abbrev R2_:=aD R0_ 23
abbrev R3_:=f7 jn R0_
abbrev R4_:=aD R1_ 71
abbrev R5_:=aD R3_ 47
abbrev R6_:=aD R3_ 64
abbrev R7_:=aD R4_ 39
abbrev T0_:=List Int
abbrev T1_:=Int × Int
abbrev T2_:=List T1_
abbrev T3_:=ByteArray × List Int
abbrev T4_:=List T2_
abbrev T5_:=List T2_ × List T1_ × List T1_
section
set_option maxRecDepth 100000
set_option maxHeartbeats 4000000
theorem lg {w0:World} {u0:Value} {a0:List Int} {a1:Int} (ha0:R0_.rd w0 [u0] a0) {N:Nat} {r:Int} (F:iE N a0 a1=some r): Calls Tryd.prog 12 #[u0,i_ a1] w0 fun e w'=>e=.returned (i_ r)∧Ext w0 w' := by
 unfold iE at F;refine aJ Tryd.func12 rfl rfl dt ?_;have S:=Sat.start w0;refine sR fun _ zE=>pa (i_ 0) (en zE (sR fun _ zF=>pm (i_ a1) (pm u0 (pe (i_ (a0.length:Int)) (az rfl ha0) (oB F fun J zD F=>pe (i_ J) (eV rfl rfl zD) (pa (i_ J) (en zF (sg fun _ zC=>sR fun _ zG=>pm (i_ J) (pe (.bool (decide (J < 0))) (aG rfl rfl) (en zG (oF F (fun U F=>?_) fun U F=>?_)))))))))))
 ·refine ct U (sR fun _ zH=>pa (i_ (-1)) (en zH (ae (tr zC (aF rfl rfl ?_)))));exact rI F S
 refine cf U (sn zC (sR fun _ zI=>pm (i_ J) (pa (i_ J) (en zI (ae (aF rfl rfl ?_))))));exact rI F S
theorem oZ {w0:World} {a0:ByteArray} {u1:Value} {a1:List Int} {a2:Int} (_:a0.size ≤ 9223372036854775807) (ha1:R0_.rd w0 [u1] a1) {N:Nat} {r:Int} (F:hO N a0 a1 a2=some r): Calls Tryd.prog 19 #[.agg #[.string a0,u1],i_ a2] w0 fun e w'=>e=.returned (i_ r)∧Ext w0 w' := by
 unfold hO at F;refine aJ Tryd.func19 rfl rfl dt ?_;have S:=Sat.start w0;refine sR fun _ zJ=>?_;refine be [.string a0,u1] rfl S dt ?_;intro zT zE S zR;refine pa (i_ 0) (en zJ (sR fun _ zK=>pm (i_ a2) (pe (pt zE (0 + 0)) (aa rfl) (pe (.string a0) (ab rfl ((S.boxAt 0 rfl) 0 _ rfl)) (pe (i_ (a0.size:Int)) (ku Tryd.underlying9 rfl) (oB F fun J zH F=>pe (i_ J) (eV rfl rfl zH) (pa (i_ J) (en zK (sg fun _ zF=>sR fun _ zL=>pm (i_ J) (pe (.bool (decide (J < 0))) (aG rfl rfl) (en zL (oF F (fun zC F=>?_) fun zC F=>?_))))))))))))
 ·refine ct zC (sg fun _ zM=>?_);replace S:=S.r0;refine ac (pa (i_ (-1)) (en zM (ae (tr zF (aF rfl rfl ?_)))));exact rI F S
 refine cf zC (sn zF (sR fun _ zN=>pe (pt zE (0 + 1)) (aa rfl) (pe u1 (ab rfl ((S.boxAt 0 rfl) 1 _ rfl)) (pm (i_ J) (oB F fun U zI F=>?_)))));refine ec0 tz (lg (S.up ha1) zI) (ca (ag rfl (ag rfl rfl))) S fun zU zS S=>?_;refine pa (i_ U) (en zN (sg fun _ zG=>sg fun _ zO=>?_));replace S:=S.r0;refine ac (pm (i_ U) (pe (.bool (decide (U < 0))) (aG rfl rfl) (en zO (oF F (fun zD F=>?_) fun zD F=>?_))))
 ·refine ct zD (sR fun _ zP=>pa (i_ (-1)) (en zP (ae (tr zG (aF rfl rfl ?_)))));exact rI F S
 refine cf zD (sn zG (sR fun _ zQ=>pm (i_ U) (pa (i_ U) (en zQ (ae (aF rfl rfl ?_))))));exact rI F S
theorem oz {w0:World} {u0:Value} {a0:List T3_} {a1:Int} (ha0:R5_.rd w0 [u0] a0) {N:Nat} {r:Int} (F:iY N a0 a1=some r): Calls Tryd.prog 11 #[u0,i_ a1] w0 fun e w'=>e=.returned (i_ r)∧Ext w0 w' := by
 unfold iY at F;refine aJ Tryd.func11 rfl rfl dt ?_;have S:=Sat.start w0;refine sR fun _ z8=>pa (i_ 0) (en z8 (sR fun _ z9=>pm (i_ a1) (pm u0 (pe (i_ (a0.length:Int)) (az rfl ha0) (oB F fun zC zW F=>pe (i_ zC) (eV rfl rfl zW) (pa (i_ zC) (en z9 (sg fun _ zO=>sR fun _ Aa=>pm (i_ zC) (pe (.bool (decide (zC < 0))) (aG rfl rfl) (en Aa (oF F (fun zD F=>?_) fun zD F=>?_)))))))))))
 ·refine ct zD (sR fun _ Ab=>pa (i_ (-1)) (en Ab (ae (tr zO (aF rfl rfl ?_)))));exact rI F S
 refine cf zD (sn zO (sg fun _ zP=>sR fun _ Ac=>pa (i_ 0) (en Ac (bg fun _ zQ=>?_))));obtain ⟨Ad,hL,zL⟩:=ob F;refine aC (fun k e w=>∃ (U:Int),∃ (J:Int),e 0=u0∧e 1=i_ U∧e 5=i_ J∧Sat w0 w []∧gX N k a0 U J=some Ad) N ?_ ?_ ?_
 ·exact ⟨zC,0,rfl,rfl,rfl,S,hL⟩
 ·rintro e w ⟨_,_,_,_,_,_,hz⟩; exact nn hz
 rintro k Al Am ⟨U,J,zE,zM,zF,S,F⟩;refine gn fun _ zJ=>sg fun _ zR=>sR fun _ Ae=>pM (i_ J) zF (pM u0 zE (pe (i_ (a0.length:Int)) (az rfl ha0) (pe (.bool (decide (J < (a0.length:Int)))) (aG rfl rfl) (en Ae (oF F (fun zG F=>?_) fun zG F=>?_)))))
 ·refine ct zG (sn zR (sg fun _ zS=>bg fun _ zT=>sR fun _ Af=>pM u0 zE (pM (i_ J) zF (oB F fun zU zX F=>?_))));refine aU (wA:=w0) rfl ha0 rfl dt rfl zX dt ?_;intro An Aj Ao zY zZ;obtain ⟨_,_,rfl,z4,zN⟩:=zY;obtain ⟨rfl,z5⟩:=z4;obtain ⟨zV,rfl⟩:=aN zN;refine pe (.agg #[.string zU.1,zV]) (an (cs:=[.string zU.1,zV]) rfl rfl (aw S.below zZ)) (pM (i_ U) zM (oB F fun zH z6 F=>?_));refine ec0 wK (oZ z5 (S.up zN) z6) (ca (ag rfl (ag rfl rfl))) S fun Ap Ak S=>?_;refine pa (i_ zH) (en Af (sR fun _ Ag=>pm (i_ zH) (pe (.bool (decide (zH < 0))) (aG rfl rfl) (en Ag (oF F (fun zI F=>?_) fun zI F=>?_)))))
  ·refine ct zI (sR fun _ Ah=>pa (i_ (-1)) (en Ah (ae (br zT (tr zS (tr zJ (br zQ (tr zP ?_))))))));replace F:=exL F zL;refine aF rfl rfl ?_;exact rI F S
  refine cf zI (bk (bn zT (tn zS (ac (pM (i_ J) zF (oB F fun zK z7 F=>pe (i_ zK) (aE rfl rfl z7) (pa (i_ zK) (en zJ ?_))))))));replace S:=S.keep 0;exact ⟨zH,zK,zE,rfl,rfl,S,F⟩
 refine cf zG (aH (tx zR (tx zJ ?_)));replace F:=exA F zL;refine bS zQ (tn zP (sR fun _ Ai=>pM (i_ U) zM (pa (i_ U) (en Ai (ae (aF rfl rfl ?_))))));exact rI F S
theorem nX {w0:World} {a0:Int} {u1:Value} {a1:List T3_} {u2:Value} {a2:List Int} {a3:Int} (ha1:R5_.rd w0 [u1] a1) (ha2:R0_.rd w0 [u2] a2) {N:Nat} {r:Int} (F:iU N a0 a1 a2 a3=some r): Calls Tryd.prog 4 #[.agg #[i_ a0,u1,u2],i_ a3] w0 fun e w'=>e=.returned (i_ r)∧Ext w0 w' := by
 unfold iU at F;refine aJ Tryd.func4 rfl rfl dt ?_;have S:=Sat.start w0;refine sR fun _ zJ=>?_;refine be [i_ a0,u1,u2] rfl S dt ?_;intro zU zE S zR;refine pa (i_ 0) (en zJ (sR fun _ zK=>pe (pt zE (0 + 1)) (aa rfl) (pe u1 (ab rfl ((S.boxAt 0 rfl) 1 _ rfl)) (pm (i_ a3) (oB F fun U zH F=>?_)))));refine ec0 xi (oz (S.up ha1) zH) (ca (ag rfl (ag rfl rfl))) S fun zV zS S=>?_;refine pa (i_ U) (en zK (sg fun _ zF=>sR fun _ zL=>pm (i_ U) (pe (.bool (decide (U < 0))) (aG rfl rfl) (en zL (oF F (fun zC F=>?_) fun zC F=>?_)))))
 ·refine ct zC (sg fun _ zM=>?_);replace S:=S.r0;refine ac (pa (i_ (-1)) (en zM (ae (tr zF (aF rfl rfl ?_)))));exact rI F S
 refine cf zC (sn zF (sR fun _ zN=>pe (pt zE (0 + 2)) (aa rfl) (pe u2 (ab rfl ((S.boxAt 0 rfl) 2 _ rfl)) (pm (i_ U) (oB F fun J zI F=>?_)))));refine ec0 tz (lg (S.up ha2) zI) (ca (ag rfl (ag rfl rfl))) S fun zW zT S=>?_;refine pa (i_ J) (en zN (sg fun _ zG=>sg fun _ zO=>?_));replace S:=S.r0;refine ac (pm (i_ J) (pe (.bool (decide (J < 0))) (aG rfl rfl) (en zO (oF F (fun zD F=>?_) fun zD F=>?_))))
 ·refine ct zD (sR fun _ zP=>pa (i_ (-1)) (en zP (ae (tr zG (aF rfl rfl ?_)))));exact rI F S
 refine cf zD (sn zG (sR fun _ zQ=>pm (i_ J) (pa (i_ J) (en zQ (ae (aF rfl rfl ?_))))));exact rI F S
theorem dl {w0:World} {a0:Int} {a1:Int} {a2:Int}  {N:Nat} {r:Bool} (F:cx N a0 a1 a2=some r): Calls Tryd.prog 21 #[i_ a0,i_ a1,i_ a2] w0 fun e w'=>e=.returned (.bool r)∧Ext w0 w' := by
 unfold cx at F;refine aJ Tryd.func21 rfl rfl dt ?_;have S:=Sat.start w0;refine sR fun _ zC=>pa (.bool false) (en zC (sR fun _ U=>pm (i_ a0) (pm (i_ a1) (pe (.bool (decide (a1 ≤ a0))) (lz rfl rfl) (pm (.bool (decide (a1 ≤ a0))) (oF F (fun J F=>?_) fun J F=>?_))))))
 ·refine ei J (pm (i_ a0) (ei J (pm (i_ a2) (ei J (pe (.bool (decide (a0 ≤ a2))) (kI rfl rfl) (pe (.bool (decide (a0 ≤ a2))) (ar rfl J rfl) (pa (.bool (decide (a0 ≤ a2))) (en U (ae (aF rfl rfl ?_))))))))));exact rB F S
 refine eo J (eo J (eo J (pe (.bool false) (au rfl J rfl) (pa (.bool false) (en U (ae (aF rfl rfl ?_)))))));exact rB F S
theorem i3 {w0:World} {a0:ByteArray} {u1:Value} {a1:List Int} {a2:Int} (_:a0.size ≤ 9223372036854775807) (ha1:R0_.rd w0 [u1] a1) {N:Nat} {r:Bool} (F:eF N a0 a1 a2=some r): Calls Tryd.prog 37 #[.agg #[.string a0,u1],i_ a2] w0 fun e w'=>e=.returned (.bool r)∧Ext w0 w' := by
 unfold eF at F;refine aJ Tryd.func37 rfl rfl dt ?_;have S:=Sat.start w0;refine sR fun _ zU=>?_;refine be [.string a0,u1] rfl S dt ?_;intro z7 U S z5;refine pa (.bool false) (en zU (sg fun _ zK=>sR fun _ zV=>pa (i_ 0) (en zV (bg fun _ zL=>?_))));obtain ⟨zW,hL,zI⟩:=ob F;refine aC (fun k e w=>∃ (J:Int),e 1=i_ a2∧e 2=pt U 0∧e 5=i_ J∧Sat w0 w [Box U 64 [.string a0,u1]]∧cd N k a2 a0 a1 J=some zW) N ?_ ?_ ?_
 ·exact ⟨0,rfl,rfl,rfl,S,hL⟩
 ·rintro e w ⟨_,_,_,_,_,hz⟩; exact nn hz
 rintro k z8 z9 ⟨J,zJ,zC,zD,S,F⟩;refine gn fun _ zG=>sg fun _ zM=>sR fun _ zX=>pM (i_ J) zD (pe (pt U (0 + 1)) (aa zC) (pe u1 (ab rfl ((S.boxAt 0 rfl) 1 _ rfl)) (pe (i_ (a1.length:Int)) (az rfl ha1) (pe (.bool (decide (J < (a1.length:Int)))) (aG rfl rfl) (en zX (oF F (fun zE F=>?_) fun zE F=>?_))))))
 ·refine ct zE (sn zM (sg fun _ zN=>bg fun _ zO=>sR fun _ zY=>pe (pt U (0 + 1)) (aa zC) (pe u1 (ab rfl ((S.boxAt 0 rfl) 1 _ rfl)) (pM (i_ J) zD (oB F fun zP zQ F=>?_)))));refine aU (wA:=w0) rfl ha1 rfl dt rfl zQ dt ?_;intro Aa z6 Ab zR zS;obtain rfl:=zR;refine pe (i_ zP) (ab rfl ((aw S.below zS) 0 _ rfl)) (pM (i_ a2) zJ (pe (.bool (zP == a2)) (dx rfl rfl) (en zY (oF F (fun zF F=>?_) fun zF F=>?_))))
  ·refine ct zF (sg fun _ zZ=>?_);replace S:=S.r0;refine ac (pa (.bool true) (en zZ (ae (br zO (tr zN (tr zG (br zL (tr zK ?_))))))));replace F:=exL F zI;refine aF rfl rfl ?_;exact rB F S
  refine cf zF (bk (bn zO (tn zN (ac (pM (i_ J) zD (oB F fun zH zT F=>pe (i_ zH) (aE rfl rfl zT) (pa (i_ zH) (en zG ?_))))))));replace S:=S.keep 1;exact ⟨zH,zJ,zC,rfl,S,F⟩
 refine cf zE (aH (tx zM (tx zG ?_)));replace F:=exA F zI;refine bS zL (tn zK (sg fun _ z4=>?_));replace S:=S.r0;refine ac (pa (.bool false) (en z4 (ae (aF rfl rfl ?_))));exact rB F S
theorem mi {w0:World} {a0:ByteArray} (_:a0.size ≤ 9223372036854775807) {N:Nat} {r:Bool} (F:gA N a0=some r): Calls Tryd.prog 57 #[.string a0] w0 fun e w'=>e=.returned (.bool r)∧Ext w0 w' := by
 unfold gA at F;refine aJ Tryd.func57 rfl rfl dt ?_;have S:=Sat.start w0;refine sR fun _ zV=>pa (.bool false) (en zV (sg fun _ zI=>sR fun _ zW=>pa (i_ 0) (en zW (bg fun _ zJ=>?_))));obtain ⟨zX,hL,zE⟩:=ob F;refine aC (fun k e w=>∃ (U:Int),e 0=.string a0∧e 3=i_ U∧Sat w0 w []∧eR N k a0 U=some zX) N ?_ ?_ ?_
 ·exact ⟨0,rfl,rfl,S,hL⟩
 ·rintro e w ⟨_,_,_,_,hz⟩; exact nn hz
 rintro k z8 z9 ⟨U,zC,zD,S,F⟩;refine gn fun _ zF=>sg fun _ zP=>sR fun _ zY=>pM (i_ U) zD (pM (.string a0) zC (pe (i_ (a0.size:Int)) (ku Tryd.underlying9 rfl) (pe (.bool (decide (U < (a0.size:Int)))) (aG rfl rfl) (en zY (oF F (fun zG F=>?_) fun zG F=>?_)))))
 ·refine ct zG (sn zP (sg fun _ zK=>bg fun _ zL=>sR fun _ zQ=>pM (.string a0) zC (pM (i_ U) zD (oB F fun zM zR F=>pe (.int .u8 zM) (pU Tryd.underlying9 rfl rfl zR) (pe (.bool (decide (zM < 97))) (aG rfl rfl) (pm (.bool (decide (zM < 97))) (oF F (fun J F=>?_) fun J F=>?_)))))))
  ·refine eo J (eo J (eo J (eo J (pe (.bool true) (ar rfl J rfl) (en zQ (ct rfl (sR fun _ zZ=>pa (.bool false) (en zZ (ae (br zL (tr zK (tr zF (br zJ (tr zI ?_))))))))))))));replace F:=exL F zE;refine aF rfl rfl ?_;exact rB F S
  refine ei J (pM (.string a0) zC (ei J (pM (i_ U) zD (ei J (oB F fun zN zS F=>pe (.int .u8 zN) (pU Tryd.underlying9 rfl rfl zS) (ei J (pe (.bool (decide (122 < zN))) (et rfl rfl) (pe (.bool (decide (122 < zN))) (au rfl J rfl) (en zQ (oF F (fun zH F=>?_) fun zH F=>?_))))))))))
  ·refine ct zH (sR fun _ z4=>pa (.bool false) (en z4 (ae (br zL (tr zK (tr zF (br zJ (tr zI ?_))))))));replace F:=exL F zE;refine aF rfl rfl ?_;exact rB F S
  refine cf zH (bk (bn zL (tn zK (ac (pM (i_ U) zD (oB F fun zO zT F=>pe (i_ zO) (aE rfl rfl zT) (pa (i_ zO) (en zF ?_))))))));replace S:=S.keep 0;exact ⟨zO,zC,rfl,S,F⟩
 refine cf zG (aH (tx zP (tx zF ?_)));replace F:=exA F zE;refine bS zJ (tn zI (sR fun _ z5=>pM (.string a0) zC (pe (i_ (a0.size:Int)) (ku Tryd.underlying9 rfl) (oB F fun z6 zU F=>?_))));refine ec0 gw (dl zU) (ca (ag rfl (ag rfl (ag rfl rfl)))) S fun Aa z7 S=>?_;refine pa (.bool z6) (en z5 (ae (aF rfl rfl ?_)));exact rB F S
theorem o8 {w0:World} {u0:Value} {a0:List Int} {a1:Int} (ha0:R0_.rd w0 [u0] a0) {N:Nat} {r:Int} (F:jj N a0 a1=some r): Calls Tryd.prog 58 #[u0,i_ a1] w0 fun e w'=>e=.returned (i_ r)∧Ext w0 w' := by
 unfold jj at F;refine aJ Tryd.func58 rfl rfl dt ?_;have S:=Sat.start w0;refine sR fun _ zT=>pa (i_ 0) (en zT (sg fun _ zJ=>sR fun _ zU=>pa (i_ 0) (en zU (bg fun _ zK=>?_))));obtain ⟨zV,hL,zH⟩:=ob F;refine aC (fun k e w=>∃ (J:Int),e 0=u0∧e 1=i_ a1∧e 5=i_ J∧Sat w0 w []∧ik N k a0 a1 J=some zV) N ?_ ?_ ?_
 ·exact ⟨0,rfl,rfl,rfl,S,hL⟩
 ·rintro e w ⟨_,_,_,_,_,hz⟩; exact nn hz
 rintro k z5 z6 ⟨J,zC,zI,U,S,F⟩;refine gn fun _ zF=>sg fun _ zL=>sR fun _ zW=>pM (i_ J) U (pM u0 zC (pe (i_ (a0.length:Int)) (az rfl ha0) (pe (.bool (decide (J < (a0.length:Int)))) (aG rfl rfl) (en zW (oF F (fun zD F=>?_) fun zD F=>?_)))))
 ·refine ct zD (sn zL (sg fun _ zM=>bg fun _ zN=>sR fun _ zX=>pM u0 zC (pM (i_ J) U (oB F fun zO zP F=>?_))));refine aU (wA:=w0) rfl ha0 rfl dt rfl zP dt ?_;intro z7 z4 z8 zQ zR;obtain rfl:=zQ;refine pe (i_ zO) (ab rfl ((aw S.below zR) 0 _ rfl)) (pM (i_ a1) zI (pe (.bool (zO == a1)) (dx rfl rfl) (en zX (oF F (fun zE F=>?_) fun zE F=>?_))))
  ·refine ct zE (sR fun _ zY=>pM (i_ J) U (pa (i_ J) (en zY (ae (br zN (tr zM (tr zF (br zK (tr zJ ?_)))))))));replace F:=exL F zH;refine aF rfl rfl ?_;exact rI F S
  refine cf zE (bk (bn zN (tn zM (ac (pM (i_ J) U (oB F fun zG zS F=>pe (i_ zG) (aE rfl rfl zS) (pa (i_ zG) (en zF ?_))))))));replace S:=S.keep 0;exact ⟨zG,zC,zI,rfl,S,F⟩
 refine cf zD (aH (tx zL (tx zF ?_)));replace F:=exA F zH;refine bS zK (tn zJ (sR fun _ zZ=>pa (i_ (-1)) (en zZ (ae (aF rfl rfl ?_)))));exact rI F S
theorem mb {w0:World} {a0:Int} {u1:Value} {a1:List T3_} {u2:Value} {a2:List Int} (ha1:R6_.rd w0 [u1] a1) (ha2:R0_.rd w0 [u2] a2) {N:Nat} {r:Bool} (F:gj N a0 a1 a2=some r): Calls Tryd.prog 36 #[.agg #[i_ a0,u1,u2]] w0 fun e w'=>e=.returned (.bool r)∧Ext w0 w' := by
 unfold gj at F;refine aJ Tryd.func36 rfl rfl dt ?_;have S:=Sat.start w0;refine sR fun _ B5=>?_;refine be [i_ a0,u1,u2] rfl S dt ?_;intro C3 U S CP;refine pa (.bool false) (en B5 (sg fun _ zX=>sR fun _ Ak=>pe (pt U (0 + 0)) (aa rfl) (pe (i_ a0) (ab rfl ((S.boxAt 0 rfl) 0 _ rfl)) (oB F fun AM A9 F=>?_))));refine ec0 gw (dl A9) (ca (ag rfl (ag rfl (ag rfl rfl)))) S fun C4 CQ S=>?_;refine pe (.bool (!AM)) (aK rfl) (pm (.bool (!AM)) (oF F (fun zF F=>?_) fun zF F=>?_))
 ·refine ei (ai zF) (pe (pt U (0 + 1)) (aa rfl) (ei (ai zF) (pe u1 (ab rfl ((S.boxAt 0 rfl) 1 _ rfl)) (ei (ai zF) (pe (i_ (a1.length:Int)) (az rfl ha1) (ei (ai zF) (oB F fun Al Ba F=>?_)))))));refine ec0 gw (dl Ba) (ca (ag rfl (ag rfl (ag rfl rfl)))) S fun C5 CR S=>?_;refine ei (ai zF) (pe (.bool (!Al)) (aK rfl) (pe (.bool (!Al)) (au rfl (ai zF) rfl) (pm (.bool (!Al)) (oF F (fun zE F=>?_) fun zE F=>?_))))
  ·refine ei (ai zE) (pe (pt U (0 + 2)) (aa rfl) (ei (ai zE) (pe u2 (ab rfl ((S.boxAt 0 rfl) 2 _ rfl)) (ei (ai zE) (pe (i_ (a2.length:Int)) (az rfl ha2) (ei (ai zE) (pe (pt U (0 + 0)) (aa rfl) (ei (ai zE) (pe (i_ a0) (ab rfl ((S.boxAt 0 rfl) 0 _ rfl)) (ei (ai zE) (pe (.bool (decide (a0 < (a2.length:Int)))) (et rfl rfl) (pe (.bool (decide (a0 < (a2.length:Int)))) (au rfl (ai zE) rfl) (en Ak (oF F (fun zY F=>?_) fun zY F=>?_))))))))))))))
   ·refine ct zY (sg fun _ B6=>?_);replace S:=S.r0;refine ac (pa (.bool false) (en B6 (ae (tr zX (aF rfl rfl ?_)))));exact rB F S
   refine cf zY (sn zX (sg fun _ zZ=>sR fun _ B7=>pa (i_ 0) (en B7 (bg fun _ z4=>?_))));obtain ⟨B8,hL,zR⟩:=ob F;refine aC (fun k e w=>∃ (zG:Int),e 1=pt U 0∧e 3=i_ zG∧Sat w0 w [Box U 31 [i_ a0,u1,u2]]∧cZ N k a0 a1 a2 zG=some B8) N ?_ ?_ ?_
   ·exact ⟨0,rfl,rfl,S,hL⟩
   ·rintro e w ⟨_,_,_,_,hz⟩; exact nn hz
   rintro k C6 C7 ⟨zG,zN,zS,S,F⟩;refine gn fun _ zW=>sg fun _ AN=>sR fun _ B9=>pM (i_ zG) zS (pe (pt U (0 + 1)) (aa zN) (pe u1 (ab rfl ((S.boxAt 0 rfl) 1 _ rfl)) (pe (i_ (a1.length:Int)) (az rfl ha1) (pe (.bool (decide (zG < (a1.length:Int)))) (aG rfl rfl) (en B9 (oF F (fun z5 F=>?_) fun z5 F=>?_))))))
   ·refine ct z5 (sn AN (sg fun _ z6=>bg fun _ z7=>sg fun _ Am=>sR fun _ AO=>pe (pt U (0 + 1)) (aa zN) (pe u1 (ab rfl ((S.boxAt 0 rfl) 1 _ rfl)) (pM (i_ zG) zS (oB F fun Ca Bb F=>?_)))));refine aU (wA:=w0) rfl ha1 rfl dt rfl Bb dt ?_;intro Cb Bc C8 Bd Be;obtain ⟨_,_,rfl,Bf,Bg⟩:=Bd;obtain ⟨rfl,Bh⟩:=Bf;obtain ⟨C9,rfl⟩:=aN Bg;refine pe (pt Cb (Bc + 0)) (aa rfl) (pe (.string Ca.1) (ab rfl ((aw S.below Be) 0 _ rfl)) (oB F fun AP Bi F=>?_));refine ec0 w7 (mi Bh Bi) (ca (ag rfl rfl)) S fun Da CS S=>?_;refine pe (.bool (!AP)) (aK rfl) (pm (.bool (!AP)) (oF F (fun zC F=>?_) fun zC F=>?_))
    ·refine ei (ai zC) (pe (pt U (0 + 1)) (aa zN) (ei (ai zC) (pe u1 (ab rfl ((S.boxAt 0 rfl) 1 _ rfl)) (ei (ai zC) (pM (i_ zG) zS (ei (ai zC) (oB F fun Cc Bj F=>?_)))))));refine aU (wA:=w0) rfl ha1 rfl dt rfl Bj dt ?_;intro Cd Bk Db Bl Bm;obtain ⟨_,_,rfl,Bn,AD⟩:=Bl;obtain ⟨rfl,CT⟩:=Bn;obtain ⟨Ce,rfl⟩:=aN AD;refine ei (ai zC) (pe (pt Cd (Bk + 1)) (aa rfl) (ei (ai zC) (pe Ce (ab rfl ((aw S.below Bm) 1 _ rfl)) (ei (ai zC) (pe (i_ (Cc.2.length:Int)) (az rfl AD) (ei (ai zC) (oB F fun AQ Bo F=>?_)))))));refine ec0 gw (dl Bo) (ca (ag rfl (ag rfl (ag rfl rfl)))) S fun Dc CU S=>?_;refine ei (ai zC) (pe (.bool (!AQ)) (aK rfl) (pe (.bool (!AQ)) (au rfl (ai zC) rfl) (en AO (oF F (fun z8 F=>?_) fun z8 F=>?_))))
     ·refine cf (ai z8) (sn Am (sR fun _ Cf=>pa (i_ 0) (en Cf (bg fun _ AR=>?_))));obtain ⟨Cg,hL,AE⟩:=ob F;refine aC (fun k e w=>∃ (zL:Int),e 1=pt U 0∧e 3=i_ zG∧e 4=i_ zL∧Sat w0 w [Box U 31 [i_ a0,u1,u2]]∧c8 N k a0 a1 a2 zG zL=some Cg) N ?_ ?_ ?_
      ·exact ⟨0,zN,zS,rfl,S,hL⟩
      ·rintro e w ⟨_,_,_,_,_,hz⟩; exact nn hz
      rintro k Dd De ⟨zL,zO,zT,z9,S,F⟩;refine gn fun _ An=>sg fun _ AS=>sR fun _ Ch=>pM (i_ zL) z9 (pe (pt U (0 + 1)) (aa zO) (pe u1 (ab rfl ((S.boxAt 0 rfl) 1 _ rfl)) (pM (i_ zG) zT (oB F fun AT Bp F=>?_))));refine aU (wA:=w0) rfl ha1 rfl dt rfl Bp dt ?_;intro Ci Bq Df Br Bs;obtain ⟨_,_,rfl,Bt,AF⟩:=Br;obtain ⟨rfl,CV⟩:=Bt;obtain ⟨Cj,rfl⟩:=aN AF;refine pe (pt Ci (Bq + 1)) (aa rfl) (pe Cj (ab rfl ((aw S.below Bs) 1 _ rfl)) (pe (i_ (AT.2.length:Int)) (az rfl AF) (pe (.bool (decide (zL < (AT.2.length:Int)))) (aG rfl rfl) (en Ch (oF F (fun Aa F=>?_) fun Aa F=>?_)))))
      ·refine ct Aa (sn AS (sg fun _ AU=>bg fun _ AV=>sg fun _ Ck=>?_));refine fw (by kernel_rfl) (by kernel_rfl) ?_;refine qe (pt U (0 + 1)) (aa zO) (qe u1 (ab rfl ((S.boxAt 0 rfl) 1 _ rfl)) (qM (i_ zG) zT (oB F fun Dg Bu F=>?_)));refine cS (wA:=w0) rfl ha1 rfl dt rfl Bu dt ?_;intro Cl Bv Dh Bw Bx;obtain ⟨_,_,rfl,By,AG⟩:=Bw;obtain ⟨rfl,CX⟩:=By;obtain ⟨Cm,rfl⟩:=aN AG;refine qe (pt Cl (Bv + 1)) (aa rfl) (qe Cm (ab rfl ((aw S.below Bx) 1 _ rfl)) (qM (i_ zL) z9 (oB F fun Co Bz F=>?_)));refine cS (wA:=w0) rfl AG rfl dt rfl Bz dt ?_;intro Di CY Dj BA BB;obtain rfl:=BA;refine qe (i_ Co) (ab rfl ((aw S.below BB) 0 _ rfl)) (qe (pt U (0 + 0)) (aa zO) (qe (i_ a0) (ab rfl ((S.boxAt 0 rfl) 0 _ rfl)) (oB F fun Cp BC F=>qe (i_ Cp) (eV rfl rfl BC) (oB F fun AW BD F=>?_))));refine gq (.bool AW) gw (fun w' hw'=>dl BD) (ca (ag rfl (ag rfl (ag rfl rfl)))) dt ?_;refine qe (.bool (!AW)) (aK rfl) (ft ?_);intro Dk BE;replace S:=S.ext BE;refine tn Ck (oF F (fun Ab F=>?_) fun Ab F=>?_)
       ·refine cf (ai Ab) (bk (bn AV (tn AU (ac (pM (i_ zL) z9 (oB F fun Ao BF F=>pe (i_ Ao) (aE rfl rfl BF) (pa (i_ Ao) (en An ?_))))))));replace S:=S.keep 1;exact ⟨Ao,zO,zT,rfl,S,F⟩
       refine ct (aj Ab) (sg fun _ Cq=>?_);replace S:=S.r0;refine ac (pa (.bool false) (en Cq (ae (br AV (tr AU (tr An (br AR (br z7 (tr z6 (tr zW (br z4 (tr zZ ?_))))))))))));replace F:=exL F AE;replace F:=exL F zR;refine aF rfl rfl ?_;exact rB F S
      refine cf Aa (aH (tx AS (tx An ?_)));replace F:=exA F AE;refine bS AR (bn z7 (tn z6 (ac (pM (i_ zG) zT (oB F fun Ap BG F=>pe (i_ Ap) (aE rfl rfl BG) (pa (i_ Ap) (en zW ?_)))))));replace S:=S.keep 1;exact ⟨Ap,zO,rfl,S,F⟩
     refine ct (aj z8) (sg fun _ Cr=>?_);replace S:=S.r0;refine ac (pa (.bool false) (en Cr (ae (tr Am (br z7 (tr z6 (tr zW (br z4 (tr zZ ?_)))))))));replace F:=exL F zR;refine aF rfl rfl ?_;exact rB F S
    refine eo (aj zC) (eo (aj zC) (eo (aj zC) (eo (aj zC) (eo (aj zC) (eo (aj zC) (eo (aj zC) (eo (aj zC) (eo (aj zC) (pe (.bool true) (ar rfl (aj zC) rfl) (en AO (ct rfl (sg fun _ Cs=>?_))))))))))));replace S:=S.r0;refine ac (pa (.bool false) (en Cs (ae (tr Am (br z7 (tr z6 (tr zW (br z4 (tr zZ ?_)))))))));replace F:=exL F zR;refine aF rfl rfl ?_;exact rB F S
   refine cf z5 (aH (tx AN (tx zW ?_)));replace F:=exA F zR;refine bS z4 (tn zZ (sg fun _ AX=>sR fun _ Ct=>pa (i_ 0) (en Ct (bg fun _ AY=>?_))));obtain ⟨Cu,hL,AH⟩:=ob F;refine aC (fun k e w=>∃ (zH:Int),e 1=pt U 0∧e 5=i_ zH∧Sat w0 w [Box U 31 [i_ a0,u1,u2]]∧c9 N k a0 a1 a2 zH=some Cu) N ?_ ?_ ?_
   ·exact ⟨0,zN,rfl,S,hL⟩
   ·rintro e w ⟨_,_,_,_,hz⟩; exact nn hz
   rintro k Dl Dm ⟨zH,Ac,AI,S,F⟩;refine gn fun _ Aq=>sg fun _ AZ=>sR fun _ Cv=>pM (i_ zH) AI (pe (pt U (0 + 0)) (aa Ac) (pe (i_ a0) (ab rfl ((S.boxAt 0 rfl) 0 _ rfl)) (pe (.bool (decide (zH < a0))) (aG rfl rfl) (en Cv (oF F (fun Ad F=>?_) fun Ad F=>?_)))))
   ·refine ct Ad (sn AZ (sg fun _ A0=>bg fun _ A1=>sR fun _ Cw=>pa (.bool false) (en Cw (sg fun _ Cx=>sR fun _ Cy=>pa (i_ 0) (en Cy (bg fun _ Cz=>?_))))));obtain ⟨CA,hL,BH⟩:=ob F;refine aC (fun k e w=>∃ (zM:Bool),∃ (zJ:Int),e 1=pt U 0∧e 5=i_ zH∧e 6=.bool zM∧e 7=i_ zJ∧Sat w0 w [Box U 31 [i_ a0,u1,u2]]∧cD N k a0 a1 a2 zH zM zJ=some CA) N ?_ ?_ ?_
    ·exact ⟨false,0,Ac,AI,rfl,rfl,S,hL⟩
    ·rintro e w ⟨_,_,_,_,_,_,_,hz⟩; exact nn hz
    rintro k Dn Do ⟨zM,zJ,zP,zU,AJ,zV,S,F⟩;refine gn fun _ Ar=>sg fun _ A2=>sR fun _ CB=>pM (i_ zJ) zV (pe (pt U (0 + 1)) (aa zP) (pe u1 (ab rfl ((S.boxAt 0 rfl) 1 _ rfl)) (pe (i_ (a1.length:Int)) (az rfl ha1) (pe (.bool (decide (zJ < (a1.length:Int)))) (aG rfl rfl) (en CB (oF F (fun Ae F=>?_) fun Ae F=>?_))))))
    ·refine ct Ae (sn A2 (sg fun _ A3=>bg fun _ A4=>ac (pM (.bool zM) AJ (pm (.bool zM) (oF F (fun zD F=>?_) fun zD F=>?_)))))
     ·refine eo zD (eo zD (eo zD (eo zD (eo zD (eo zD (eo zD (pe (.bool true) (ar rfl zD rfl) (pa (.bool true) (ah (bn A4 (tn A3 (ac (pM (i_ zJ) zV (oB F fun As BI F=>pe (i_ As) (aE rfl rfl BI) (pa (i_ As) (en Ar ?_))))))))))))))));replace S:=S.keep 1;exact ⟨true,As,zP,zU,rfl,rfl,S,F⟩
     refine ei zD (pe (pt U (0 + 1)) (aa zP) (ei zD (pe u1 (ab rfl ((S.boxAt 0 rfl) 1 _ rfl)) (ei zD (pM (i_ zJ) zV (ei zD (oB F fun A5 BJ F=>?_)))))));refine aU (wA:=w0) rfl ha1 rfl dt rfl BJ dt ?_;intro Dp CZ Dq BK BL;obtain ⟨_,_,rfl,BM,AK⟩:=BK;obtain ⟨rfl,BN⟩:=BM;obtain ⟨A6,rfl⟩:=aN AK;refine ei zD (pe (.agg #[.string A5.1,A6]) (an (cs:=[.string A5.1,A6]) rfl rfl (aw S.below BL)) (ei zD (pM (i_ zH) zU (ei zD (oB F fun At BO F=>?_)))));refine ec0 tG (i3 BN (S.up AK) BO) (ca (ag rfl (ag rfl rfl))) S fun Dr C0 S=>?_;refine pe (.bool At) (au rfl zD rfl) (pa (.bool At) (ah (bn A4 (tn A3 (ac (pM (i_ zJ) zV (oB F fun Au BP F=>pe (i_ Au) (aE rfl rfl BP) (pa (i_ Au) (en Ar ?_)))))))));replace S:=S.keep 1;exact ⟨At,Au,zP,zU,rfl,rfl,S,F⟩
    refine cf Ae (aH (tx A2 (tx Ar ?_)));replace F:=exB F BH;refine bS Cz (tn Cx (sR fun _ CC=>pM (.bool zM) AJ (pe (.bool (!zM)) (aK rfl) (en CC (oF F (fun Af F=>?_) fun Af F=>?_)))))
    ·refine cf (ai Af) (bk (bn A1 (tn A0 (ac (pM (i_ zH) zU (oB F fun Av BQ F=>pe (i_ Av) (aE rfl rfl BQ) (pa (i_ Av) (en Aq ?_))))))));replace S:=S.keep 1;exact ⟨Av,zP,rfl,S,F⟩
    refine ct (aj Af) (sg fun _ CD=>?_);replace S:=S.r0;refine ac (pa (.bool false) (en CD (ae (br A1 (tr A0 (tr Aq (br AY (tr AX ?_))))))));replace F:=exL F AH;refine aF rfl rfl ?_;exact rB F S
   refine cf Ad (aH (tx AZ (tx Aq ?_)));replace F:=exA F AH;refine bS AY (tn AX (sg fun _ Aw=>sR fun _ CE=>pa (i_ 0) (en CE (bg fun _ Ax=>?_))));obtain ⟨CF,hL,Ag⟩:=ob F;refine aC (fun k e w=>∃ (zI:Int),e 1=pt U 0∧e 8=i_ zI∧Sat w0 w [Box U 31 [i_ a0,u1,u2]]∧c5 N k a0 a1 a2 zI=some CF) N ?_ ?_ ?_
   ·exact ⟨0,Ac,rfl,S,hL⟩
   ·rintro e w ⟨_,_,_,_,hz⟩; exact nn hz
   rintro k Ds Dt ⟨zI,zK,zQ,S,F⟩;refine gn fun _ Ah=>sg fun _ A7=>sR fun _ CG=>pM (i_ zI) zQ (pe (pt U (0 + 2)) (aa zK) (pe u2 (ab rfl ((S.boxAt 0 rfl) 2 _ rfl)) (pe (i_ (a2.length:Int)) (az rfl ha2) (pe (.bool (decide (zI < (a2.length:Int)))) (aG rfl rfl) (en CG (oF F (fun Ai F=>?_) fun Ai F=>?_))))))
   ·refine ct Ai (sn A7 (sg fun _ Ay=>bg fun _ Az=>sg fun _ A8=>?_));refine fw (by kernel_rfl) (by kernel_rfl) ?_;refine qe (pt U (0 + 2)) (aa zK) (qe u2 (ab rfl ((S.boxAt 0 rfl) 2 _ rfl)) (qM (i_ zI) zQ (oB F fun CH BR F=>?_)));refine cS (wA:=w0) rfl ha2 rfl dt rfl BR dt ?_;intro Du C1 Dv BS BT;obtain rfl:=BS;refine qe (i_ CH) (ab rfl ((aw S.below BT) 0 _ rfl)) (qe (pt U (0 + 0)) (aa zK) (qe (i_ a0) (ab rfl ((S.boxAt 0 rfl) 0 _ rfl)) (oB F fun CI BU F=>qe (i_ CI) (eV rfl rfl BU) (oB F fun AA BV F=>?_))));refine gq (.bool AA) gw (fun w' hw'=>dl BV) (ca (ag rfl (ag rfl (ag rfl rfl)))) dt ?_;refine qe (.bool (!AA)) (aK rfl) (qm (.bool (!AA)) (oF F (fun J F=>?_) fun J F=>?_))
    ·refine qi (ai J) (qe (pt U (0 + 2)) (aa zK) (qi (ai J) (qe u2 (ab rfl ((S.boxAt 0 rfl) 2 _ rfl)) (qi (ai J) (qM (i_ zI) zQ (qi (ai J) (oB F fun Dw BW F=>?_)))))));refine uM (wA:=w0) rfl rfl ha2 (.inr ⟨rfl,rfl⟩) (.inl (congrArg some rfl)) BW dt ?_;intro Dx BX;refine qi (ai J) (qe (pt U (0 + 2)) (aa zK) (qi (ai J) (qe u2 (ab rfl ((S.boxAt 0 rfl) 2 _ rfl)) (qi (ai J) (qM (i_ zI) zQ (qi (ai J) (oB F fun CJ BY F=>?_)))))));refine cS (wA:=w0) rfl ha2 rfl dt rfl BY dt ?_;intro Dy C2 Dz BZ B0;obtain rfl:=BZ;refine qi (ai J) (qe (i_ CJ) (ab rfl ((aw S.below B0) 0 _ rfl)) (qi (ai J) (oB F fun AB B1 F=>?_)));refine gq (i_ AB) xk (fun w' hw'=>o8 (fN (S.up BX) hw') B1) (ca (ag rfl (ag rfl rfl))) dt ?_;refine qi (ai J) (qe (.bool (decide (0 ≤ AB))) (lz rfl rfl) (qe (.bool (decide (0 ≤ AB))) (au rfl (ai J) rfl) (ft ?_)));intro DA B2;replace S:=S.ext B2;refine tn A8 (oF F (fun Aj F=>?_) fun Aj F=>?_)
     ·refine ct Aj (sg fun _ CK=>?_);replace S:=S.r0;refine ac (pa (.bool false) (en CK (ae (br Az (tr Ay (tr Ah (br Ax (tr Aw ?_))))))));replace F:=exL F Ag;refine aF rfl rfl ?_;exact rB F S
     refine cf Aj (bk (bn Az (tn Ay (ac (pM (i_ zI) zQ (oB F fun AC B3 F=>pe (i_ AC) (aE rfl rfl B3) (pa (i_ AC) (en Ah ?_))))))));replace S:=S.keep 1;exact ⟨AC,zK,rfl,S,F⟩
    refine qo (aj J) (qo (aj J) (qo (aj J) (qo (aj J) (qo (aj J) (qo (aj J) (qo (aj J) (qo (aj J) (qo (aj J) (qo (aj J) (qo (aj J) (qe (.bool true) (ar rfl (aj J) rfl) (ft ?_))))))))))));intro DB B4;replace S:=S.ext B4;refine tn A8 (ct rfl (sg fun _ CL=>?_));replace S:=S.r0;refine ac (pa (.bool false) (en CL (ae (br Az (tr Ay (tr Ah (br Ax (tr Aw ?_))))))));replace F:=exL F Ag;refine aF rfl rfl ?_;exact rB F S
   refine cf Ai (aH (tx A7 (tx Ah ?_)));replace F:=exA F Ag;refine bS Ax (tn Aw (sg fun _ CM=>?_));replace S:=S.r0;refine ac (pa (.bool true) (en CM (ae (aF rfl rfl ?_))));exact rB F S
  refine eo (aj zE) (eo (aj zE) (eo (aj zE) (eo (aj zE) (eo (aj zE) (eo (aj zE) (pe (.bool true) (ar rfl (aj zE) rfl) (en Ak (ct rfl (sg fun _ CN=>?_)))))))));replace S:=S.r0;refine ac (pa (.bool false) (en CN (ae (tr zX (aF rfl rfl ?_)))));exact rB F S
 refine eo (aj zF) (eo (aj zF) (eo (aj zF) (eo (aj zF) (eo (aj zF) (pe (.bool true) (ar rfl (aj zF) rfl) (pm (.bool true) (eo rfl (eo rfl (eo rfl (eo rfl (eo rfl (eo rfl (pe (.bool true) (ar rfl rfl rfl) (en Ak (ct rfl (sg fun _ CO=>?_))))))))))))))));replace S:=S.r0;refine ac (pa (.bool false) (en CO (ae (tr zX (aF rfl rfl ?_)))));exact rB F S
theorem l7 {w0:World} {a0:Int} {u1:Value} {a1:List T3_} {u2:Value} {a2:List Int} (ha1:R6_.rd w0 [u1] a1) (ha2:R0_.rd w0 [u2] a2) {N:Nat} {r:T5_ × Bool} (F:fz N a0 a1 a2=some r): Calls Tryd.prog 20 #[.agg #[i_ a0,u1,u2]] w0 fun e w'=>∃ (q0:Value) (q1:Value) (q2:Value),e=.returned (.tuple #[.agg #[q0,q1,q2],.bool r.2])∧Sat w0 w' [Own R7_ [q0] r.1.1,Own R4_ [q1] r.1.2.1,Own R4_ [q2] r.1.2.2] := by
 unfold fz at F;refine aJ Tryd.func20 rfl rfl dt ?_;have S:=Sat.start w0;refine sR fun _ A0=>?_;refine be [i_ a0,u1,u2] rfl S dt ?_;intro BQ zD S BE;refine aB S dt ?_;intro BR zF S BF;refine pa (.bool false) (en A0 (sg fun _ Aq=>sR fun _ A1=>pe (.agg #[i_ a0,u1,u2]) (an (cs:=[i_ a0,u1,u2]) rfl rfl (av (S.boxAt 1 rfl))) (oB F fun A2 AG F=>?_)));refine ec0 xg (mb (S.up ha1) (S.up ha2) AG) (ca (ag rfl rfl)) S fun BS BG S=>?_;refine pe (.bool (!A2)) (aK rfl) (en A1 (oF F (fun zS F=>?_) fun zS F=>?_))
 ·refine cf (ai zS) (sn Aq (sR fun _ A3=>pe (.agg #[n_,n_,n_]) (aQ [] [n_,n_,n_] rfl rfl) ?_));refine aB S dt ?_;intro BT zC S BH;refine ak (S.top 0 rfl) rfl [n_,n_,n_] rfl rfl dt (all_cons rfl (all_cons rfl (all_cons rfl rfl))) ?_;intro A4 S;replace S:Sat w0 A4 [Box zC 50 [n_,n_,n_],Box zF 50 [n_,n_,n_],Box zD 31 [i_ a0,u1,u2]]:=S;refine en A3 (sg fun _ A5=>sR fun _ A6=>pa (i_ 0) (en A6 (bg fun _ A7=>?_)));replace S:=S.nil R4_ 39;replace S:=S.nil R1_ 71;obtain ⟨A8,hL,AH⟩:=ob F;refine aC (fun k e w=>∃ (U:Value),∃ (zH:List T2_),∃ (J:Value),∃ (zG:List T1_),∃ (zI:Int),e 1=pt zD 0∧e 2=pt zF 0∧e 4=pt zC 0∧e 5=i_ zI∧Sat w0 w [Own R4_ [J] zG,Own R7_ [U] zH,Box zC 50 [U,J,n_],Box zF 50 [n_,n_,n_],Box zD 31 [i_ a0,u1,u2]]∧cG N k a0 a1 a2 [] [] [] zH zG [] zI=some A8) N ?_ ?_ ?_
  ·exact ⟨n_,[],n_,[],0,rfl,rfl,rfl,rfl,S,hL⟩
  ·rintro e w ⟨_,_,_,_,_,_,_,_,_,_,hz⟩; exact nn hz
  rintro k BU BV ⟨U,zH,J,zG,zI,zT,Af,Ag,Ah,S,F⟩;refine gn fun _ Ar=>sg fun _ As=>sR fun _ A9=>pM (i_ zI) Ah (pe (pt zD (0 + 0)) (aa zT) (pe (i_ a0) (ab rfl ((S.boxAt 4 rfl) 0 _ rfl)) (pe (.bool (decide (zI < a0))) (aG rfl rfl) (en A9 (oF F (fun zU F=>?_) fun zU F=>?_)))))
  ·refine ct zU (sn As (sg fun _ Ba=>bg fun _ Bb=>sR fun _ Bc=>?_));refine aY R1_ S dt ?_;intro BW At S BI;refine pa At (en Bc (sg fun _ Bd=>sR fun _ Be=>pa (i_ 0) (en Be (bg fun _ Bf=>?_))));obtain ⟨Bg,hL,AI⟩:=ob F;refine aC (fun k e w=>∃ (zK:Value),∃ (z8:List T1_),∃ (zL:Int),e 1=pt zD 0∧e 2=pt zF 0∧e 4=pt zC 0∧e 5=i_ zI∧e 6=zK∧e 7=i_ zL∧Sat w0 w [Own R4_ [zK] z8,Own R4_ [J] zG,Own R7_ [U] zH,Box zC 50 [U,J,n_],Box zF 50 [n_,n_,n_],Box zD 31 [i_ a0,u1,u2]]∧b9 N k a0 a1 a2 [] [] [] zH zG [] zI z8 zL=some Bg) N ?_ ?_ ?_
   ·exact ⟨At,[],0,zT,Af,Ag,Ah,rfl,rfl,S,hL⟩
   ·rintro e w ⟨_,_,_,_,_,_,_,_,_,_,hz⟩; exact nn hz
   rintro k BX BY ⟨zK,z8,zL,zM,zV,zJ,zP,zW,zQ,S,F⟩;refine gn fun _ z9=>sg fun _ Au=>sR fun _ Bh=>pM (i_ zL) zQ (pe (pt zD (0 + 1)) (aa zM) (pe u1 (ab rfl ((S.boxAt 5 rfl) 1 _ rfl)) (pe (i_ (a1.length:Int)) (az rfl ha1) (pe (.bool (decide (zL < (a1.length:Int)))) (aG rfl rfl) (en Bh (oF F (fun zX F=>?_) fun zX F=>?_))))))
   ·refine ct zX (sn Au (sg fun _ Av=>bg fun _ Aw=>sR fun _ Bi=>pa (i_ 0) (en Bi (sg fun _ Ax=>sR fun _ Bj=>pe (pt zD (0 + 1)) (aa zM) (pe u1 (ab rfl ((S.boxAt 5 rfl) 1 _ rfl)) (pM (i_ zL) zQ (oB F fun Ay AJ F=>?_)))))));refine aU (wA:=w0) rfl ha1 rfl dt rfl AJ dt ?_;intro BZ BJ B0 AK AM;obtain ⟨_,_,rfl,AN,Ai⟩:=AK;obtain ⟨rfl,AO⟩:=AN;obtain ⟨Az,rfl⟩:=aN Ai;refine pe (.agg #[.string Ay.1,Az]) (an (cs:=[.string Ay.1,Az]) rfl rfl (aw S.below AM)) (pM (i_ zI) zP (oB F fun B1 AP F=>?_));refine ec0 tG (i3 AO (S.up Ai) AP) (ca (ag rfl (ag rfl rfl))) S fun B2 BK S=>?_;refine en Bj (oF F (fun zY F=>?_) fun zY F=>?_)
    ·refine ct zY (ac (pa (i_ 1) (en Ax (ac (pM zK zW (pm (i_ 1) (pe (.agg #[i_ 1,i_ 1]) (aQ [(0,[i_ 1]),(1,[i_ 1])] [i_ 1,i_ 1] (el rfl (el rfl rfl)) rfl) ?_)))))));refine aI [i_ 1,i_ 1] rfl (by rfl) dt rfl dt S dt ?_;intro B3 B4 S BL;refine oB F fun Bk AQ F=>?_;have Al:=S.boxRow 0 rfl;replace S:=S.t1;replace S:=S.int 1;replace S:=S.int 1;replace S:=S.pair;replace S:=S.one;refine aT rfl dt rfl dt S rfl rfl rfl (by simp) Al AQ dt ?_;intro B5 AA S;refine pa AA (ah (bn Aw (tn Av ?_)));replace S:=S.r1;refine ac (pM (i_ zL) zQ (oB F fun Aa AR F=>pe (i_ Aa) (aE rfl rfl AR) (pa (i_ Aa) (en z9 ?_))));replace S:=S.keep 6;exact ⟨AA,Bk,Aa,zM,zV,zJ,zP,rfl,rfl,S,F⟩
    refine cf zY (sn Ax (ac (pM zK zW (pm (i_ 0) (pe (.agg #[i_ 0,i_ 1]) (aQ [(0,[i_ 0]),(1,[i_ 1])] [i_ 0,i_ 1] (el rfl (el rfl rfl)) rfl) ?_)))));refine aI [i_ 0,i_ 1] rfl (by rfl) dt rfl dt S dt ?_;intro B6 B7 S BM;refine oB F fun Bl AS F=>?_;have Am:=S.boxRow 0 rfl;replace S:=S.t1;replace S:=S.int 1;replace S:=S.int 0;replace S:=S.pair;replace S:=S.one;refine aT rfl dt rfl dt S rfl rfl rfl (by simp) Am AS dt ?_;intro B8 AB S;refine pa AB (ah (bn Aw (tn Av ?_)));replace S:=S.r1;refine ac (pM (i_ zL) zQ (oB F fun Ab AT F=>pe (i_ Ab) (aE rfl rfl AT) (pa (i_ Ab) (en z9 ?_))));replace S:=S.keep 6;exact ⟨AB,Bl,Ab,zM,zV,zJ,zP,rfl,rfl,S,F⟩
   refine cf zX (aH (tx Au (tx z9 ?_)));replace F:=exB F AI;refine bS Bf (tn Bd (sR fun _ Bm=>pe (pt zC (0 + 0)) (aa zJ) (pe U (ab rfl ((S.boxAt 3 rfl) 0 _ rfl)) (pM zK zW ?_))));refine aI [zK] (bc rfl (oc (S.rdAt (R:=R4_) 0 rfl))) (by rfl) dt rfl dt S dt ?_;intro B9 Bn S BN;refine oB F fun Ac AU F=>?_;have An:=S.boxRow 0 rfl;replace S:=S.t3;replace S:=S.t2;replace S:=S.one;refine aT rfl dt rfl dt S rfl rfl rfl (by simp) An AU dt ?_;intro Ca zN S;refine pe (pt zC (0 + 0)) (aa zJ) ?_;refine ak (S.top 3 rfl) rfl [zN] (bc rfl (oc (S.rdAt (R:=R7_) 0 rfl))) rfl dt (all_cons (oc (S.rdAt (R:=R7_) 0 rfl)) rfl) ?_;intro Bo S;replace S:Sat w0 Bo [Box zC 50 [zN,J,n_],Own R7_ [zN] Ac,Box Bn 39 [zK],Own R4_ [J] zG,Box zF 50 [n_,n_,n_],Box zD 31 [i_ a0,u1,u2]]:=S;refine en Bm ?_;replace S:=S.r2;refine ac (pe (pt zC (0 + 1)) (aa zJ) (pe J (ab rfl ((S.boxAt 0 rfl) 1 _ rfl)) (pe (.agg #[i_ 1,i_ 1]) (aQ [(0,[i_ 1]),(1,[i_ 1])] [i_ 1,i_ 1] (el rfl (el rfl rfl)) rfl) ?_)));refine aI [i_ 1,i_ 1] rfl (by rfl) dt rfl dt S dt ?_;intro Cb Bp S BO;refine oB F fun AC AV F=>?_;have Ao:=S.boxRow 0 rfl;replace S:=S.t3;replace S:=S.int 1;replace S:=S.int 1;replace S:=S.pair;replace S:=S.one;refine aT rfl dt rfl dt S rfl rfl rfl (by simp) Ao AV dt ?_;intro Cc zZ S;refine pe (pt zC (0 + 1)) (aa zJ) ?_;refine ak (S.top 2 rfl) rfl [zZ] (bc rfl (oc (S.rdAt (R:=R4_) 0 rfl))) rfl dt (all_cons (oc (S.rdAt (R:=R4_) 0 rfl)) rfl) ?_;intro Bq S;replace S:Sat w0 Bq [Box zC 50 [zN,zZ,n_],Own R4_ [zZ] AC,Box Bp 71 [i_ 1,i_ 1],Own R7_ [zN] Ac,Box zF 50 [n_,n_,n_],Box zD 31 [i_ a0,u1,u2]]:=S;refine ah (bn Bb (tn Ba ?_));replace S:=S.r2;refine ac (pM (i_ zI) zP (oB F fun Ad AW F=>pe (i_ Ad) (aE rfl rfl AW) (pa (i_ Ad) (en Ar ?_))));replace S:=S.t4.t4.t2.t4.t4;replace S:=S.keep 5;exact ⟨zN,Ac,zZ,AC,Ad,zM,zV,zJ,rfl,S,F⟩
  refine cf zU (aH (tx As (tx Ar ?_)));replace F:=exB F AH;refine bS A7 (tn A5 (sg fun _ Br=>sR fun _ Bs=>pa (i_ 0) (en Bs (bg fun _ Bt=>?_))));replace S:=S.nil R1_ 71;obtain ⟨Bu,hL,AX⟩:=ob F;refine aC (fun k e w=>∃ (zE:Value),∃ (z4:List T1_),∃ (zO:Int),e 1=pt zD 0∧e 2=pt zF 0∧e 4=pt zC 0∧e 9=i_ zO∧Sat w0 w [Own R4_ [zE] z4,Own R4_ [J] zG,Own R7_ [U] zH,Box zC 50 [U,J,zE],Box zF 50 [n_,n_,n_],Box zD 31 [i_ a0,u1,u2]]∧cJ N k a0 a1 a2 [] [] [] zH zG z4 zO=some Bu) N ?_ ?_ ?_
  ·exact ⟨n_,[],0,zT,Af,Ag,rfl,S,hL⟩
  ·rintro e w ⟨_,_,_,_,_,_,_,_,hz⟩; exact nn hz
  rintro k Cd Ce ⟨zE,z4,zO,Aj,z5,zR,Ak,S,F⟩;refine gn fun _ AD=>sg fun _ AE=>sR fun _ Bv=>pM (i_ zO) Ak (pe (pt zD (0 + 1)) (aa Aj) (pe u1 (ab rfl ((S.boxAt 5 rfl) 1 _ rfl)) (pe (i_ (a1.length:Int)) (az rfl ha1) (pe (.bool (decide (zO < (a1.length:Int)))) (aG rfl rfl) (en Bv (oF F (fun z6 F=>?_) fun z6 F=>?_))))))
  ·refine ct z6 (sn AE (sg fun _ Bw=>bg fun _ Bx=>ac (pe (pt zC (0 + 2)) (aa zR) (pe zE (ab rfl ((S.boxAt 3 rfl) 2 _ rfl)) (pe (.agg #[i_ 1,i_ 1]) (aQ [(0,[i_ 1]),(1,[i_ 1])] [i_ 1,i_ 1] (el rfl (el rfl rfl)) rfl) ?_)))));refine aI [i_ 1,i_ 1] rfl (by rfl) dt rfl dt S dt ?_;intro Cf By S BP;refine oB F fun AF AY F=>?_;have Ap:=S.boxRow 0 rfl;replace S:=S.t1;replace S:=S.int 1;replace S:=S.int 1;replace S:=S.pair;replace S:=S.one;refine aT rfl dt rfl dt S rfl rfl rfl (by simp) Ap AY dt ?_;intro Cg z7 S;refine pe (pt zC (0 + 2)) (aa zR) ?_;refine ak (S.top 4 rfl) rfl [z7] (bc rfl (oc (S.rdAt (R:=R4_) 0 rfl))) rfl dt (all_cons (oc (S.rdAt (R:=R4_) 0 rfl)) rfl) ?_;intro Bz S;replace S:Sat w0 Bz [Box zC 50 [U,J,z7],Own R4_ [z7] AF,Box By 71 [i_ 1,i_ 1],Own R4_ [J] zG,Own R7_ [U] zH,Box zF 50 [n_,n_,n_],Box zD 31 [i_ a0,u1,u2]]:=S;refine ah (bn Bx (tn Bw ?_));replace S:=S.r2;refine ac (pM (i_ zO) Ak (oB F fun Ae AZ F=>pe (i_ Ae) (aE rfl rfl AZ) (pa (i_ Ae) (en AD ?_))));replace S:=S.t5.t5.t2.t5.t5.t5;replace S:=S.keep 6;exact ⟨z7,AF,Ae,Aj,z5,zR,rfl,S,F⟩
  refine cf z6 (aH (tx AE (tx AD ?_)));replace F:=exB F AX;refine bS Bt (tn Br (sg fun _ BA=>?_));replace S:=S.r5;refine ac (pe (.agg #[U,J,zE]) (an (cs:=[U,J,zE]) zR rfl (av (S.boxAt 3 rfl))) ?_);refine ak (S.top 4 rfl) z5 [U,J,zE] rfl rfl dt (all_cons (oc (S.rdAt (R:=R7_) 2 rfl)) (all_cons (oc (S.rdAt (R:=R4_) 1 rfl)) (all_cons (oc (S.rdAt (R:=R4_) 0 rfl)) rfl))) ?_;intro BB S;replace S:Sat w0 BB [Box zF 50 [U,J,zE],Own R4_ [zE] z4,Own R4_ [J] zG,Own R7_ [U] zH,Box zC 50 [U,J,zE]]:=S;refine pa (.bool true) (en BA (ae ?_));refine bh (cs:=[U,J,zE]) rfl z5 rfl (av (S.boxAt 0 rfl)) rfl ?_;replace S:=S.t1.t2.t3;have hr:=oI F;exact ⟨U,J,zE,cR hr fun r=>.tuple #[.agg #[U,J,zE],.bool r.2],sP hr (fun r=>[Own R7_ [U] r.1.1,Own R4_ [J] r.1.2.1,Own R4_ [zE] r.1.2.2]) (S.keep 3)⟩
 refine ct (aj zS) (sg fun _ BC=>?_);replace S:=S.r1;refine ac (pe (.agg #[n_,n_,n_]) (aQ [] [n_,n_,n_] rfl rfl) ?_);refine ak (S.top 0 rfl) rfl [n_,n_,n_] rfl rfl dt (all_cons rfl (all_cons rfl (all_cons rfl rfl))) ?_;intro BD S;replace S:Sat w0 BD [Box zF 50 [n_,n_,n_]]:=S;refine pa (.bool false) (en BC (ae (tr Aq ?_)));replace S:=S.nil R4_ 39;replace S:=S.nil R1_ 71;replace S:=S.nil R1_ 71;refine bh (cs:=[n_,n_,n_]) rfl rfl rfl (av (S.boxAt 3 rfl)) rfl ?_;replace S:=S.t1.t2;have hr:=oI F;exact ⟨n_,n_,n_,cR hr fun r=>.tuple #[.agg #[n_,n_,n_],.bool r.2],sP hr (fun r=>[Own R7_ [n_] r.1.1,Own R4_ [n_] r.1.2.1,Own R4_ [n_] r.1.2.2]) (S.keep 3)⟩
theorem jl {w0:World} {a0:Int} {a1:Int}  {N:Nat} {r:Int} (F:dW N a0 a1=some r): Calls Tryd.prog 41 #[i_ a0,i_ a1] w0 fun e w'=>e=.returned (i_ r)∧Ext w0 w' := by
 unfold dW at F;refine aJ Tryd.func41 rfl rfl dt ?_;have S:=Sat.start w0;refine sR fun _ zK=>pa (i_ 0) (en zK (sg fun _ zL=>bg fun _ zM=>?_));obtain ⟨zN,hL,zI⟩:=ob F;refine aC (fun k e w=>∃ (U:Int),∃ (J:Int),e 0=i_ U∧e 1=i_ J∧Sat w0 w []∧cT N k U J=some zN) N ?_ ?_ ?_
 ·exact ⟨a0,a1,rfl,rfl,S,hL⟩
 ·rintro e w ⟨_,_,_,_,_,hz⟩; exact nn hz
 rintro k zT zU ⟨U,J,zF,zD,S,F⟩;refine gn fun _ zG=>sg fun _ zH=>sR fun _ zO=>pM (i_ J) zD (pe (.bool (J != 0)) (cK rfl rfl) (en zO (oF F (fun zE F=>?_) fun zE F=>?_)))
 ·refine ct zE (sn zH (bg fun _ zP=>sR fun _ zQ=>pM (i_ U) zF (pM (i_ J) zD (oB F fun zC zJ F=>pe (i_ zC) (j6 rfl rfl zJ) (pa (i_ zC) (en zQ (sR fun _ zR=>pM (i_ J) zD (pa (i_ J) (en zR (ac (pm (i_ zC) (pa (i_ zC) (ah (bn zP (tn zG ?_)))))))))))))));replace S:=S.keep 0;exact ⟨J,zC,rfl,rfl,S,F⟩
 refine cf zE (aH (tx zH (tx zG ?_)));replace F:=exB F zI;refine bS zM (tn zL (sR fun _ zS=>pM (i_ U) zF (pa (i_ U) (en zS (ae (aF rfl rfl ?_))))));exact rI F S
theorem bj {w0:World} {a0:Int} {a1:Int}  {N:Nat} {r:Bool} (F:ay N a0 a1=some r): Calls Tryd.prog 40 #[.agg #[i_ a0,i_ a1]] w0 fun e w'=>e=.returned (.bool r)∧Ext w0 w' := by
 unfold ay at F;refine aJ Tryd.func40 rfl rfl dt ?_;have S:=Sat.start w0;refine sR fun _ zL=>?_;refine be [i_ a0,i_ a1] rfl S dt ?_;intro zR zC S zN;refine pa (.bool false) (en zL (sR fun _ zD=>pe (pt zC (0 + 1)) (aa rfl) (pe (i_ a1) (ab rfl ((S.boxAt 0 rfl) 1 _ rfl)) (oB F fun zM zH F=>?_))));refine ec0 gw (dl zH) (ca (ag rfl (ag rfl (ag rfl rfl)))) S fun zS zO S=>?_;refine pm (.bool zM) (oF F (fun U F=>?_) fun U F=>?_)
 ·refine ei U (pe (pt zC (0 + 0)) (aa rfl) (ei U (pe (i_ a0) (ab rfl ((S.boxAt 0 rfl) 0 _ rfl)) (ei U (oB F fun zF zI F=>?_)))));refine ec0 gw (dl zI) (ca (ag rfl (ag rfl (ag rfl rfl)))) S fun zT zP S=>?_;refine pe (.bool zF) (ar rfl U rfl) (pm (.bool zF) (oF F (fun J F=>?_) fun J F=>?_))
  ·refine ei J (pe (pt zC (0 + 0)) (aa rfl) (ei J (pe (i_ a0) (ab rfl ((S.boxAt 0 rfl) 0 _ rfl)) (ei J (pe (pt zC (0 + 0)) (aa rfl) (ei J (pe (i_ a0) (ab rfl ((S.boxAt 0 rfl) 0 _ rfl)) (ei J (oB F fun zG zJ F=>pe (i_ zG) (iz rfl zJ) (ei J (pe (i_ (imx a0 zG)) (n0 rfl rfl) (ei J (pe (pt zC (0 + 1)) (aa rfl) (ei J (pe (i_ a1) (ab rfl ((S.boxAt 0 rfl) 1 _ rfl)) (ei J (oB F fun zE zK F=>?_)))))))))))))))));refine ec0 nM (jl zK) (ca (ag rfl (ag rfl rfl))) S fun zU zQ S=>?_;refine ei J (pe (.bool (zE == 1)) (dx rfl rfl) (pe (.bool (zE == 1)) (ar rfl J rfl) (pa (.bool (zE == 1)) (en zD (ae (aF rfl rfl ?_))))));exact rB F S
  refine eo J (eo J (eo J (eo J (eo J (eo J (eo J (eo J (eo J (eo J (pe (.bool false) (au rfl J rfl) (pa (.bool false) (en zD (ae (aF rfl rfl ?_))))))))))))));exact rB F S
 refine eo U (eo U (eo U (pe (.bool false) (au rfl U rfl) (pm (.bool false) (eo rfl (eo rfl (eo rfl (eo rfl (eo rfl (eo rfl (eo rfl (eo rfl (eo rfl (eo rfl (pe (.bool false) (au rfl rfl rfl) (pa (.bool false) (en zD (ae (aF rfl rfl ?_)))))))))))))))))));exact rB F S
end
section
set_option maxRecDepth 100000
set_option maxHeartbeats 4000000
theorem ia {w0:World} {u0:Value} {a0:List T2_} {a1:Int} {a2:Int} (ha0:R7_.rd w0 [u0] a0) {N:Nat} {r:Bool} (F:di N a0 a1 a2=some r): Calls Tryd.prog 59 #[u0,i_ a1,i_ a2] w0 fun e w'=>e=.returned (.bool r)∧Ext w0 w' := by
 unfold di at F;refine aJ Tryd.func59 rfl rfl dt ?_;have S:=Sat.start w0;refine sR fun _ Ap=>pa (.bool false) (en Ap (sg fun _ zP=>sR fun _ Aq=>pa (i_ 0) (en Aq (bg fun _ zQ=>?_))));obtain ⟨Ar,hL,zD⟩:=ob F;refine aC (fun k e w=>∃ (J:Int),e 0=u0∧e 1=i_ a1∧e 2=i_ a2∧e 7=i_ J∧Sat w0 w []∧cY N k a0 a1 a2 J=some Ar) N ?_ ?_ ?_
 ·exact ⟨0,rfl,rfl,rfl,rfl,S,hL⟩
 ·rintro e w ⟨_,_,_,_,_,_,hz⟩; exact nn hz
 rintro k AI AJ ⟨J,zC,zW,zX,zE,S,F⟩;refine gn fun _ zF=>sg fun _ z6=>sR fun _ As=>pM (i_ J) zE (pM u0 zC (pe (i_ (a0.length:Int)) (az rfl ha0) (pe (.bool (decide (J < (a0.length:Int)))) (aG rfl rfl) (en As (oF F (fun zG F=>?_) fun zG F=>?_)))))
 ·refine ct zG (sn z6 (sg fun _ zR=>bg fun _ zS=>sg fun _ z7=>sR fun _ At=>pM u0 zC (pM (i_ J) zE (oB F fun z8 Ad F=>?_))));refine aU (wA:=w0) rfl ha0 rfl dt rfl Ad dt ?_;intro AK AE AM zY Ae;obtain ⟨Au,rfl⟩:=aN zY;refine pe Au (ab rfl ((aw S.below Ae) 0 _ rfl)) (pe (i_ (z8.length:Int)) (az rfl zY) (pM (i_ a2) zX (pe (.bool ((z8.length:Int) != a2)) (cK rfl rfl) (en At (oF F (fun zH F=>?_) fun zH F=>?_)))))
  ·refine ct zH (sR fun _ Av=>pa (.bool false) (en Av (ae (tr z7 (br zS (tr zR (tr zF (br zQ (tr zP ?_)))))))));replace F:=exL F zD;refine aF rfl rfl ?_;exact rB F S
  refine cf zH (sn z7 (sR fun _ Aw=>pa (i_ 0) (en Aw (bg fun _ z9=>?_))));obtain ⟨Ax,hL,zZ⟩:=ob F;refine aC (fun k e w=>∃ (U:Int),e 0=u0∧e 1=i_ a1∧e 2=i_ a2∧e 7=i_ J∧e 8=i_ U∧Sat w0 w []∧cV N k a0 a1 a2 J U=some Ax) N ?_ ?_ ?_
  ·exact ⟨0,zC,zW,zX,zE,rfl,S,hL⟩
  ·rintro e w ⟨_,_,_,_,_,_,_,hz⟩; exact nn hz
  rintro k AN AO ⟨U,zI,z4,zJ,zK,zL,S,F⟩;refine gn fun _ zT=>sg fun _ Aa=>sR fun _ Ay=>pM (i_ U) zL (pM (i_ a2) zJ (pe (.bool (decide (U < a2))) (aG rfl rfl) (en Ay (oF F (fun zM F=>?_) fun zM F=>?_))))
  ·refine ct zM (sn Aa (sg fun _ Ab=>bg fun _ Ac=>sR fun _ Az=>pM u0 zI (pM (i_ J) zK (oB F fun AP Af F=>?_))));refine aU (wA:=w0) rfl ha0 rfl dt rfl Af dt ?_;intro AQ AF AR z5 Ag;obtain ⟨AA,rfl⟩:=aN z5;refine pe AA (ab rfl ((aw S.below Ag) 0 _ rfl)) (pM (i_ U) zL (oB F fun zN Ah F=>?_));refine aU (wA:=w0) rfl z5 rfl dt rfl Ah dt ?_;intro AS AG AT Ai Aj;obtain ⟨_,_,rfl,Ak,Al⟩:=Ai;obtain rfl:=Ak;obtain rfl:=Al;refine pe (.agg #[i_ zN.1,i_ zN.2]) (an (cs:=[i_ zN.1,i_ zN.2]) rfl rfl (aw S.below Aj)) (oB F fun AB Am F=>?_);refine ec0 gC (bj Am) (ca (ag rfl rfl)) S fun AU AH S=>?_;refine pe (.bool (!AB)) (aK rfl) (en Az (oF F (fun zO F=>?_) fun zO F=>?_))
   ·refine cf (ai zO) (bk (bn Ac (tn Ab (ac (pM (i_ U) zL (oB F fun zU An F=>pe (i_ zU) (aE rfl rfl An) (pa (i_ zU) (en zT ?_))))))));replace S:=S.keep 0;exact ⟨zU,zI,z4,zJ,zK,rfl,S,F⟩
   refine ct (aj zO) (sR fun _ AC=>pa (.bool false) (en AC (ae (br Ac (tr Ab (tr zT (br z9 (br zS (tr zR (tr zF (br zQ (tr zP ?_))))))))))));replace F:=exL F zZ;replace F:=exL F zD;refine aF rfl rfl ?_;exact rB F S
  refine cf zM (aH (tx Aa (tx zT ?_)));replace F:=exA F zZ;refine bS z9 (bn zS (tn zR (ac (pM (i_ J) zK (oB F fun zV Ao F=>pe (i_ zV) (aE rfl rfl Ao) (pa (i_ zV) (en zF ?_)))))));replace S:=S.keep 0;exact ⟨zV,zI,z4,zJ,rfl,S,F⟩
 refine cf zG (aH (tx z6 (tx zF ?_)));replace F:=exA F zD;refine bS zQ (tn zP (sR fun _ AD=>pM u0 zC (pe (i_ (a0.length:Int)) (az rfl ha0) (pM (i_ a1) zW (pe (.bool ((a0.length:Int) == a1)) (dx rfl rfl) (pa (.bool ((a0.length:Int) == a1)) (en AD (ae (aF rfl rfl ?_)))))))));exact rB F S
theorem im {w0:World} {u0:Value} {a0:List T2_} {u1:Value} {a1:List T1_} {u2:Value} {a2:List T1_} (ha0:R7_.rd w0 [u0] a0) (ha1:R4_.rd w0 [u1] a1) (ha2:R4_.rd w0 [u2] a2) {N:Nat} {r:Bool} (F:bL N a0 a1 a2=some r): Calls Tryd.prog 38 #[.agg #[u0,u1,u2]] w0 fun e w'=>e=.returned (.bool r)∧Ext w0 w' := by
 unfold bL at F;refine aJ Tryd.func38 rfl rfl dt ?_;have S:=Sat.start w0;refine sR fun _ zP=>?_;refine be [u0,u1,u2] rfl S dt ?_;intro z5 zE S zT;refine pa (.bool false) (en zP (sR fun _ zQ=>pe (pt zE (0 + 2)) (aa rfl) (pe u2 (ab rfl ((S.boxAt 0 rfl) 2 _ rfl)) (pe (i_ (a2.length:Int)) (az rfl ha2) (pa (i_ (a2.length:Int)) (en zQ (sR fun _ zR=>pe (pt zE (0 + 1)) (aa rfl) (pe u1 (ab rfl ((S.boxAt 0 rfl) 1 _ rfl)) (pe (i_ (a1.length:Int)) (az rfl ha1) (pa (i_ (a1.length:Int)) (en zR (sR fun _ zF=>pm (i_ (a2.length:Int)) (oB F fun zS zK F=>?_)))))))))))));refine ec0 gw (dl zK) (ca (ag rfl (ag rfl (ag rfl rfl)))) S fun z6 zU S=>?_;refine pm (.bool zS) (oF F (fun zD F=>?_) fun zD F=>?_)
 ·refine ei zD (pm (i_ (a1.length:Int)) (ei zD (oB F fun zG zL F=>?_)));refine ec0 gw (dl zL) (ca (ag rfl (ag rfl (ag rfl rfl)))) S fun z7 zV S=>?_;refine pe (.bool zG) (ar rfl zD rfl) (pm (.bool zG) (oF F (fun J F=>?_) fun J F=>?_))
  ·refine ei J (pe (pt zE (0 + 0)) (aa rfl) (ei J (pe u0 (ab rfl ((S.boxAt 0 rfl) 0 _ rfl)) (ei J (pm (i_ (a1.length:Int)) (ei J (pm (i_ (a2.length:Int)) (ei J (oB F fun zH zM F=>?_)))))))));refine ec0 ow (ia (S.up ha0) zM) (ca (ag rfl (ag rfl (ag rfl rfl)))) S fun z8 zW S=>?_;refine pe (.bool zH) (ar rfl J rfl) (pm (.bool zH) (oF F (fun U F=>?_) fun U F=>?_))
   ·refine ei U (pe (pt zE (0 + 2)) (aa rfl) (ei U (pe u2 (ab rfl ((S.boxAt 0 rfl) 2 _ rfl)) (ei U ?_))));refine aI [u2] (bc rfl (oc ha2)) (by rfl) dt rfl dt S dt ?_;intro z9 Aa S zX;replace S:=S.roOne (R:=R4_) (W:=w0) ha2;replace S:=S.t1;replace S:=S.lit1;refine ei U (pm (i_ (a2.length:Int)) (ei U (oB F fun zI zN F=>?_)));refine ec0 ow (ia (rY S.below (S.rdAt (R:=(aD (roR w0 R4_) 39)) 0 rfl)) zN) (ca (ag rfl (ag rfl (ag rfl rfl)))) S fun Ab zY S=>?_;refine pe (.bool zI) (ar rfl U rfl) (pm (.bool zI) (oF F (fun zC F=>?_) fun zC F=>?_))
    ·refine ei zC (pe (pt zE (0 + 1)) (aa rfl) (ei zC (pe u1 (ab rfl ((S.boxAt 1 rfl) 1 _ rfl)) (ei zC ?_))));refine aI [u1] (bc rfl (oc ha1)) (by rfl) dt rfl dt S dt ?_;intro Ac Ad S zZ;replace S:=S.roOne (R:=R4_) (W:=w0) ha1;replace S:=S.t1;replace S:=S.lit1;refine ei zC (pm (i_ (a1.length:Int)) (ei zC (oB F fun zJ zO F=>?_)));refine ec0 ow (ia (rY S.below (S.rdAt (R:=(aD (roR w0 R4_) 39)) 0 rfl)) zO) (ca (ag rfl (ag rfl (ag rfl rfl)))) S fun Ae z4 S=>?_;refine pe (.bool zJ) (ar rfl zC rfl) (pa (.bool zJ) (en zF (ae (aF rfl rfl ?_))));exact rB F S
    refine eo zC (eo zC (eo zC (eo zC (eo zC (pe (.bool false) (au rfl zC rfl) (pa (.bool false) (en zF (ae (aF rfl rfl ?_)))))))));exact rB F S
   refine eo U (eo U (eo U (eo U (eo U (pe (.bool false) (au rfl U rfl) (pm (.bool false) (eo rfl (eo rfl (eo rfl (eo rfl (eo rfl (pe (.bool false) (au rfl rfl rfl) (pa (.bool false) (en zF (ae (aF rfl rfl ?_))))))))))))))));exact rB F S
  refine eo J (eo J (eo J (eo J (eo J (pe (.bool false) (au rfl J rfl) (pm (.bool false) (eo rfl (eo rfl (eo rfl (eo rfl (eo rfl (pe (.bool false) (au rfl rfl rfl) (pm (.bool false) (eo rfl (eo rfl (eo rfl (eo rfl (eo rfl (pe (.bool false) (au rfl rfl rfl) (pa (.bool false) (en zF (ae (aF rfl rfl ?_)))))))))))))))))))))));exact rB F S
 refine eo zD (eo zD (pe (.bool false) (au rfl zD rfl) (pm (.bool false) (eo rfl (eo rfl (eo rfl (eo rfl (eo rfl (pe (.bool false) (au rfl rfl rfl) (pm (.bool false) (eo rfl (eo rfl (eo rfl (eo rfl (eo rfl (pe (.bool false) (au rfl rfl rfl) (pm (.bool false) (eo rfl (eo rfl (eo rfl (eo rfl (eo rfl (pe (.bool false) (au rfl rfl rfl) (pa (.bool false) (en zF (ae (aF rfl rfl ?_)))))))))))))))))))))))))));exact rB F S
theorem nG (N:Nat):∀ {w0:World} {a0:Int} {a1:Int} {a2:Int}  {r:(List T0_)} (_:dD N a0 a1 a2=some r), Calls Tryd.prog 60 #[i_ a0,i_ a1,i_ a2] w0 fun e w'=>∃ (q0:Value),e=.returned (q0)∧Sat w0 w' [Own R2_ [q0] r] := by
 induction N with
 | zero=>intros; exact nomatch (show none=some _ by assumption)
 | succ N ih=>
  intro w0 a0 a1 a2 r F;refine aJ Tryd.func60 rfl rfl dt ?_;have S:=Sat.start w0;refine sR fun _ Ar=>pa n_ (en Ar (sg fun _ z5=>sR fun _ As=>pm (i_ a2) (pe (.bool (a2 == 0)) (dx rfl rfl) (en As (oF F (fun zF F=>?_) fun zF F=>?_)))))
  ·refine ct zF (sR fun _ At=>?_);refine aY bH S dt ?_;intro A1 Au S AT;refine aI [Au] (bc rfl (oc (S.rdAt (R:=R0_) 0 rfl))) (by rfl) dt rfl dt S dt ?_;intro A2 zG S AU;replace S:=S.t1;replace S:=S.t1;replace S:=S.lit1;refine pa (.slice (some ⟨zG,0,none⟩) 1 1) (en At (ae (tr z5 (aF rfl rfl ?_))));have hr:=oI F;exact ⟨(.slice (some ⟨zG,0,none⟩) 1 1),cR hr fun r=>(.slice (some ⟨zG,0,none⟩) 1 1),sP hr (fun r=>[Own R2_ [(.slice (some ⟨zG,0,none⟩) 1 1)] r]) (S.keep 1)⟩
  refine cf zF (sn z5 (sR fun _ Av=>?_));refine aY R0_ S dt ?_;intro A3 z6 S AV;refine pa z6 (en Av (sg fun _ Aw=>sR fun _ Ax=>pm (i_ a0) (pa (i_ a0) (en Ax (bg fun _ Ay=>?_)))));obtain ⟨Az,hL,Ad⟩:=ob F;refine aC (fun k e w=>∃ (U:Value),∃ (zH:List T0_),∃ (J:Int),e 1=i_ a1∧e 2=i_ a2∧e 7=U∧e 8=i_ J∧Sat w0 w [Own R2_ [U] zH]∧fV (dD N) N k a1 a2 zH J=some Az) N ?_ ?_ ?_
  ·exact ⟨z6,[],a0,rfl,rfl,rfl,rfl,S,hL⟩
  ·rintro e w ⟨_,_,_,_,_,_,_,_,hz⟩; exact nn hz
  rintro k A4 A5 ⟨U,zH,J,zI,zJ,zU,zK,S,F⟩;refine gn fun _ z7=>sg fun _ z8=>sR fun _ AA=>pM (i_ J) zK (pM (i_ a2) zJ (oB F fun z9 Ae F=>pe (i_ z9) (aE rfl rfl Ae) (pM (i_ a1) zI (pe (.bool (decide (z9 ≤ a1))) (kI rfl rfl) (en AA (oF F (fun zL F=>?_) fun zL F=>?_))))))
  ·refine ct zL (sn z8 (sg fun _ AB=>bg fun _ AC=>sR fun _ AD=>pM (i_ J) zK (oB F fun AE Af F=>pe (i_ AE) (aE rfl rfl Af) (pM (i_ a1) zI (pM (i_ a2) zJ (oB F fun AF Ag F=>pe (i_ AF) (eV rfl rfl Ag) (oB F fun zM Ah F=>?_)))))));refine ec1 sy (ih Ah) (ca (ag rfl (ag rfl (ag rfl rfl)))) S fun A6 zD AW S=>?_;refine pa zD (en AD (sR fun _ AG=>pa (i_ 0) (en AG (bg fun _ AH=>?_))));obtain ⟨AI,hL,Ai⟩:=ob F;refine aC (fun k e w=>∃ (zE:Value),∃ (zN:List T0_),∃ (zC:Int),e 1=i_ a1∧e 2=i_ a2∧e 7=zE∧e 8=i_ J∧e 9=zD∧e 10=i_ zC∧Sat w0 w [Own R2_ [zD] zM,Own R2_ [zE] zN]∧dN (dD N) N k a1 a2 zN J zM zC=some AI) N ?_ ?_ ?_
   ·exact ⟨U,zH,0,zI,zJ,zU,zK,rfl,rfl,S,hL⟩
   ·rintro e w ⟨_,_,_,_,_,_,_,_,_,_,hz⟩; exact nn hz
   rintro k A7 A8 ⟨zE,zN,zC,zV,zW,zX,zO,zP,zQ,S,F⟩;refine gn fun _ Aa=>sg fun _ Ab=>sR fun _ AJ=>pM (i_ zC) zQ (pM zD zP (pe (i_ (zM.length:Int)) (az rfl (S.rdAt (R:=R2_) 0 rfl)) (pe (.bool (decide (zC < (zM.length:Int)))) (aG rfl rfl) (en AJ (oF F (fun zR F=>?_) fun zR F=>?_)))))
   ·refine ct zR (sn Ab (sg fun _ AK=>bg fun _ AM=>ac (pM zE zX (pM (i_ J) zO ?_))));refine aI [i_ J] rfl (by rfl) dt rfl dt S dt ?_;intro AN A9 S AX;replace S:=S.int J;replace S:=S.t1;replace S:=S.lit1;refine pM zD zP (pM (i_ zC) zQ (oB F fun AO Aj F=>?_));refine aU (wA:=AN) rfl (S.rdAt (R:=R2_) 1 rfl) rfl dt rfl Aj dt ?_;intro Ba AY Bb zY Ak;obtain ⟨AP,rfl⟩:=aN zY;refine pe AP (ab rfl (Ak 0 _ rfl)) (oB F fun Bc Al F=>?_);obtain ⟨AZ,Bd,Am,An,zZ⟩:=qO zY;replace S:=S.ints (xs:=AO);refine aT rfl dt rfl dt S rfl (rfl.trans Am) rfl An zZ Al dt ?_;intro Be AQ S;refine aI [AQ] (bc rfl (oc (S.rdAt (R:=R0_) 0 rfl))) (by rfl) dt rfl dt S dt ?_;intro Bf Bg S A0;refine oB F fun AR Ao F=>?_;have z4:=S.boxRow 0 rfl;replace S:=S.t3;replace S:=S.t2;replace S:=S.one;refine aT rfl dt rfl dt S rfl rfl rfl (by simp) z4 Ao dt ?_;intro Bh Ac S;refine pa Ac (ah (bn AM (tn AK ?_)));replace S:=S.r1;refine ac (pM (i_ zC) zQ (oB F fun zS Ap F=>pe (i_ zS) (aE rfl rfl Ap) (pa (i_ zS) (en Aa ?_))));replace S:=S.t1;replace S:=S.keep 2;exact ⟨Ac,AR,zS,zV,zW,rfl,zO,zP,rfl,S,F⟩
   refine cf zR (aH (tx Ab (tx Aa ?_)));replace F:=exB F Ai;refine bS AH (bn AC (tn AB ?_));replace S:=S.r0;refine ac (pM (i_ J) zO (oB F fun zT Aq F=>pe (i_ zT) (aE rfl rfl Aq) (pa (i_ zT) (en z7 ?_))));replace S:=S.keep 1;exact ⟨zE,zN,zT,zV,zW,zX,rfl,S,F⟩
  refine cf zL (aH (tx z8 (tx z7 ?_)));replace F:=exB F Ad;refine bS Ay (tn Aw (sR fun _ AS=>pM U zU (pa U (en AS (ae (aF rfl rfl ?_))))));have hr:=oI F;exact ⟨U,cR hr fun r=>U,sP hr (fun r=>[Own R2_ [U] r]) (S.keep 1)⟩
theorem oA {w0 : World} {a0 : Int} {a1 : Int} {a2 : Int}  {N : Nat} {r : (List T0_)} (hF : dD N a0 a1 a2 = some r) :
    Calls Tryd.prog 60 #[.int .i64 a0, .int .i64 a1, .int .i64 a2] w0 fun e w' => ∃ (q0 : Value), e = .returned (q0) ∧ Sat w0 w' [Own R2_ [q0] r] := nG N hF
theorem iH {w0:World} {a0:Int} {a1:Int}  {N:Nat} {r:T1_ × Bool} (F:bD N a0 a1=some r): Calls Tryd.prog 94 #[i_ a0,i_ a1] w0 fun e w'=>e=.returned (.tuple #[.agg #[i_ r.1.1,i_ r.1.2],.bool r.2])∧Ext w0 w' := by
 unfold bD at F;refine aJ Tryd.func94 rfl rfl dt ?_;have S:=Sat.start w0;refine sR fun _ Am=>?_;refine aB S dt ?_;intro A0 zG S AR;refine pa (.bool false) (en Am (sR fun _ An=>pa (i_ 4000000000000000000) (en An (sg fun _ zI=>sR fun _ zO=>pm (i_ a1) (pe (.bool (a1 == 0)) (dx rfl rfl) (pm (.bool (a1 == 0)) (oF F (fun J F=>?_) fun J F=>?_)))))))
 ·refine eo J (eo J (eo J (eo J (eo J (eo J (pe (.bool true) (ar rfl J rfl) (pm (.bool true) (eo rfl (eo rfl (eo rfl (eo rfl (eo rfl (eo rfl (pe (.bool true) (ar rfl rfl rfl) (en zO (ct rfl (sR fun _ Ao=>pe (.agg #[i_ 0,i_ 0]) (aQ [] [i_ 0,i_ 0] rfl rfl) ?_)))))))))))))))));refine ak (S.top 0 rfl) rfl [i_ 0,i_ 0] rfl rfl dt (all_cons rfl (all_cons rfl rfl)) ?_;intro Ap S;replace S:Sat w0 Ap [Box zG 71 [i_ 0,i_ 0]]:=S;refine pa (.bool false) (en Ao (ae (tr zI ?_)));refine bh (cs:=[i_ 0,i_ 0]) rfl rfl rfl (av (S.boxAt 0 rfl)) rfl ?_;have hr:=oI F;exact ⟨cR hr fun r=>.tuple #[.agg #[i_ r.1.1,i_ r.1.2],.bool r.2],S.below⟩
 refine ei J (pm (i_ a0) (ei J (pm (i_ 4000000000000000000) (ei J (oB F fun Aq z4 F=>pe (i_ Aq) (iz rfl z4) (ei J (pm (i_ 4000000000000000000) (ei J (oB F fun zP z5 F=>?_)))))))));refine ec0 gw (dl z5) (ca (ag rfl (ag rfl (ag rfl rfl)))) S fun A1 AS S=>?_;refine ei J (pe (.bool (!zP)) (aK rfl) (pe (.bool (!zP)) (au rfl J rfl) (pm (.bool (!zP)) (oF F (fun U F=>?_) fun U F=>?_))))
 ·refine ei (ai U) (pm (i_ a1) (ei (ai U) (pm (i_ 4000000000000000000) (ei (ai U) (oB F fun Ar z6 F=>pe (i_ Ar) (iz rfl z6) (ei (ai U) (pm (i_ 4000000000000000000) (ei (ai U) (oB F fun zS z7 F=>?_)))))))));refine ec0 gw (dl z7) (ca (ag rfl (ag rfl (ag rfl rfl)))) S fun A2 AT S=>?_;refine ei (ai U) (pe (.bool (!zS)) (aK rfl) (pe (.bool (!zS)) (au rfl (ai U) rfl) (en zO (oF F (fun zJ F=>?_) fun zJ F=>?_))))
  ·refine cf (ai zJ) (sn zI (sg fun _ zT=>sR fun _ As=>pm (i_ a1) (pe (.bool (decide (a1 < 0))) (aG rfl rfl) (en As (oF F (fun zK F=>?_) fun zK F=>?_)))))
   ·refine ct zK (sR fun _ At=>pm (i_ a0) (oB F fun zH z8 F=>pe (i_ zH) (iz rfl z8) (pa (i_ zH) (en At (ac (pm (i_ a1) (oB F fun zL z9 F=>pe (i_ zL) (iz rfl z9) (pa (i_ zL) (en zT (sR fun _ Au=>pm (i_ zH) (pm (i_ zH) (oB F fun zU Aa F=>pe (i_ zU) (iz rfl Aa) (pe (i_ (imx zH zU)) (n0 rfl rfl) (pm (i_ zL) (oB F fun zQ Ab F=>?_)))))))))))))));refine ec0 nM (jl Ab) (ca (ag rfl (ag rfl rfl))) S fun A3 AU S=>?_;refine pa (i_ zQ) (en Au (sg fun _ Av=>?_));obtain ⟨C,hCd⟩:∃ C:World → Prop,∀ w,C w ↔ ∃ G,Sat w0 w ([] ++ G):=⟨_,fun _=>Iff.rfl⟩;refine cl [0,1,2,3,4,5,6,7,8] C (by kernel_rfl) ?_;intro A4 Ac;replace S:=S.ext Ac;have hC:=(hCd _).2 ⟨_,S⟩;refine aP (i_ zH) 0 rfl rfl hC (ap rfl (fun w' hw'=>by obtain ⟨_,S⟩:=(hCd _).1 hw'; exact (aq rfl))) ?_;refine aP (i_ zQ) 1 rfl rfl hC (ap rfl (fun w' hw'=>by obtain ⟨_,S⟩:=(hCd _).1 hw'; exact (aq rfl))) ?_;refine oB F fun zC Ad F=>?_;refine aP (i_ zC) 2 rfl rfl hC (ap rfl (fun w' hw'=>by obtain ⟨_,S⟩:=(hCd _).1 hw'; exact (e9 rfl rfl Ad))) ?_;refine aP (i_ zL) 3 rfl rfl hC (ap rfl (fun w' hw'=>by obtain ⟨_,S⟩:=(hCd _).1 hw'; exact (aq rfl))) ?_;refine aP (i_ zQ) 4 rfl rfl hC (ap rfl (fun w' hw'=>by obtain ⟨_,S⟩:=(hCd _).1 hw'; exact (aq rfl))) ?_;refine oB F fun zD Ae F=>?_;refine aP (i_ zD) 5 rfl rfl hC (ap rfl (fun w' hw'=>by obtain ⟨_,S⟩:=(hCd _).1 hw'; exact (e9 rfl rfl Ae))) ?_;refine aP (.agg #[i_ zC,i_ zD]) 6 rfl rfl hC (ap rfl (fun w' hw'=>by obtain ⟨_,S⟩:=(hCd _).1 hw'; exact (aQ [(0,[i_ zC]),(1,[i_ zD])] [i_ zC,i_ zD] (el rfl (el rfl rfl)) rfl))) ?_;refine aO 7 rfl ?_;refine aB S dt ?_;intro A5 zV S AV;refine ah ?_;have hC:=(hCd _).2 ⟨_,S⟩;refine ⟨fun _=>hC,?_⟩;refine aO 8 rfl ?_;refine ak (S.top 0 rfl) rfl [i_ zC,i_ zD] rfl rfl dt (all_cons rfl (all_cons rfl rfl)) ?_;intro Aw S;replace S:Sat w0 Aw [Box zV 71 [i_ zC,i_ zD],Box zG 71 [i_ 0,i_ 0]]:=S;refine ah ?_;have hC:=(hCd _).2 ⟨_,S⟩;refine ⟨fun _=>hC,?_⟩;refine bt (by kernel_rfl) ?_;refine tn Av (sg fun _ zW=>sR fun _ Ax=>pe (.agg #[i_ zC,i_ zD]) (an (cs:=[i_ zC,i_ zD]) rfl rfl (av (S.boxAt 0 rfl))) (oB F fun Ay Af F=>?_));refine ec0 gC (bj Af) (ca (ag rfl rfl)) S fun A6 AW S=>?_;refine pe (.bool (!Ay)) (aK rfl) (en Ax (oF F (fun zM F=>?_) fun zM F=>?_))
    ·refine cf (ai zM) (sn zW (sR fun _ Az=>pe (.agg #[i_ zC,i_ zD]) (an (cs:=[i_ zC,i_ zD]) rfl rfl (av (S.boxAt 0 rfl))) ?_));refine ak (S.top 1 rfl) rfl [i_ zC,i_ zD] rfl rfl dt (all_cons rfl (all_cons rfl rfl)) ?_;intro AA S;replace S:Sat w0 AA [Box zG 71 [i_ zC,i_ zD],Box zV 71 [i_ zC,i_ zD]]:=S;refine pa (.bool true) (en Az (ae ?_));refine bh (cs:=[i_ zC,i_ zD]) rfl rfl rfl (av (S.boxAt 0 rfl)) rfl ?_;have hr:=oI F;exact ⟨cR hr fun r=>.tuple #[.agg #[i_ r.1.1,i_ r.1.2],.bool r.2],S.below⟩
    refine ct (aj zM) (sg fun _ AB=>?_);replace S:=S.r0;refine ac (pe (.agg #[i_ 0,i_ 0]) (aQ [] [i_ 0,i_ 0] rfl rfl) ?_);refine ak (S.top 0 rfl) rfl [i_ 0,i_ 0] rfl rfl dt (all_cons rfl (all_cons rfl rfl)) ?_;intro AC S;replace S:Sat w0 AC [Box zG 71 [i_ 0,i_ 0]]:=S;refine pa (.bool false) (en AB (ae (tr zW ?_)));refine bh (cs:=[i_ 0,i_ 0]) rfl rfl rfl (av (S.boxAt 0 rfl)) rfl ?_;have hr:=oI F;exact ⟨cR hr fun r=>.tuple #[.agg #[i_ r.1.1,i_ r.1.2],.bool r.2],S.below⟩
   refine cf zK (sn zT (sR fun _ AD=>pm (i_ a0) (pm (i_ a0) (oB F fun zX Ag F=>pe (i_ zX) (iz rfl Ag) (pe (i_ (imx a0 zX)) (n0 rfl rfl) (pm (i_ a1) (oB F fun zR Ah F=>?_)))))));refine ec0 nM (jl Ah) (ca (ag rfl (ag rfl rfl))) S fun A7 AX S=>?_;refine pa (i_ zR) (en AD (sg fun _ AE=>?_));obtain ⟨C,hCd⟩:∃ C:World → Prop,∀ w,C w ↔ ∃ G,Sat w0 w ([] ++ G):=⟨_,fun _=>Iff.rfl⟩;refine cl [0,1,2,3,4,5,6,7,8] C (by kernel_rfl) ?_;intro A8 Ai;replace S:=S.ext Ai;have hC:=(hCd _).2 ⟨_,S⟩;refine aP (i_ a0) 0 rfl rfl hC (ap rfl (fun w' hw'=>by obtain ⟨_,S⟩:=(hCd _).1 hw'; exact (aq rfl))) ?_;refine aP (i_ zR) 1 rfl rfl hC (ap rfl (fun w' hw'=>by obtain ⟨_,S⟩:=(hCd _).1 hw'; exact (aq rfl))) ?_;refine oB F fun zE Aj F=>?_;refine aP (i_ zE) 2 rfl rfl hC (ap rfl (fun w' hw'=>by obtain ⟨_,S⟩:=(hCd _).1 hw'; exact (e9 rfl rfl Aj))) ?_;refine aP (i_ a1) 3 rfl rfl hC (ap rfl (fun w' hw'=>by obtain ⟨_,S⟩:=(hCd _).1 hw'; exact (aq rfl))) ?_;refine aP (i_ zR) 4 rfl rfl hC (ap rfl (fun w' hw'=>by obtain ⟨_,S⟩:=(hCd _).1 hw'; exact (aq rfl))) ?_;refine oB F fun zF Ak F=>?_;refine aP (i_ zF) 5 rfl rfl hC (ap rfl (fun w' hw'=>by obtain ⟨_,S⟩:=(hCd _).1 hw'; exact (e9 rfl rfl Ak))) ?_;refine aP (.agg #[i_ zE,i_ zF]) 6 rfl rfl hC (ap rfl (fun w' hw'=>by obtain ⟨_,S⟩:=(hCd _).1 hw'; exact (aQ [(0,[i_ zE]),(1,[i_ zF])] [i_ zE,i_ zF] (el rfl (el rfl rfl)) rfl))) ?_;refine aO 7 rfl ?_;refine aB S dt ?_;intro A9 zY S AY;refine ah ?_;have hC:=(hCd _).2 ⟨_,S⟩;refine ⟨fun _=>hC,?_⟩;refine aO 8 rfl ?_;refine ak (S.top 0 rfl) rfl [i_ zE,i_ zF] rfl rfl dt (all_cons rfl (all_cons rfl rfl)) ?_;intro AF S;replace S:Sat w0 AF [Box zY 71 [i_ zE,i_ zF],Box zG 71 [i_ 0,i_ 0]]:=S;refine ah ?_;have hC:=(hCd _).2 ⟨_,S⟩;refine ⟨fun _=>hC,?_⟩;refine bt (by kernel_rfl) ?_;refine tn AE (sg fun _ zZ=>sR fun _ AG=>pe (.agg #[i_ zE,i_ zF]) (an (cs:=[i_ zE,i_ zF]) rfl rfl (av (S.boxAt 0 rfl))) (oB F fun AH Al F=>?_));refine ec0 gC (bj Al) (ca (ag rfl rfl)) S fun Ba AZ S=>?_;refine pe (.bool (!AH)) (aK rfl) (en AG (oF F (fun zN F=>?_) fun zN F=>?_))
   ·refine cf (ai zN) (sn zZ (sR fun _ AI=>pe (.agg #[i_ zE,i_ zF]) (an (cs:=[i_ zE,i_ zF]) rfl rfl (av (S.boxAt 0 rfl))) ?_));refine ak (S.top 1 rfl) rfl [i_ zE,i_ zF] rfl rfl dt (all_cons rfl (all_cons rfl rfl)) ?_;intro AJ S;replace S:Sat w0 AJ [Box zG 71 [i_ zE,i_ zF],Box zY 71 [i_ zE,i_ zF]]:=S;refine pa (.bool true) (en AI (ae ?_));refine bh (cs:=[i_ zE,i_ zF]) rfl rfl rfl (av (S.boxAt 0 rfl)) rfl ?_;have hr:=oI F;exact ⟨cR hr fun r=>.tuple #[.agg #[i_ r.1.1,i_ r.1.2],.bool r.2],S.below⟩
   refine ct (aj zN) (sg fun _ AK=>?_);replace S:=S.r0;refine ac (pe (.agg #[i_ 0,i_ 0]) (aQ [] [i_ 0,i_ 0] rfl rfl) ?_);refine ak (S.top 0 rfl) rfl [i_ 0,i_ 0] rfl rfl dt (all_cons rfl (all_cons rfl rfl)) ?_;intro AM S;replace S:Sat w0 AM [Box zG 71 [i_ 0,i_ 0]]:=S;refine pa (.bool false) (en AK (ae (tr zZ ?_)));refine bh (cs:=[i_ 0,i_ 0]) rfl rfl rfl (av (S.boxAt 0 rfl)) rfl ?_;have hr:=oI F;exact ⟨cR hr fun r=>.tuple #[.agg #[i_ r.1.1,i_ r.1.2],.bool r.2],S.below⟩
  refine ct (aj zJ) (sR fun _ AN=>pe (.agg #[i_ 0,i_ 0]) (aQ [] [i_ 0,i_ 0] rfl rfl) ?_);refine ak (S.top 0 rfl) rfl [i_ 0,i_ 0] rfl rfl dt (all_cons rfl (all_cons rfl rfl)) ?_;intro AO S;replace S:Sat w0 AO [Box zG 71 [i_ 0,i_ 0]]:=S;refine pa (.bool false) (en AN (ae (tr zI ?_)));refine bh (cs:=[i_ 0,i_ 0]) rfl rfl rfl (av (S.boxAt 0 rfl)) rfl ?_;have hr:=oI F;exact ⟨cR hr fun r=>.tuple #[.agg #[i_ r.1.1,i_ r.1.2],.bool r.2],S.below⟩
 refine eo (aj U) (eo (aj U) (eo (aj U) (eo (aj U) (eo (aj U) (eo (aj U) (pe (.bool true) (ar rfl (aj U) rfl) (en zO (ct rfl (sR fun _ AP=>pe (.agg #[i_ 0,i_ 0]) (aQ [] [i_ 0,i_ 0] rfl rfl) ?_)))))))));refine ak (S.top 0 rfl) rfl [i_ 0,i_ 0] rfl rfl dt (all_cons rfl (all_cons rfl rfl)) ?_;intro AQ S;replace S:Sat w0 AQ [Box zG 71 [i_ 0,i_ 0]]:=S;refine pa (.bool false) (en AP (ae (tr zI ?_)));refine bh (cs:=[i_ 0,i_ 0]) rfl rfl rfl (av (S.boxAt 0 rfl)) rfl ?_;have hr:=oI F;exact ⟨cR hr fun r=>.tuple #[.agg #[i_ r.1.1,i_ r.1.2],.bool r.2],S.below⟩
theorem gF {w0:World} {a0:Int} {a1:Int} {a2:Int} {a3:Int}  {N:Nat} {r:T1_ × Bool} (F:dk N a0 a1 a2 a3=some r): Calls Tryd.prog 83 #[.agg #[i_ a0,i_ a1],.agg #[i_ a2,i_ a3]] w0 fun e w'=>e=.returned (.tuple #[.agg #[i_ r.1.1,i_ r.1.2],.bool r.2])∧Ext w0 w' := by
 unfold dk at F;refine aJ Tryd.func83 rfl rfl dt ?_;have S:=Sat.start w0;refine sR fun _ zQ=>?_;refine be [i_ a0,i_ a1] rfl S dt ?_;intro Ac zE S z5;refine be [i_ a2,i_ a3] rfl S dt ?_;intro Ad zF S z6;refine aB S dt ?_;intro Ae zC S z7;refine pa (.bool false) (en zQ (sg fun _ zG=>sR fun _ zH=>pe (.agg #[i_ a0,i_ a1]) (an (cs:=[i_ a0,i_ a1]) rfl rfl (av (S.boxAt 2 rfl))) (oB F fun zI zL F=>?_)));refine ec0 gC (bj zL) (ca (ag rfl rfl)) S fun Af z8 S=>?_;refine pe (.bool (!zI)) (aK rfl) (pm (.bool (!zI)) (oF F (fun U F=>?_) fun U F=>?_))
 ·refine ei (ai U) (pe (.agg #[i_ a2,i_ a3]) (an (cs:=[i_ a2,i_ a3]) rfl rfl (av (S.boxAt 1 rfl))) (ei (ai U) (oB F fun zJ zM F=>?_)));refine ec0 gC (bj zM) (ca (ag rfl rfl)) S fun Ag z9 S=>?_;refine ei (ai U) (pe (.bool (!zJ)) (aK rfl) (pe (.bool (!zJ)) (au rfl (ai U) rfl) (en zH (oF F (fun zD F=>?_) fun zD F=>?_))))
  ·refine cf (ai zD) (sn zG (sR fun _ zR=>pe (pt zE (0 + 0)) (aa rfl) (pe (i_ a0) (ab rfl ((S.boxAt 2 rfl) 0 _ rfl)) (pe (pt zF (0 + 1)) (aa rfl) (pe (i_ a3) (ab rfl ((S.boxAt 1 rfl) 1 _ rfl)) (oB F fun zS zN F=>pe (i_ zS) (dE rfl rfl zN) (pe (pt zE (0 + 1)) (aa rfl) (pe (i_ a1) (ab rfl ((S.boxAt 2 rfl) 1 _ rfl)) (pe (pt zF (0 + 0)) (aa rfl) (pe (i_ a2) (ab rfl ((S.boxAt 1 rfl) 0 _ rfl)) (oB F fun zT zO F=>pe (i_ zT) (dE rfl rfl zO) (oB F fun J zP F=>?_))))))))))));refine ec0 qz (iH zP) (ca (ag rfl (ag rfl rfl))) S fun Ah Aa S=>?_;refine pm (.tuple #[.agg #[i_ J.1.1,i_ J.1.2],.bool J.2]) (pe (.agg #[i_ J.1.1,i_ J.1.2]) (am rfl rfl) (pe (.bool J.2) (am rfl rfl) ?_));refine aB S dt ?_;intro Ai zK S Ab;refine ak (S.top 0 rfl) rfl [i_ J.1.1,i_ J.1.2] rfl rfl dt (all_cons rfl (all_cons rfl rfl)) ?_;intro zU S;replace S:Sat w0 zU [Box zK 71 [i_ J.1.1,i_ J.1.2],Box zC 71 [i_ 0,i_ 0],Box zF 71 [i_ a2,i_ a3],Box zE 71 [i_ a0,i_ a1]]:=S;refine pa (.bool J.2) (en zR (sg fun _ zV=>?_));replace S:=S.r3.r2;refine ac (pe (.agg #[i_ J.1.1,i_ J.1.2]) (an (cs:=[i_ J.1.1,i_ J.1.2]) rfl rfl (av (S.boxAt 0 rfl))) (pm (.bool J.2) ?_));refine ak (S.top 1 rfl) rfl [i_ J.1.1,i_ J.1.2] rfl rfl dt (all_cons rfl (all_cons rfl rfl)) ?_;intro zW S;replace S:Sat w0 zW [Box zC 71 [i_ J.1.1,i_ J.1.2],Box zK 71 [i_ J.1.1,i_ J.1.2]]:=S;refine pa (.bool J.2) (en zV (ae ?_));refine bh (cs:=[i_ J.1.1,i_ J.1.2]) rfl rfl rfl (av (S.boxAt 0 rfl)) rfl ?_;have hr:=oI F;exact ⟨cR hr fun r=>.tuple #[.agg #[i_ r.1.1,i_ r.1.2],.bool r.2],S.below⟩
  refine ct (aj zD) (sg fun _ zX=>?_);replace S:=S.r2.r1;refine ac (pe (.agg #[i_ 0,i_ 0]) (aQ [] [i_ 0,i_ 0] rfl rfl) ?_);refine ak (S.top 0 rfl) rfl [i_ 0,i_ 0] rfl rfl dt (all_cons rfl (all_cons rfl rfl)) ?_;intro zY S;replace S:Sat w0 zY [Box zC 71 [i_ 0,i_ 0]]:=S;refine pa (.bool false) (en zX (ae (tr zG ?_)));refine bh (cs:=[i_ 0,i_ 0]) rfl rfl rfl (av (S.boxAt 0 rfl)) rfl ?_;have hr:=oI F;exact ⟨cR hr fun r=>.tuple #[.agg #[i_ r.1.1,i_ r.1.2],.bool r.2],S.below⟩
 refine eo (aj U) (eo (aj U) (eo (aj U) (pe (.bool true) (ar rfl (aj U) rfl) (en zH (ct rfl (sg fun _ zZ=>?_))))));replace S:=S.r2.r1;refine ac (pe (.agg #[i_ 0,i_ 0]) (aQ [] [i_ 0,i_ 0] rfl rfl) ?_);refine ak (S.top 0 rfl) rfl [i_ 0,i_ 0] rfl rfl dt (all_cons rfl (all_cons rfl rfl)) ?_;intro z4 S;replace S:Sat w0 z4 [Box zC 71 [i_ 0,i_ 0]]:=S;refine pa (.bool false) (en zZ (ae (tr zG ?_)));refine bh (cs:=[i_ 0,i_ 0]) rfl rfl rfl (av (S.boxAt 0 rfl)) rfl ?_;have hr:=oI F;exact ⟨cR hr fun r=>.tuple #[.agg #[i_ r.1.1,i_ r.1.2],.bool r.2],S.below⟩
theorem gH {w0:World} {a0:Int} {a1:Int} {a2:Int} {a3:Int}  {N:Nat} {r:T1_ × Bool} (F:bJ N a0 a1 a2 a3=some r): Calls Tryd.prog 92 #[.agg #[i_ a0,i_ a1],.agg #[i_ a2,i_ a3]] w0 fun e w'=>e=.returned (.tuple #[.agg #[i_ r.1.1,i_ r.1.2],.bool r.2])∧Ext w0 w' := by
 unfold bJ at F;refine aJ Tryd.func92 rfl rfl dt ?_;have S:=Sat.start w0;refine sR fun _ zQ=>?_;refine be [i_ a0,i_ a1] rfl S dt ?_;intro Ac zE S z5;refine be [i_ a2,i_ a3] rfl S dt ?_;intro Ad zF S z6;refine aB S dt ?_;intro Ae zC S z7;refine pa (.bool false) (en zQ (sg fun _ zG=>sR fun _ zH=>pe (.agg #[i_ a0,i_ a1]) (an (cs:=[i_ a0,i_ a1]) rfl rfl (av (S.boxAt 2 rfl))) (oB F fun zI zL F=>?_)));refine ec0 gC (bj zL) (ca (ag rfl rfl)) S fun Af z8 S=>?_;refine pe (.bool (!zI)) (aK rfl) (pm (.bool (!zI)) (oF F (fun U F=>?_) fun U F=>?_))
 ·refine ei (ai U) (pe (.agg #[i_ a2,i_ a3]) (an (cs:=[i_ a2,i_ a3]) rfl rfl (av (S.boxAt 1 rfl))) (ei (ai U) (oB F fun zJ zM F=>?_)));refine ec0 gC (bj zM) (ca (ag rfl rfl)) S fun Ag z9 S=>?_;refine ei (ai U) (pe (.bool (!zJ)) (aK rfl) (pe (.bool (!zJ)) (au rfl (ai U) rfl) (en zH (oF F (fun zD F=>?_) fun zD F=>?_))))
  ·refine cf (ai zD) (sn zG (sR fun _ zR=>pe (pt zE (0 + 0)) (aa rfl) (pe (i_ a0) (ab rfl ((S.boxAt 2 rfl) 0 _ rfl)) (pe (pt zF (0 + 0)) (aa rfl) (pe (i_ a2) (ab rfl ((S.boxAt 1 rfl) 0 _ rfl)) (oB F fun zS zN F=>pe (i_ zS) (dE rfl rfl zN) (pe (pt zE (0 + 1)) (aa rfl) (pe (i_ a1) (ab rfl ((S.boxAt 2 rfl) 1 _ rfl)) (pe (pt zF (0 + 1)) (aa rfl) (pe (i_ a3) (ab rfl ((S.boxAt 1 rfl) 1 _ rfl)) (oB F fun zT zO F=>pe (i_ zT) (dE rfl rfl zO) (oB F fun J zP F=>?_))))))))))));refine ec0 qz (iH zP) (ca (ag rfl (ag rfl rfl))) S fun Ah Aa S=>?_;refine pm (.tuple #[.agg #[i_ J.1.1,i_ J.1.2],.bool J.2]) (pe (.agg #[i_ J.1.1,i_ J.1.2]) (am rfl rfl) (pe (.bool J.2) (am rfl rfl) ?_));refine aB S dt ?_;intro Ai zK S Ab;refine ak (S.top 0 rfl) rfl [i_ J.1.1,i_ J.1.2] rfl rfl dt (all_cons rfl (all_cons rfl rfl)) ?_;intro zU S;replace S:Sat w0 zU [Box zK 71 [i_ J.1.1,i_ J.1.2],Box zC 71 [i_ 0,i_ 0],Box zF 71 [i_ a2,i_ a3],Box zE 71 [i_ a0,i_ a1]]:=S;refine pa (.bool J.2) (en zR (sg fun _ zV=>?_));replace S:=S.r3.r2;refine ac (pe (.agg #[i_ J.1.1,i_ J.1.2]) (an (cs:=[i_ J.1.1,i_ J.1.2]) rfl rfl (av (S.boxAt 0 rfl))) (pm (.bool J.2) ?_));refine ak (S.top 1 rfl) rfl [i_ J.1.1,i_ J.1.2] rfl rfl dt (all_cons rfl (all_cons rfl rfl)) ?_;intro zW S;replace S:Sat w0 zW [Box zC 71 [i_ J.1.1,i_ J.1.2],Box zK 71 [i_ J.1.1,i_ J.1.2]]:=S;refine pa (.bool J.2) (en zV (ae ?_));refine bh (cs:=[i_ J.1.1,i_ J.1.2]) rfl rfl rfl (av (S.boxAt 0 rfl)) rfl ?_;have hr:=oI F;exact ⟨cR hr fun r=>.tuple #[.agg #[i_ r.1.1,i_ r.1.2],.bool r.2],S.below⟩
  refine ct (aj zD) (sg fun _ zX=>?_);replace S:=S.r2.r1;refine ac (pe (.agg #[i_ 0,i_ 0]) (aQ [] [i_ 0,i_ 0] rfl rfl) ?_);refine ak (S.top 0 rfl) rfl [i_ 0,i_ 0] rfl rfl dt (all_cons rfl (all_cons rfl rfl)) ?_;intro zY S;replace S:Sat w0 zY [Box zC 71 [i_ 0,i_ 0]]:=S;refine pa (.bool false) (en zX (ae (tr zG ?_)));refine bh (cs:=[i_ 0,i_ 0]) rfl rfl rfl (av (S.boxAt 0 rfl)) rfl ?_;have hr:=oI F;exact ⟨cR hr fun r=>.tuple #[.agg #[i_ r.1.1,i_ r.1.2],.bool r.2],S.below⟩
 refine eo (aj U) (eo (aj U) (eo (aj U) (pe (.bool true) (ar rfl (aj U) rfl) (en zH (ct rfl (sg fun _ zZ=>?_))))));replace S:=S.r2.r1;refine ac (pe (.agg #[i_ 0,i_ 0]) (aQ [] [i_ 0,i_ 0] rfl rfl) ?_);refine ak (S.top 0 rfl) rfl [i_ 0,i_ 0] rfl rfl dt (all_cons rfl (all_cons rfl rfl)) ?_;intro z4 S;replace S:Sat w0 z4 [Box zC 71 [i_ 0,i_ 0]]:=S;refine pa (.bool false) (en zZ (ae (tr zG ?_)));refine bh (cs:=[i_ 0,i_ 0]) rfl rfl rfl (av (S.boxAt 0 rfl)) rfl ?_;have hr:=oI F;exact ⟨cR hr fun r=>.tuple #[.agg #[i_ r.1.1,i_ r.1.2],.bool r.2],S.below⟩
theorem jF {w0:World} {a0:Int} {a1:Int} {a2:Int} {a3:Int}  {N:Nat} {r:T1_ × Bool} (F:bI N a0 a1 a2 a3=some r): Calls Tryd.prog 101 #[.agg #[i_ a0,i_ a1],.agg #[i_ a2,i_ a3]] w0 fun e w'=>e=.returned (.tuple #[.agg #[i_ r.1.1,i_ r.1.2],.bool r.2])∧Ext w0 w' := by
 unfold bI at F;refine aJ Tryd.func101 rfl rfl dt ?_;have S:=Sat.start w0;refine sR fun _ zS=>?_;refine be [i_ a0,i_ a1] rfl S dt ?_;intro Ag zC S z9;refine be [i_ a2,i_ a3] rfl S dt ?_;intro Ah zD S Aa;refine aB S dt ?_;intro Ai zE S Ab;refine pa (.bool false) (en zS (sg fun _ zG=>sR fun _ zH=>pe (.agg #[i_ a0,i_ a1]) (an (cs:=[i_ a0,i_ a1]) rfl rfl (av (S.boxAt 2 rfl))) (oB F fun zI zL F=>?_)));refine ec0 gC (bj zL) (ca (ag rfl rfl)) S fun Aj Ac S=>?_;refine pe (.bool (!zI)) (aK rfl) (pm (.bool (!zI)) (oF F (fun U F=>?_) fun U F=>?_))
 ·refine ei (ai U) (pe (.agg #[i_ a2,i_ a3]) (an (cs:=[i_ a2,i_ a3]) rfl rfl (av (S.boxAt 1 rfl))) (ei (ai U) (oB F fun zJ zM F=>?_)));refine ec0 gC (bj zM) (ca (ag rfl rfl)) S fun Ak Ad S=>?_;refine ei (ai U) (pe (.bool (!zJ)) (aK rfl) (pe (.bool (!zJ)) (au rfl (ai U) rfl) (en zH (oF F (fun zF F=>?_) fun zF F=>?_))))
  ·refine cf (ai zF) (sn zG (sR fun _ zT=>pe (pt zC (0 + 0)) (aa rfl) (pe (i_ a0) (ab rfl ((S.boxAt 2 rfl) 0 _ rfl)) (pe (pt zD (0 + 1)) (aa rfl) (pe (i_ a3) (ab rfl ((S.boxAt 1 rfl) 1 _ rfl)) (oB F fun zU zN F=>pe (i_ zU) (dE rfl rfl zN) (pe (pt zD (0 + 0)) (aa rfl) (pe (i_ a2) (ab rfl ((S.boxAt 1 rfl) 0 _ rfl)) (pe (pt zC (0 + 1)) (aa rfl) (pe (i_ a1) (ab rfl ((S.boxAt 2 rfl) 1 _ rfl)) (oB F fun zV zO F=>pe (i_ zV) (dE rfl rfl zO) (oB F fun zW zP F=>pe (i_ zW) (aE rfl rfl zP) (pe (pt zC (0 + 1)) (aa rfl) (pe (i_ a1) (ab rfl ((S.boxAt 2 rfl) 1 _ rfl)) (pe (pt zD (0 + 1)) (aa rfl) (pe (i_ a3) (ab rfl ((S.boxAt 1 rfl) 1 _ rfl)) (oB F fun zX zQ F=>pe (i_ zX) (dE rfl rfl zQ) (oB F fun J zR F=>?_))))))))))))))))));refine ec0 qz (iH zR) (ca (ag rfl (ag rfl rfl))) S fun Al Ae S=>?_;refine pm (.tuple #[.agg #[i_ J.1.1,i_ J.1.2],.bool J.2]) (pe (.agg #[i_ J.1.1,i_ J.1.2]) (am rfl rfl) (pe (.bool J.2) (am rfl rfl) ?_));refine aB S dt ?_;intro Am zK S Af;refine ak (S.top 0 rfl) rfl [i_ J.1.1,i_ J.1.2] rfl rfl dt (all_cons rfl (all_cons rfl rfl)) ?_;intro zY S;replace S:Sat w0 zY [Box zK 71 [i_ J.1.1,i_ J.1.2],Box zE 71 [i_ 0,i_ 0],Box zD 71 [i_ a2,i_ a3],Box zC 71 [i_ a0,i_ a1]]:=S;refine pa (.bool J.2) (en zT (sg fun _ zZ=>?_));replace S:=S.r3.r2;refine ac (pe (.agg #[i_ J.1.1,i_ J.1.2]) (an (cs:=[i_ J.1.1,i_ J.1.2]) rfl rfl (av (S.boxAt 0 rfl))) (pm (.bool J.2) ?_));refine ak (S.top 1 rfl) rfl [i_ J.1.1,i_ J.1.2] rfl rfl dt (all_cons rfl (all_cons rfl rfl)) ?_;intro z4 S;replace S:Sat w0 z4 [Box zE 71 [i_ J.1.1,i_ J.1.2],Box zK 71 [i_ J.1.1,i_ J.1.2]]:=S;refine pa (.bool J.2) (en zZ (ae ?_));refine bh (cs:=[i_ J.1.1,i_ J.1.2]) rfl rfl rfl (av (S.boxAt 0 rfl)) rfl ?_;have hr:=oI F;exact ⟨cR hr fun r=>.tuple #[.agg #[i_ r.1.1,i_ r.1.2],.bool r.2],S.below⟩
  refine ct (aj zF) (sg fun _ z5=>?_);replace S:=S.r2.r1;refine ac (pe (.agg #[i_ 0,i_ 0]) (aQ [] [i_ 0,i_ 0] rfl rfl) ?_);refine ak (S.top 0 rfl) rfl [i_ 0,i_ 0] rfl rfl dt (all_cons rfl (all_cons rfl rfl)) ?_;intro z6 S;replace S:Sat w0 z6 [Box zE 71 [i_ 0,i_ 0]]:=S;refine pa (.bool false) (en z5 (ae (tr zG ?_)));refine bh (cs:=[i_ 0,i_ 0]) rfl rfl rfl (av (S.boxAt 0 rfl)) rfl ?_;have hr:=oI F;exact ⟨cR hr fun r=>.tuple #[.agg #[i_ r.1.1,i_ r.1.2],.bool r.2],S.below⟩
 refine eo (aj U) (eo (aj U) (eo (aj U) (pe (.bool true) (ar rfl (aj U) rfl) (en zH (ct rfl (sg fun _ z7=>?_))))));replace S:=S.r2.r1;refine ac (pe (.agg #[i_ 0,i_ 0]) (aQ [] [i_ 0,i_ 0] rfl rfl) ?_);refine ak (S.top 0 rfl) rfl [i_ 0,i_ 0] rfl rfl dt (all_cons rfl (all_cons rfl rfl)) ?_;intro z8 S;replace S:Sat w0 z8 [Box zE 71 [i_ 0,i_ 0]]:=S;refine pa (.bool false) (en z7 (ae (tr zG ?_)));refine bh (cs:=[i_ 0,i_ 0]) rfl rfl rfl (av (S.boxAt 0 rfl)) rfl ?_;have hr:=oI F;exact ⟨cR hr fun r=>.tuple #[.agg #[i_ r.1.1,i_ r.1.2],.bool r.2],S.below⟩
theorem jL {w0:World} {a0:Int} {a1:Int} {a2:Int} {a3:Int}  {N:Nat} {r:T1_ × Bool} (F:dG N a0 a1 a2 a3=some r): Calls Tryd.prog 93 #[.agg #[i_ a0,i_ a1],.agg #[i_ a2,i_ a3]] w0 fun e w'=>e=.returned (.tuple #[.agg #[i_ r.1.1,i_ r.1.2],.bool r.2])∧Ext w0 w' := by
 unfold dG at F;refine aJ Tryd.func93 rfl rfl dt ?_;have S:=Sat.start w0;refine sR fun _ zK=>?_;refine be [i_ a0,i_ a1] rfl S dt ?_;intro z4 zL S zU;refine be [i_ a2,i_ a3] rfl S dt ?_;intro z5 zD S zV;refine aB S dt ?_;intro z6 zE S zW;refine pa (.bool false) (en zK (sg fun _ zF=>sR fun _ zM=>pe (.agg #[i_ a2,i_ a3]) (an (cs:=[i_ a2,i_ a3]) rfl rfl (av (S.boxAt 1 rfl))) (oB F fun zN zH F=>?_)));refine ec0 gC (bj zH) (ca (ag rfl rfl)) S fun z7 zX S=>?_;refine pe (.bool (!zN)) (aK rfl) (en zM (oF F (fun U F=>?_) fun U F=>?_))
 ·refine cf (ai U) (sn zF (sR fun _ zO=>pe (.agg #[i_ a0,i_ a1]) (an (cs:=[i_ a0,i_ a1]) rfl rfl (av (S.boxAt 2 rfl))) (pe (pt zD (0 + 0)) (aa rfl) (pe (i_ a2) (ab rfl ((S.boxAt 1 rfl) 0 _ rfl)) (oB F fun zC zI F=>pe (i_ zC) (iz rfl zI) (pe (pt zD (0 + 1)) (aa rfl) (pe (i_ a3) (ab rfl ((S.boxAt 1 rfl) 1 _ rfl)) (pe (.agg #[i_ zC,i_ a3]) (aQ [(0,[i_ zC]),(1,[i_ a3])] [i_ zC,i_ a3] (el rfl (el rfl rfl)) rfl) (oB F fun J zJ F=>?_)))))))));refine ec0 rO (jF zJ) (ca (ag rfl (ag rfl rfl))) S fun z8 zY S=>?_;refine pm (.tuple #[.agg #[i_ J.1.1,i_ J.1.2],.bool J.2]) (pe (.agg #[i_ J.1.1,i_ J.1.2]) (am rfl rfl) (pe (.bool J.2) (am rfl rfl) ?_));refine aB S dt ?_;intro z9 zG S zZ;refine ak (S.top 0 rfl) rfl [i_ J.1.1,i_ J.1.2] rfl rfl dt (all_cons rfl (all_cons rfl rfl)) ?_;intro zP S;replace S:Sat w0 zP [Box zG 71 [i_ J.1.1,i_ J.1.2],Box zE 71 [i_ 0,i_ 0],Box zD 71 [i_ a2,i_ a3],Box zL 71 [i_ a0,i_ a1]]:=S;refine pa (.bool J.2) (en zO (sg fun _ zQ=>?_));replace S:=S.r3.r2;refine ac (pe (.agg #[i_ J.1.1,i_ J.1.2]) (an (cs:=[i_ J.1.1,i_ J.1.2]) rfl rfl (av (S.boxAt 0 rfl))) (pm (.bool J.2) ?_));refine ak (S.top 1 rfl) rfl [i_ J.1.1,i_ J.1.2] rfl rfl dt (all_cons rfl (all_cons rfl rfl)) ?_;intro zR S;replace S:Sat w0 zR [Box zE 71 [i_ J.1.1,i_ J.1.2],Box zG 71 [i_ J.1.1,i_ J.1.2]]:=S;refine pa (.bool J.2) (en zQ (ae ?_));refine bh (cs:=[i_ J.1.1,i_ J.1.2]) rfl rfl rfl (av (S.boxAt 0 rfl)) rfl ?_;have hr:=oI F;exact ⟨cR hr fun r=>.tuple #[.agg #[i_ r.1.1,i_ r.1.2],.bool r.2],S.below⟩
 refine ct (aj U) (sg fun _ zS=>?_);replace S:=S.r2.r1;refine ac (pe (.agg #[i_ 0,i_ 0]) (aQ [] [i_ 0,i_ 0] rfl rfl) ?_);refine ak (S.top 0 rfl) rfl [i_ 0,i_ 0] rfl rfl dt (all_cons rfl (all_cons rfl rfl)) ?_;intro zT S;replace S:Sat w0 zT [Box zE 71 [i_ 0,i_ 0]]:=S;refine pa (.bool false) (en zS (ae (tr zF ?_)));refine bh (cs:=[i_ 0,i_ 0]) rfl rfl rfl (av (S.boxAt 0 rfl)) rfl ?_;have hr:=oI F;exact ⟨cR hr fun r=>.tuple #[.agg #[i_ r.1.1,i_ r.1.2],.bool r.2],S.below⟩
theorem kW {w0:World} {zG:World} {G0:List Asn} {u0:Value} {a0:List T2_} {a1:Int} (S:Sat zG w0 (Own R7_ [u0] a0 :: G0)) {N:Nat} {r:Bool × T4_} (F:fq N a0 a1=some r): Calls Tryd.prog 82 #[u0,i_ a1] w0 fun e w'=>e=.returned (.bool r.1)∧Sat zG w' (Own R7_ [u0] r.2 :: G0) := by
 unfold fq at F;refine aJ Tryd.func82 rfl rfl dt ?_;refine sR fun _ CS=>pa (.bool false) (en CS (sg fun _ AZ=>sR fun _ CT=>pa (i_ 0) (en CT (bg fun _ A0=>?_))));obtain ⟨CU,hL,AC⟩:=ob F;refine aC (fun k e w=>∃ (zT:List T2_),∃ (zD:Int),e 0=u0∧e 1=i_ a1∧e 5=i_ zD∧Sat zG w (Own R7_ [u0] zT :: G0)∧bZ N k zT a1 zD=some CU) N ?_ ?_ ?_
 ·exact ⟨a0,0,rfl,rfl,rfl,S,hL⟩
 ·rintro e w ⟨_,_,_,_,_,_,hz⟩; exact nn hz
 rintro k DN zU ⟨zT,zD,zR,zP,zS,S,F⟩;refine gn fun _ z4=>sg fun _ BC=>sR fun _ CV=>pM (i_ zD) zS (pM u0 zR (pe (i_ (zT.length:Int)) (az rfl (S.rdAt (R:=R7_) 0 rfl)) (pe (.bool (decide (zD < (zT.length:Int)))) (aG rfl rfl) (en CV (oF F (fun AD F=>?_) fun AD F=>?_)))))
 ·refine ct AD (sn BC (sg fun _ Ak=>bg fun _ Al=>sg fun _ A1=>sR fun _ BD=>pM (i_ zD) zS (pM (i_ a1) zP (pe (.bool (zD == a1)) (dx rfl rfl) (pm (.bool (zD == a1)) (oF F (fun zF F=>?_) fun zF F=>?_))))))
  ·refine eo zF (eo zF (eo zF (eo zF (eo zF (eo zF (eo zF (eo zF (eo zF (pe (.bool true) (ar rfl zF rfl) (en BD (ct rfl (aH (tx A1 (bS Al (tn Ak (ac (pM (i_ zD) zS (oB F fun A2 BM F=>pe (i_ A2) (aE rfl rfl BM) (pa (i_ A2) (en z4 ?_))))))))))))))))))));exact ⟨zT,A2,zR,zP,rfl,S,F⟩
  refine ei zF (pM u0 zR (ei zF (pM (i_ zD) zS (ei zF (oB F fun DO BN F=>?_)))));refine aU (wA:=zU) rfl (S.rdAt (R:=R7_) 0 rfl) rfl dt rfl BN dt ?_;intro DP Dz DQ zI zK;obtain ⟨CX,rfl⟩:=aN zI;refine ei zF (pe CX (ab rfl (zK 0 _ rfl)) (ei zF (pM (i_ a1) zP (ei zF (oB F fun A3 BO F=>?_)))));refine aU (wA:=zU) rfl zI rfl dt rfl BO dt ?_;intro CY BP DR BQ zL;obtain ⟨_,_,rfl,BR,BS⟩:=BQ;obtain rfl:=BR;obtain rfl:=BS;refine ei zF (pe (pt CY (BP + 0)) (aa rfl) (ei zF (pe (i_ A3.1) (ab rfl (zL 0 _ rfl)) (ei zF (pe (.bool (A3.1 == 0)) (dx rfl rfl) (pe (.bool (A3.1 == 0)) (au rfl zF rfl) (en BD (oF F (fun AE F=>?_) fun AE F=>?_))))))))
  ·refine ct AE (aH (tx A1 (bS Al (tn Ak (ac (pM (i_ zD) zS (oB F fun A4 BT F=>pe (i_ A4) (aE rfl rfl BT) (pa (i_ A4) (en z4 ?_)))))))));exact ⟨zT,A4,zR,zP,rfl,S,F⟩
  refine cf AE (sn A1 (sg fun _ CZ=>?_));obtain ⟨Ar,AF,S⟩:=S.frz;replace S:Sat zG zU (Frz zU Ar :: G0):=S;refine oB F fun DS BU F=>oB F fun AG BV F=>oB F fun DT BW F=>oB F fun AH BX F=>oB F fun J Bh F=>?_;refine fT (fun e w=>∃ (zE:Nat),e 0=u0∧e 1=i_ a1∧e 5=i_ zD∧e 6=pt zE 0∧e 7=.bool J.2∧Sat zG w (Frz zU Ar :: Box zE 71 [i_ J.1.1,i_ J.1.2] :: G0)) ?_ ?_
  ·obtain ⟨C,hCd⟩:∃ C:World → Prop,∀ w,C w ↔ ∃ G,Sat zG w ([Frz zU Ar] ++ G):=⟨_,fun _=>Iff.rfl⟩;refine cl [0,1,2,3,4,5,6,7,8,9,10,11,12,13,14,15,16,17,18,19,20] C (by kernel_rfl) ?_;intro DU Am;replace S:=S.ext Am;have zK:=aw Am zK;have zI:=fN zI Am;have zL:=aw Am zL;have hC:=(hCd _).2 ⟨_,S⟩;refine aP u0 0 rfl rfl hC (ap rfl (fun w' hw'=>by obtain ⟨_,S⟩:=(hCd _).1 hw'; exact (aq zR))) ?_;refine aP (i_ zD) 1 rfl rfl hC (ap rfl (fun w' hw'=>by obtain ⟨_,S⟩:=(hCd _).1 hw'; exact (aq zS))) ?_;refine dq (by kernel_rfl) 2 rfl hC (by kernel_rfl) (by kernel_rfl) rfl AF rfl rfl BU dt ?_;intro DV DA DW DX Bi z6 As BY;replace z6:=fun q hq=>(fun _ h=>h) q (z6 q hq);replace As:=(fun _ h=>h) _ As;obtain ⟨C0,rfl⟩:=aN (Rep.own_rd _ Bi);refine aP C0 3 rfl rfl hC (ap rfl (fun w' hw'=>by obtain ⟨_,S⟩:=(hCd _).1 hw'; exact (ab rfl ((S.frzCells 0 rfl As BY) 0 _ rfl)))) ?_;refine aP (i_ a1) 4 rfl rfl hC (ap rfl (fun w' hw'=>by obtain ⟨_,S⟩:=(hCd _).1 hw'; exact (aq zP))) ?_;refine dq (by kernel_rfl) 5 rfl hC (by kernel_rfl) (by kernel_rfl) rfl Bi rfl rfl BV dt ?_;intro DY DB DZ D1 BZ z7 At B0;replace z7:=fun q hq=>z6 q (z7 q hq);replace At:=z6 _ At;obtain ⟨_,_,_,_,rfl,rfl,B1,B2⟩:=BZ;have Dp:=fun q hq=>z7 q (List.mem_append_left _ hq);have Dq:=fun q hq=>z7 q (List.mem_append_right _ hq);obtain ⟨rfl,_⟩:=B1;obtain ⟨rfl,_⟩:=B2;refine aP (.agg #[i_ AG.1,i_ AG.2]) 6 rfl rfl hC (ap rfl (fun w' hw'=>by obtain ⟨_,S⟩:=(hCd _).1 hw'; exact (an (cs:=[i_ AG.1,i_ AG.2]) rfl rfl (S.frzCells 0 rfl At B0)))) ?_;refine aP u0 7 rfl rfl hC (ap rfl (fun w' hw'=>by obtain ⟨_,S⟩:=(hCd _).1 hw'; exact (aq zR))) ?_;refine aP (i_ a1) 8 rfl rfl hC (ap rfl (fun w' hw'=>by obtain ⟨_,S⟩:=(hCd _).1 hw'; exact (aq zP))) ?_;refine dq (by kernel_rfl) 9 rfl hC (by kernel_rfl) (by kernel_rfl) rfl AF rfl rfl BW dt ?_;intro D2 DC D4 D5 Bj z8 Au B3;replace z8:=fun q hq=>(fun _ h=>h) q (z8 q hq);replace Au:=(fun _ h=>h) _ Au;obtain ⟨C1,rfl⟩:=aN (Rep.own_rd _ Bj);refine aP C1 10 rfl rfl hC (ap rfl (fun w' hw'=>by obtain ⟨_,S⟩:=(hCd _).1 hw'; exact (ab rfl ((S.frzCells 0 rfl Au B3) 0 _ rfl)))) ?_;refine aP (i_ a1) 11 rfl rfl hC (ap rfl (fun w' hw'=>by obtain ⟨_,S⟩:=(hCd _).1 hw'; exact (aq zP))) ?_;refine dq (by kernel_rfl) 12 rfl hC (by kernel_rfl) (by kernel_rfl) rfl Bj rfl rfl BX dt ?_;intro D6 DD D7 D8 B4 z9 Av B5;replace z9:=fun q hq=>z8 q (z9 q hq);replace Av:=z8 _ Av;obtain ⟨_,_,_,_,rfl,rfl,B6,B7⟩:=B4;have Dr:=fun q hq=>z9 q (List.mem_append_left _ hq);have Ds:=fun q hq=>z9 q (List.mem_append_right _ hq);obtain ⟨rfl,_⟩:=B6;obtain ⟨rfl,_⟩:=B7;refine aP (.agg #[i_ AH.1,i_ AH.2]) 13 rfl rfl hC (ap rfl (fun w' hw'=>by obtain ⟨_,S⟩:=(hCd _).1 hw'; exact (an (cs:=[i_ AH.1,i_ AH.2]) rfl rfl (S.frzCells 0 rfl Av B5)))) ?_;refine fi 14 18 (by kernel_rfl) rfl rfl ?_ ?_
   ·refine ec0 n8 (gF Bh) (ca (ag rfl (ag rfl rfl))) S fun C2 zV S=>?_;have zK:=aw zV zK;have zI:=fN zI zV;have zL:=aw zV zL;refine ah ?_;have hC:=(hCd _).2 ⟨_,S⟩;refine ⟨fun _=>hC,?_⟩;refine aP (.tuple #[.agg #[i_ J.1.1,i_ J.1.2],.bool J.2]) 15 rfl rfl hC (ap rfl (fun w' hw'=>by obtain ⟨_,S⟩:=(hCd _).1 hw'; exact (aq rfl))) ?_;refine aP (.agg #[i_ J.1.1,i_ J.1.2]) 16 rfl rfl hC (ap rfl (fun w' hw'=>by obtain ⟨_,S⟩:=(hCd _).1 hw'; exact (am rfl rfl))) ?_;refine aP (.bool J.2) 17 rfl rfl hC (ap rfl (fun w' hw'=>by obtain ⟨_,S⟩:=(hCd _).1 hw'; exact (am rfl rfl))) ?_;refine aO 18 rfl ?_;refine aB S dt ?_;intro C3 zE S zW;have zK:=aw zW zK;have zI:=fN zI zW;have zL:=aw zW zL;refine ah ?_;replace S:=S.t1;have hC:=(hCd _).2 ⟨_,S⟩;refine ⟨fun _=>hC,?_⟩;refine aO 19 rfl ?_;refine ak (S.top 1 rfl) rfl [i_ J.1.1,i_ J.1.2] rfl rfl dt (all_cons rfl (all_cons rfl rfl)) ?_;intro A5 S;replace S:Sat zG A5 (Box zE 71 [i_ J.1.1,i_ J.1.2] :: Frz zU Ar :: G0):=S;refine ah ?_;replace S:=S.t1;have hC:=(hCd _).2 ⟨_,S⟩;refine ⟨fun _=>hC,?_⟩;refine aO 20 rfl ?_;refine pa (.bool J.2) (ah ?_);refine ⟨fun _=>hC,?_⟩;refine bt (by kernel_rfl) ?_;exact ⟨rfl,zE,zR,zP,zS,rfl,rfl,S⟩
   refine aB S dt ?_;intro C3 zE S zW;have zK:=aw zW zK;have zI:=fN zI zW;have zL:=aw zW zL;refine ah ?_;replace S:=S.t1;have hC:=(hCd _).2 ⟨_,S⟩;refine ⟨fun _=>hC,?_⟩;refine aO 14 rfl ?_;refine ec0 n8 (gF Bh) (ca (ag rfl (ag rfl rfl))) S fun C2 zV S=>?_;have zK:=aw zV zK;have zI:=fN zI zV;have zL:=aw zV zL;refine ah ?_;have hC:=(hCd _).2 ⟨_,S⟩;refine ⟨fun _=>hC,?_⟩;refine aO 15 rfl ?_;refine pm (.tuple #[.agg #[i_ J.1.1,i_ J.1.2],.bool J.2]) (ah ?_);refine ⟨fun _=>hC,?_⟩;refine aP (.agg #[i_ J.1.1,i_ J.1.2]) 16 rfl rfl hC (ap rfl (fun w' hw'=>by obtain ⟨_,S⟩:=(hCd _).1 hw'; exact (am rfl rfl))) ?_;refine aP (.bool J.2) 17 rfl rfl hC (ap rfl (fun w' hw'=>by obtain ⟨_,S⟩:=(hCd _).1 hw'; exact (am rfl rfl))) ?_;refine aO 19 rfl ?_;refine ak (S.top 1 rfl) rfl [i_ J.1.1,i_ J.1.2] rfl rfl dt (all_cons rfl (all_cons rfl rfl)) ?_;intro A5 S;replace S:Sat zG A5 (Box zE 71 [i_ J.1.1,i_ J.1.2] :: Frz zU Ar :: G0):=S;refine ah ?_;replace S:=S.t1;have hC:=(hCd _).2 ⟨_,S⟩;refine ⟨fun _=>hC,?_⟩;refine aO 20 rfl ?_;refine pa (.bool J.2) (ah ?_);refine ⟨fun _=>hC,?_⟩;refine bt (by kernel_rfl) ?_;exact ⟨rfl,zE,zR,zP,zS,rfl,rfl,S⟩
  rintro D9 C4 ⟨zE,B8,Bk,B9,Ca,Cb,S⟩;replace S:=S.unfrz AF;replace S:Sat zG C4 (Own R7_ [u0] zT :: Box zE 71 [i_ J.1.1,i_ J.1.2] :: G0):=S;refine tn CZ (sg fun _ BE=>sR fun _ C5=>pM (i_ a1) Bk (pa (i_ a1) (en C5 (bg fun _ BF=>?_))));obtain ⟨C6,hL,Bl⟩:=ob F;refine aC (fun k e w=>∃ (zQ:List T2_),∃ (zX:Bool),∃ (zM:Int),e 0=u0∧e 1=i_ a1∧e 5=i_ zD∧e 6=pt zE 0∧e 7=.bool zX∧e 8=i_ zM∧Sat zG w (Own R7_ [u0] zQ :: Box zE 71 [i_ J.1.1,i_ J.1.2] :: G0)∧bT N k zQ a1 zD J.1.1 J.1.2 zX zM=some C6) N ?_ ?_ ?_
  ·exact ⟨zT,J.2,a1,B8,Bk,B9,Ca,Cb,rfl,S,hL⟩
  ·rintro e w ⟨_,_,_,_,_,_,_,_,_,_,hz⟩; exact nn hz
  rintro k Ea zY ⟨zQ,zX,zM,zZ,Aa,Ab,AI,AJ,An,S,F⟩;refine gn fun _ AK=>sg fun _ A6=>sR fun _ BG=>pM (i_ zM) An (pM u0 zZ (pM (i_ zD) Ab (oB F fun A7 Cc F=>?_)));refine aU (wA:=zY) rfl (S.rdAt (R:=R7_) 0 rfl) rfl dt rfl Cc dt ?_;intro Eb DE Ec zJ zN;obtain ⟨C7,rfl⟩:=aN zJ;refine pe C7 (ab rfl (zN 0 _ rfl)) (pe (i_ (A7.length:Int)) (az rfl zJ) (pe (.bool (decide (zM < (A7.length:Int)))) (aG rfl rfl) (pm (.bool (decide (zM < (A7.length:Int)))) (oF F (fun Ac F=>?_) fun Ac F=>?_))))
  ·refine ei Ac (pM (.bool zX) AJ (pe (.bool zX) (ar rfl Ac rfl) (en BG (oF F (fun AM F=>?_) fun AM F=>?_))))
   ·refine ct AM (sn A6 (sg fun _ BH=>bg fun _ BI=>sg fun _ C8=>?_));obtain ⟨Aw,Bm,S⟩:=S.frz;replace S:Sat zG zY (Frz zY Aw :: Box zE 71 [i_ J.1.1,i_ J.1.2] :: G0):=S;refine oB F fun Ed Cd F=>oB F fun AN Ce F=>oB F fun zC Bn F=>?_;refine fT (fun e w=>∃ (zO:Nat),e 0=u0∧e 1=i_ a1∧e 5=i_ zD∧e 6=pt zE 0∧e 8=i_ zM∧e 9=pt zO 0∧e 10=.bool zC.2∧Sat zG w (Box zE 71 [i_ J.1.1,i_ J.1.2] :: Frz zY Aw :: Box zO 71 [i_ zC.1.1,i_ zC.1.2] :: G0)) ?_ ?_
    ·obtain ⟨C,hCd⟩:∃ C:World → Prop,∀ w,C w ↔ ∃ G,Sat zG w ([Box zE 71 [i_ J.1.1,i_ J.1.2],Frz zY Aw] ++ G):=⟨_,fun _=>Iff.rfl⟩;refine cl [0,1,2,3,4,5,6,7,8,9,10,11,12,13,14] C (by kernel_rfl) ?_;intro Ee AO;replace S:=S.ext AO;have zN:=aw AO zN;have zJ:=fN zJ AO;replace S:=S.t1;have hC:=(hCd _).2 ⟨_,S⟩;refine aP (.agg #[i_ J.1.1,i_ J.1.2]) 0 rfl rfl hC (ap rfl (fun w' hw'=>by obtain ⟨_,S⟩:=(hCd _).1 hw'; exact (an (cs:=[i_ J.1.1,i_ J.1.2]) AI rfl (av (S.boxAt 0 rfl))))) ?_;refine aP u0 1 rfl rfl hC (ap rfl (fun w' hw'=>by obtain ⟨_,S⟩:=(hCd _).1 hw'; exact (aq zZ))) ?_;refine aP (i_ a1) 2 rfl rfl hC (ap rfl (fun w' hw'=>by obtain ⟨_,S⟩:=(hCd _).1 hw'; exact (aq Aa))) ?_;refine dq (by kernel_rfl) 3 rfl hC (by kernel_rfl) (by kernel_rfl) rfl Bm rfl rfl Cd dt ?_;intro Ef DF Eg Eh Bo Ad Ax Cf;replace Ad:=fun q hq=>(fun _ h=>h) q (Ad q hq);replace Ax:=(fun _ h=>h) _ Ax;obtain ⟨C9,rfl⟩:=aN (Rep.own_rd _ Bo);refine aP C9 4 rfl rfl hC (ap rfl (fun w' hw'=>by obtain ⟨_,S⟩:=(hCd _).1 hw'; exact (ab rfl ((S.frzCells 1 rfl Ax Cf) 0 _ rfl)))) ?_;refine aP (i_ zM) 5 rfl rfl hC (ap rfl (fun w' hw'=>by obtain ⟨_,S⟩:=(hCd _).1 hw'; exact (aq An))) ?_;refine dq (by kernel_rfl) 6 rfl hC (by kernel_rfl) (by kernel_rfl) rfl Bo rfl rfl Ce dt ?_;intro Ei DG Ej Ek Cg Ae Ay Ch;replace Ae:=fun q hq=>Ad q (Ae q hq);replace Ay:=Ad _ Ay;obtain ⟨_,_,_,_,rfl,rfl,Ci,Cj⟩:=Cg;have Dt:=fun q hq=>Ae q (List.mem_append_left _ hq);have Du:=fun q hq=>Ae q (List.mem_append_right _ hq);obtain ⟨rfl,_⟩:=Ci;obtain ⟨rfl,_⟩:=Cj;refine aP (.agg #[i_ AN.1,i_ AN.2]) 7 rfl rfl hC (ap rfl (fun w' hw'=>by obtain ⟨_,S⟩:=(hCd _).1 hw'; exact (an (cs:=[i_ AN.1,i_ AN.2]) rfl rfl (S.frzCells 1 rfl Ay Ch)))) ?_;refine fi 8 12 (by kernel_rfl) rfl rfl ?_ ?_
     ·refine ec0 ov (gH Bn) (ca (ag rfl (ag rfl rfl))) S fun Da Af S=>?_;have zN:=aw Af zN;have zJ:=fN zJ Af;refine ah ?_;have hC:=(hCd _).2 ⟨_,S⟩;refine ⟨fun _=>hC,?_⟩;refine aP (.tuple #[.agg #[i_ zC.1.1,i_ zC.1.2],.bool zC.2]) 9 rfl rfl hC (ap rfl (fun w' hw'=>by obtain ⟨_,S⟩:=(hCd _).1 hw'; exact (aq rfl))) ?_;refine aP (.agg #[i_ zC.1.1,i_ zC.1.2]) 10 rfl rfl hC (ap rfl (fun w' hw'=>by obtain ⟨_,S⟩:=(hCd _).1 hw'; exact (am rfl rfl))) ?_;refine aP (.bool zC.2) 11 rfl rfl hC (ap rfl (fun w' hw'=>by obtain ⟨_,S⟩:=(hCd _).1 hw'; exact (am rfl rfl))) ?_;refine aO 12 rfl ?_;refine aB S dt ?_;intro Db zO S Ag;have zN:=aw Ag zN;have zJ:=fN zJ Ag;refine ah ?_;replace S:=S.t2.t2;have hC:=(hCd _).2 ⟨_,S⟩;refine ⟨fun _=>hC,?_⟩;refine aO 13 rfl ?_;refine ak (S.top 2 rfl) rfl [i_ zC.1.1,i_ zC.1.2] rfl rfl dt (all_cons rfl (all_cons rfl rfl)) ?_;intro A8 S;replace S:Sat zG A8 (Box zO 71 [i_ zC.1.1,i_ zC.1.2] :: Box zE 71 [i_ J.1.1,i_ J.1.2] :: Frz zY Aw :: G0):=S;refine ah ?_;replace S:=S.t2.t2;have hC:=(hCd _).2 ⟨_,S⟩;refine ⟨fun _=>hC,?_⟩;refine aO 14 rfl ?_;refine pa (.bool zC.2) (ah ?_);refine ⟨fun _=>hC,?_⟩;refine bt (by kernel_rfl) ?_;exact ⟨rfl,zO,zZ,Aa,Ab,AI,An,rfl,rfl,S⟩
     refine aB S dt ?_;intro Db zO S Ag;have zN:=aw Ag zN;have zJ:=fN zJ Ag;refine ah ?_;replace S:=S.t2.t2;have hC:=(hCd _).2 ⟨_,S⟩;refine ⟨fun _=>hC,?_⟩;refine aO 8 rfl ?_;refine ec0 ov (gH Bn) (ca (ag rfl (ag rfl rfl))) S fun Da Af S=>?_;have zN:=aw Af zN;have zJ:=fN zJ Af;refine ah ?_;have hC:=(hCd _).2 ⟨_,S⟩;refine ⟨fun _=>hC,?_⟩;refine aO 9 rfl ?_;refine pm (.tuple #[.agg #[i_ zC.1.1,i_ zC.1.2],.bool zC.2]) (ah ?_);refine ⟨fun _=>hC,?_⟩;refine aP (.agg #[i_ zC.1.1,i_ zC.1.2]) 10 rfl rfl hC (ap rfl (fun w' hw'=>by obtain ⟨_,S⟩:=(hCd _).1 hw'; exact (am rfl rfl))) ?_;refine aP (.bool zC.2) 11 rfl rfl hC (ap rfl (fun w' hw'=>by obtain ⟨_,S⟩:=(hCd _).1 hw'; exact (am rfl rfl))) ?_;refine aO 13 rfl ?_;refine ak (S.top 2 rfl) rfl [i_ zC.1.1,i_ zC.1.2] rfl rfl dt (all_cons rfl (all_cons rfl rfl)) ?_;intro A8 S;replace S:Sat zG A8 (Box zO 71 [i_ zC.1.1,i_ zC.1.2] :: Box zE 71 [i_ J.1.1,i_ J.1.2] :: Frz zY Aw :: G0):=S;refine ah ?_;replace S:=S.t2.t2;have hC:=(hCd _).2 ⟨_,S⟩;refine ⟨fun _=>hC,?_⟩;refine aO 14 rfl ?_;refine pa (.bool zC.2) (ah ?_);refine ⟨fun _=>hC,?_⟩;refine bt (by kernel_rfl) ?_;exact ⟨rfl,zO,zZ,Aa,Ab,AI,An,rfl,rfl,S⟩
    rintro El z5 ⟨zO,AP,Bp,AQ,Bq,AR,Ck,Br,S⟩;replace S:=S.t1;replace S:=S.unfrz Bm;replace S:Sat zG z5 (Own R7_ [u0] zQ :: Box zE 71 [i_ J.1.1,i_ J.1.2] :: Box zO 71 [i_ zC.1.1,i_ zC.1.2] :: G0):=S;refine tn C8 (sg fun _ Dc=>?_);obtain ⟨Az,Bs,S⟩:=S.frz;replace S:Sat zG z5 (Frz z5 Az :: Box zE 71 [i_ J.1.1,i_ J.1.2] :: Box zO 71 [i_ zC.1.1,i_ zC.1.2] :: G0):=S;refine oB F fun Em Cl F=>oB F fun AS Cm F=>oB F fun U Bt F=>?_;refine fT (fun e w=>∃ (zH:Nat),e 0=u0∧e 1=i_ a1∧e 5=i_ zD∧e 6=pt zE 0∧e 8=i_ zM∧e 10=.bool zC.2∧e 11=pt zH 0∧e 12=.bool U.2∧Sat zG w (Box zE 71 [i_ J.1.1,i_ J.1.2] :: Frz z5 Az :: Box zH 71 [i_ U.1.1,i_ U.1.2] :: G0)) ?_ ?_
    ·obtain ⟨C,hCd⟩:∃ C:World → Prop,∀ w,C w ↔ ∃ G,Sat zG w ([Box zO 71 [i_ zC.1.1,i_ zC.1.2],Frz z5 Az] ++ G):=⟨_,fun _=>Iff.rfl⟩;refine cl [0,1,2,3,4,5,6,7,8,9,10,11,12,13,14] C (by kernel_rfl) ?_;intro En Co;replace S:=S.ext Co;replace S:=S.t2;have hC:=(hCd _).2 ⟨_,S⟩;refine aP u0 0 rfl rfl hC (ap rfl (fun w' hw'=>by obtain ⟨_,S⟩:=(hCd _).1 hw'; exact (aq AP))) ?_;refine aP (i_ zD) 1 rfl rfl hC (ap rfl (fun w' hw'=>by obtain ⟨_,S⟩:=(hCd _).1 hw'; exact (aq AQ))) ?_;refine dq (by kernel_rfl) 2 rfl hC (by kernel_rfl) (by kernel_rfl) rfl Bs rfl rfl Cl dt ?_;intro Eo DH Ep Er Bu Ah AA Cp;replace Ah:=fun q hq=>(fun _ h=>h) q (Ah q hq);replace AA:=(fun _ h=>h) _ AA;obtain ⟨Dd,rfl⟩:=aN (Rep.own_rd _ Bu);refine aP Dd 3 rfl rfl hC (ap rfl (fun w' hw'=>by obtain ⟨_,S⟩:=(hCd _).1 hw'; exact (ab rfl ((S.frzCells 1 rfl AA Cp) 0 _ rfl)))) ?_;refine aP (i_ zM) 4 rfl rfl hC (ap rfl (fun w' hw'=>by obtain ⟨_,S⟩:=(hCd _).1 hw'; exact (aq AR))) ?_;refine dq (by kernel_rfl) 5 rfl hC (by kernel_rfl) (by kernel_rfl) rfl Bu rfl rfl Cm dt ?_;intro Es DI Et Eu Cq Ai AB Cr;replace Ai:=fun q hq=>Ah q (Ai q hq);replace AB:=Ah _ AB;obtain ⟨_,_,_,_,rfl,rfl,Cs,Ct⟩:=Cq;have Dv:=fun q hq=>Ai q (List.mem_append_left _ hq);have Dw:=fun q hq=>Ai q (List.mem_append_right _ hq);obtain ⟨rfl,_⟩:=Cs;obtain ⟨rfl,_⟩:=Ct;refine aP (.agg #[i_ AS.1,i_ AS.2]) 6 rfl rfl hC (ap rfl (fun w' hw'=>by obtain ⟨_,S⟩:=(hCd _).1 hw'; exact (an (cs:=[i_ AS.1,i_ AS.2]) rfl rfl (S.frzCells 1 rfl AB Cr)))) ?_;refine aP (.agg #[i_ zC.1.1,i_ zC.1.2]) 7 rfl rfl hC (ap rfl (fun w' hw'=>by obtain ⟨_,S⟩:=(hCd _).1 hw'; exact (an (cs:=[i_ zC.1.1,i_ zC.1.2]) Ck rfl (av (S.boxAt 0 rfl))))) ?_;refine fi 8 12 (by kernel_rfl) rfl rfl ?_ ?_
     ·refine ec0 tu (jL Bt) (ca (ag rfl (ag rfl rfl))) S fun De Cu S=>?_;refine ah ?_;have hC:=(hCd _).2 ⟨_,S⟩;refine ⟨fun _=>hC,?_⟩;refine aP (.tuple #[.agg #[i_ U.1.1,i_ U.1.2],.bool U.2]) 9 rfl rfl hC (ap rfl (fun w' hw'=>by obtain ⟨_,S⟩:=(hCd _).1 hw'; exact (aq rfl))) ?_;refine aP (.agg #[i_ U.1.1,i_ U.1.2]) 10 rfl rfl hC (ap rfl (fun w' hw'=>by obtain ⟨_,S⟩:=(hCd _).1 hw'; exact (am rfl rfl))) ?_;refine aP (.bool U.2) 11 rfl rfl hC (ap rfl (fun w' hw'=>by obtain ⟨_,S⟩:=(hCd _).1 hw'; exact (am rfl rfl))) ?_;refine aO 12 rfl ?_;refine aB S dt ?_;intro Df zH S Cv;refine ah ?_;replace S:=S.t2.t2;have hC:=(hCd _).2 ⟨_,S⟩;refine ⟨fun _=>hC,?_⟩;refine aO 13 rfl ?_;refine ak (S.top 2 rfl) rfl [i_ U.1.1,i_ U.1.2] rfl rfl dt (all_cons rfl (all_cons rfl rfl)) ?_;intro A9 S;replace S:Sat zG A9 (Box zH 71 [i_ U.1.1,i_ U.1.2] :: Box zO 71 [i_ zC.1.1,i_ zC.1.2] :: Frz z5 Az :: Box zE 71 [i_ J.1.1,i_ J.1.2] :: G0):=S;refine ah ?_;replace S:=S.t2.t2;have hC:=(hCd _).2 ⟨_,S⟩;refine ⟨fun _=>hC,?_⟩;refine aO 14 rfl ?_;refine pa (.bool U.2) (ah ?_);refine ⟨fun _=>hC,?_⟩;refine bt (by kernel_rfl) ?_;replace S:=S.t2.t2.t3;replace S:=S.r3;exact ⟨rfl,zH,AP,Bp,AQ,Bq,AR,Br,rfl,rfl,S⟩
     refine aB S dt ?_;intro Df zH S Cv;refine ah ?_;replace S:=S.t2.t2;have hC:=(hCd _).2 ⟨_,S⟩;refine ⟨fun _=>hC,?_⟩;refine aO 8 rfl ?_;refine ec0 tu (jL Bt) (ca (ag rfl (ag rfl rfl))) S fun De Cu S=>?_;refine ah ?_;have hC:=(hCd _).2 ⟨_,S⟩;refine ⟨fun _=>hC,?_⟩;refine aO 9 rfl ?_;refine pm (.tuple #[.agg #[i_ U.1.1,i_ U.1.2],.bool U.2]) (ah ?_);refine ⟨fun _=>hC,?_⟩;refine aP (.agg #[i_ U.1.1,i_ U.1.2]) 10 rfl rfl hC (ap rfl (fun w' hw'=>by obtain ⟨_,S⟩:=(hCd _).1 hw'; exact (am rfl rfl))) ?_;refine aP (.bool U.2) 11 rfl rfl hC (ap rfl (fun w' hw'=>by obtain ⟨_,S⟩:=(hCd _).1 hw'; exact (am rfl rfl))) ?_;refine aO 13 rfl ?_;refine ak (S.top 2 rfl) rfl [i_ U.1.1,i_ U.1.2] rfl rfl dt (all_cons rfl (all_cons rfl rfl)) ?_;intro A9 S;replace S:Sat zG A9 (Box zH 71 [i_ U.1.1,i_ U.1.2] :: Box zO 71 [i_ zC.1.1,i_ zC.1.2] :: Frz z5 Az :: Box zE 71 [i_ J.1.1,i_ J.1.2] :: G0):=S;refine ah ?_;replace S:=S.t2.t2;have hC:=(hCd _).2 ⟨_,S⟩;refine ⟨fun _=>hC,?_⟩;refine aO 14 rfl ?_;refine pa (.bool U.2) (ah ?_);refine ⟨fun _=>hC,?_⟩;refine bt (by kernel_rfl) ?_;replace S:=S.t2.t2.t3;replace S:=S.r3;exact ⟨rfl,zH,AP,Bp,AQ,Bq,AR,Br,rfl,rfl,S⟩
    rintro Ev Ba ⟨zH,Ao,Bv,Ap,Bw,Aq,Cw,Bx,Cx,S⟩;replace S:=S.t1;replace S:=S.unfrz Bs;replace S:Sat zG Ba (Own R7_ [u0] zQ :: Box zE 71 [i_ J.1.1,i_ J.1.2] :: Box zH 71 [i_ U.1.1,i_ U.1.2] :: G0):=S;refine tn Dc (sR fun _ BJ=>pM (.bool zC.2) Cw (pm (.bool zC.2) (oF F (fun Aj F=>?_) fun Aj F=>?_)))
    ·refine ei Aj (pM (.bool U.2) Cx (pe (.bool U.2) (ar rfl Aj rfl) (pa (.bool U.2) (en BJ (oB F fun Dg By F=>?_)))));obtain ⟨Bb,Dx,Ew,Cy,AT,S⟩:=S.takeOutC (m:=1) By rfl;obtain ⟨AU,rfl⟩:=aN AT;replace S:Sat zG Ba (Own R4_ [AU] Dg :: lP R4_ 39 u0 zQ (zD:Int).toNat [AU] Bb 1 :: Box zE 71 [i_ J.1.1,i_ J.1.2] :: Box zH 71 [i_ U.1.1,i_ U.1.2] :: G0):=S;obtain ⟨C,hCd⟩:∃ C:World → Prop,∀ w,C w ↔ ∃ G,Sat zG w ([Box zH 71 [i_ U.1.1,i_ U.1.2],lP R4_ 39 u0 zQ (zD:Int).toNat [AU] Bb 1] ++ G):=⟨_,fun _=>Iff.rfl⟩;refine cl [0,1,2,3,4,5,6] C (by kernel_rfl) ?_;intro Ex Bz;replace S:=S.ext Bz;have AT:=fN AT Bz;replace S:=S.t1.t3;have hC:=(hCd _).2 ⟨_,S⟩;refine aP u0 0 rfl rfl hC (ap rfl (fun w' hw'=>by obtain ⟨_,S⟩:=(hCd _).1 hw'; exact (aq Ao))) ?_;refine aP (i_ zD) 1 rfl rfl hC (ap rfl (fun w' hw'=>by obtain ⟨_,S⟩:=(hCd _).1 hw'; exact (aq Ap))) ?_;refine aP (pt Bb ((zD:Int).toNat * 1)) 2 rfl rfl hC (ap rfl (fun w' hw'=>by obtain ⟨_,S⟩:=(hCd _).1 hw'; exact (ju (v:=u0) rfl Cy rfl By))) ?_;refine aP AU 3 rfl rfl hC (ap rfl (fun w' hw'=>by obtain ⟨_,S⟩:=(hCd _).1 hw'; exact (ab rfl ((S.holeCells 1 rfl) 0 _ rfl)))) ?_;refine aP (i_ zM) 4 rfl rfl hC (ap rfl (fun w' hw'=>by obtain ⟨_,S⟩:=(hCd _).1 hw'; exact (aq Aq))) ?_;refine aO 5 rfl ?_;refine pe (.agg #[i_ U.1.1,i_ U.1.2]) (an (cs:=[i_ U.1.1,i_ U.1.2]) Bx rfl (av (S.boxAt 0 rfl))) (ah ?_);refine ⟨fun _=>hC,?_⟩;refine aO 6 rfl ?_;refine oB F fun Ey Cz F=>?_;replace S:=S.t2;refine fg S rfl rfl dt rfl Cz dt ?_;intro Ez DJ EA CA CB DK;obtain ⟨_,_,rfl,CC,CD⟩:=CB;obtain rfl:=CC;obtain rfl:=CD;refine ah ?_;refine ⟨fun _=>hC,?_⟩;refine aO 7 rfl ?_;refine oB F fun EB CE F=>?_;replace S:=S.int U.1.2;replace S:=S.int U.1.1;replace S:=S.pair;refine fS rfl CA S CE rfl rfl ?_;intro Dh S;replace S:=S.t2;replace S:=S.t1;refine oB F fun BK CF F=>?_;replace S:=S.putBackC CF;replace S:Sat zG Dh (Own R7_ [u0] BK :: Box zH 71 [i_ U.1.1,i_ U.1.2] :: Box zE 71 [i_ J.1.1,i_ J.1.2] :: G0):=S;refine ah ?_;refine ⟨fun h=>(nomatch (show false=true from h)),?_⟩;refine bt (by kernel_rfl) ?_;refine bn BI (tn BH ?_);replace S:=S.r1;refine ac (pM (i_ zM) Aq (oB F fun Bc CG F=>pe (i_ Bc) (aE rfl rfl CG) (pa (i_ Bc) (en AK ?_))));exact ⟨BK,U.2,Bc,Ao,Bv,Ap,Bw,rfl,rfl,S,F⟩
    refine eo Aj (pe (.bool false) (au rfl Aj rfl) (pa (.bool false) (en BJ (oB F fun Di BA F=>?_))));obtain ⟨Bd,Dy,EC,CH,AV,S⟩:=S.takeOutC (m:=1) BA rfl;obtain ⟨AW,rfl⟩:=aN AV;replace S:Sat zG Ba (Own R4_ [AW] Di :: lP R4_ 39 u0 zQ (zD:Int).toNat [AW] Bd 1 :: Box zE 71 [i_ J.1.1,i_ J.1.2] :: Box zH 71 [i_ U.1.1,i_ U.1.2] :: G0):=S;obtain ⟨C,hCd⟩:∃ C:World → Prop,∀ w,C w ↔ ∃ G,Sat zG w ([Box zH 71 [i_ U.1.1,i_ U.1.2],lP R4_ 39 u0 zQ (zD:Int).toNat [AW] Bd 1] ++ G):=⟨_,fun _=>Iff.rfl⟩;refine cl [0,1,2,3,4,5,6] C (by kernel_rfl) ?_;intro ED BB;replace S:=S.ext BB;have AV:=fN AV BB;replace S:=S.t1.t3;have hC:=(hCd _).2 ⟨_,S⟩;refine aP u0 0 rfl rfl hC (ap rfl (fun w' hw'=>by obtain ⟨_,S⟩:=(hCd _).1 hw'; exact (aq Ao))) ?_;refine aP (i_ zD) 1 rfl rfl hC (ap rfl (fun w' hw'=>by obtain ⟨_,S⟩:=(hCd _).1 hw'; exact (aq Ap))) ?_;refine aP (pt Bd ((zD:Int).toNat * 1)) 2 rfl rfl hC (ap rfl (fun w' hw'=>by obtain ⟨_,S⟩:=(hCd _).1 hw'; exact (ju (v:=u0) rfl CH rfl BA))) ?_;refine aP AW 3 rfl rfl hC (ap rfl (fun w' hw'=>by obtain ⟨_,S⟩:=(hCd _).1 hw'; exact (ab rfl ((S.holeCells 1 rfl) 0 _ rfl)))) ?_;refine aP (i_ zM) 4 rfl rfl hC (ap rfl (fun w' hw'=>by obtain ⟨_,S⟩:=(hCd _).1 hw'; exact (aq Aq))) ?_;refine aO 5 rfl ?_;refine pe (.agg #[i_ U.1.1,i_ U.1.2]) (an (cs:=[i_ U.1.1,i_ U.1.2]) Bx rfl (av (S.boxAt 0 rfl))) (ah ?_);refine ⟨fun _=>hC,?_⟩;refine aO 6 rfl ?_;refine oB F fun EE CI F=>?_;replace S:=S.t2;refine fg S rfl rfl dt rfl CI dt ?_;intro EF DL EG CJ CK DM;obtain ⟨_,_,rfl,CL,CM⟩:=CK;obtain rfl:=CL;obtain rfl:=CM;refine ah ?_;refine ⟨fun _=>hC,?_⟩;refine aO 7 rfl ?_;refine oB F fun EH CN F=>?_;replace S:=S.int U.1.2;replace S:=S.int U.1.1;replace S:=S.pair;refine fS rfl CJ S CN rfl rfl ?_;intro Dj S;replace S:=S.t2;replace S:=S.t1;refine oB F fun BL CO F=>?_;replace S:=S.putBackC CO;replace S:Sat zG Dj (Own R7_ [u0] BL :: Box zH 71 [i_ U.1.1,i_ U.1.2] :: Box zE 71 [i_ J.1.1,i_ J.1.2] :: G0):=S;refine ah ?_;refine ⟨fun h=>(nomatch (show false=true from h)),?_⟩;refine bt (by kernel_rfl) ?_;refine bn BI (tn BH ?_);replace S:=S.r1;refine ac (pM (i_ zM) Aq (oB F fun Be CP F=>pe (i_ Be) (aE rfl rfl CP) (pa (i_ Be) (en AK ?_))));exact ⟨BL,false,Be,Ao,Bv,Ap,Bw,rfl,rfl,S,F⟩
   refine cf AM (aH (tx A6 (tx AK ?_)));replace F:=exB F Bl;refine bS BF (tn BE (sg fun _ Dk=>?_));replace S:=S.r1;refine ac (pM (.bool zX) AJ (pe (.bool (!zX)) (aK rfl) (en Dk (oF F (fun AX F=>?_) fun AX F=>?_))))
   ·refine cf (ai AX) (bk (bn Al (tn Ak (ac (pM (i_ zD) Ab (oB F fun Bf CQ F=>pe (i_ Bf) (aE rfl rfl CQ) (pa (i_ Bf) (en z4 ?_))))))));exact ⟨zQ,Bf,zZ,Aa,rfl,S,F⟩
   refine ct (aj AX) (sR fun _ Dl=>pa (.bool false) (en Dl (ae (br Al (tr Ak (tr z4 (br A0 (tr AZ ?_))))))));replace F:=exL F AC;refine aF rfl rfl ?_;have hr:=oI F;exact ⟨(cR hr fun r=>.bool r.1 :),Eq.mp (congrArg (fun (r:Bool × T4_)=>Sat zG zY (Own R7_ [u0] r.2 :: G0)) hr :) S⟩
  refine eo Ac (pe (.bool false) (au rfl Ac rfl) (en BG (cf rfl (aH (tx A6 (tx AK ?_))))));replace F:=exB F Bl;refine bS BF (tn BE (sg fun _ Dm=>?_));replace S:=S.r1;refine ac (pM (.bool zX) AJ (pe (.bool (!zX)) (aK rfl) (en Dm (oF F (fun AY F=>?_) fun AY F=>?_))))
  ·refine cf (ai AY) (bk (bn Al (tn Ak (ac (pM (i_ zD) Ab (oB F fun Bg CR F=>pe (i_ Bg) (aE rfl rfl CR) (pa (i_ Bg) (en z4 ?_))))))));exact ⟨zQ,Bg,zZ,Aa,rfl,S,F⟩
  refine ct (aj AY) (sR fun _ Dn=>pa (.bool false) (en Dn (ae (br Al (tr Ak (tr z4 (br A0 (tr AZ ?_))))))));replace F:=exL F AC;refine aF rfl rfl ?_;have hr:=oI F;exact ⟨(cR hr fun r=>.bool r.1 :),Eq.mp (congrArg (fun (r:Bool × T4_)=>Sat zG zY (Own R7_ [u0] r.2 :: G0)) hr :) S⟩
 refine cf AD (aH (tx BC (tx z4 ?_)));replace F:=exA F AC;refine bS A0 (tn AZ (sR fun _ Do=>pa (.bool true) (en Do (ae (aF rfl rfl ?_)))));have hr:=oI F;exact ⟨(cR hr fun r=>.bool r.1 :),Eq.mp (congrArg (fun (r:Bool × T4_)=>Sat zG zU (Own R7_ [u0] r.2 :: G0)) hr :) S⟩
theorem kq {w0:World} {u0:Value} {a0:List T2_} {u1:Value} {a1:List T1_} (ha0:R7_.rd w0 [u0] a0) (ha1:R4_.rd w0 [u1] a1) {N:Nat} {r:T2_ × Bool} (F:bm N a0 a1=some r): Calls Tryd.prog 61 #[u0,u1] w0 fun e w'=>∃ (q0:Value),e=.returned (.tuple #[q0,.bool r.2])∧Sat w0 w' [Own R4_ [q0] r.1] := by
 unfold bm at F;refine aJ Tryd.func61 rfl rfl dt ?_;have S:=Sat.start w0;refine sR fun _ Dv=>pa n_ (pa (.bool false) (en Dv (sR fun _ Dw=>pm u1 (pe (i_ (a1.length:Int)) (az rfl ha1) (pa (i_ (a1.length:Int)) (en Dw (sg fun _ Bb=>sR fun _ BM=>pm (i_ (a1.length:Int)) (pe (.bool (decide (6 < (a1.length:Int)))) (et rfl rfl) (pm (.bool (decide (6 < (a1.length:Int)))) (oF F (fun zF F=>?_) fun zF F=>?_))))))))))
 ·refine eo zF (eo zF (eo zF (eo zF (eo zF (pe (.bool true) (ar rfl zF rfl) (en BM (ct rfl (sR fun _ Dx=>?_))))))));refine aY R1_ S dt ?_;intro Fa Av S EF;refine pa Av (pa (.bool false) (en Dx (ae (tr Bb (bX rfl rfl rfl ?_)))));have hr:=oI F;exact ⟨Av,cR hr fun r=>.tuple #[Av,.bool r.2],sP hr (fun r=>[Own R4_ [Av] r.1]) (S.keep 1)⟩
 refine ei zF (pm u0 (ei zF (pm (i_ (a1.length:Int)) (ei zF (pm (i_ (a1.length:Int)) (ei zF (oB F fun BN Cl F=>?_)))))));refine ec0 ow (ia (S.up ha0) Cl) (ca (ag rfl (ag rfl (ag rfl rfl)))) S fun Fb EG S=>?_;refine ei zF (pe (.bool (!BN)) (aK rfl) (pe (.bool (!BN)) (au rfl zF rfl) (en BM (oF F (fun Aw F=>?_) fun Aw F=>?_))))
 ·refine cf (ai Aw) (sn Bb (sR fun _ Dy=>?_));refine aY R4_ S dt ?_;intro Fc BO S EH;refine pa BO (en Dy (sg fun _ BP=>sR fun _ Dz=>pa (i_ 0) (en Dz (bg fun _ BQ=>?_))));obtain ⟨DA,hL,Bp⟩:=ob F;refine aC (fun k e w=>∃ (Ak:Value),∃ (Ax:List T2_),∃ (zM:Int),e 0=u0∧e 1=u1∧e 6=i_ (a1.length:Int)∧e 7=Ak∧e 8=i_ zM∧Sat w0 w [Own R7_ [Ak] Ax]∧bo N k a0 a1 (a1.length:Int) Ax zM=some DA) N ?_ ?_ ?_
  ·exact ⟨BO,[],0,rfl,rfl,rfl,rfl,rfl,S,hL⟩
  ·rintro e w ⟨_,_,_,_,_,_,_,_,_,hz⟩; exact nn hz
  rintro k Fd Fe ⟨Ak,Ax,zM,Af,zY,zZ,Bq,zS,S,F⟩;refine gn fun _ Bc=>sg fun _ BR=>sR fun _ DB=>pM (i_ zM) zS (pM (i_ (a1.length:Int)) zZ (pe (.bool (decide (zM < (a1.length:Int)))) (aG rfl rfl) (en DB (oF F (fun Ay F=>?_) fun Ay F=>?_))))
  ·refine ct Ay (sn BR (sg fun _ BS=>bg fun _ BT=>sg fun _ BU=>sR fun _ DC=>pM u1 zY (pM (i_ zM) zS (oB F fun Az Cm F=>?_))));refine aU (wA:=w0) rfl ha1 rfl dt rfl Cm dt ?_;intro Ff EI Fg Co Cp;obtain ⟨_,_,rfl,Cq,Cr⟩:=Co;obtain rfl:=Cq;obtain rfl:=Cr;refine pe (.agg #[i_ Az.1,i_ Az.2]) (an (cs:=[i_ Az.1,i_ Az.2]) rfl rfl (aw S.below Cp)) (oB F fun DD Cs F=>?_);refine ec0 gC (bj Cs) (ca (ag rfl rfl)) S fun Fh EJ S=>?_;refine pe (.bool (!DD)) (aK rfl) (en DC (oF F (fun AA F=>?_) fun AA F=>?_))
   ·refine cf (ai AA) (sn BU (oB F fun Fi Ct F=>oB F fun zG Cu F=>oB F fun Fj AB F=>oB F fun Fk AC F=>oB F fun BV AD F=>?_));refine fT (fun e w=>∃ (zJ:Value),e 0=u0∧e 1=u1∧e 6=i_ (a1.length:Int)∧e 7=zJ∧e 8=i_ zM∧Sat w0 w [Own R7_ [zJ] BV]) ?_ ?_
    ·obtain ⟨C,hCd⟩:∃ C:World → Prop,∀ w,C w ↔ ∃ G,Sat w0 w ([] ++ G):=⟨_,fun _=>Iff.rfl⟩;refine cl [0,1,2,3,4,5,6,7,8,9,10,11,12,13,14,15] C (by kernel_rfl) ?_;intro Fl Cv;replace S:=S.ext Cv;have hC:=(hCd _).2 ⟨_,S⟩;refine aP Ak 0 rfl rfl hC (ap rfl (fun w' hw'=>by obtain ⟨_,S⟩:=(hCd _).1 hw'; exact (aq Bq))) ?_;refine aP u0 2 rfl rfl hC (ap rfl (fun w' hw'=>by obtain ⟨_,S⟩:=(hCd _).1 hw'; exact (aq Af))) ?_;refine aP (i_ zM) 3 rfl rfl hC (ap rfl (fun w' hw'=>by obtain ⟨_,S⟩:=(hCd _).1 hw'; exact (aq zS))) ?_;refine fI (wA:=w0) (by kernel_rfl) 4 rfl hC (by kernel_rfl) (by kernel_rfl) rfl ha0 rfl dt rfl Ct dt ?_;intro Fm EK Fo Ag Cw;obtain ⟨DE,rfl⟩:=aN Ag;refine aP DE 5 rfl rfl hC (ap rfl (fun w' hw'=>by obtain ⟨_,S⟩:=(hCd _).1 hw'; exact (ab rfl ((aw S.below Cw) 0 _ rfl)))) ?_;refine aP u1 7 rfl rfl hC (ap rfl (fun w' hw'=>by obtain ⟨_,S⟩:=(hCd _).1 hw'; exact (aq zY))) ?_;refine aP (i_ zM) 8 rfl rfl hC (ap rfl (fun w' hw'=>by obtain ⟨_,S⟩:=(hCd _).1 hw'; exact (aq zS))) ?_;refine fI (wA:=w0) (by kernel_rfl) 9 rfl hC (by kernel_rfl) (by kernel_rfl) rfl ha1 rfl dt rfl Cu dt ?_;intro Fq EM Fr Cx Cy;obtain ⟨_,_,rfl,Cz,CA⟩:=Cx;obtain rfl:=Cz;obtain rfl:=CA;refine aP (.agg #[i_ zG.1,i_ zG.2]) 10 rfl rfl hC (ap rfl (fun w' hw'=>by obtain ⟨_,S⟩:=(hCd _).1 hw'; exact (an (cs:=[i_ zG.1,i_ zG.2]) rfl rfl (aw S.below Cy)))) ?_;refine fi 1 11 (by kernel_rfl) rfl rfl ?_ ?_
     ·refine aY R1_ S dt ?_;intro DF DG S CB;refine ah ?_;have hC:=(hCd _).2 ⟨_,S⟩;refine ⟨fun _=>hC,?_⟩;refine fi 6 11 (by kernel_rfl) rfl rfl ?_ ?_
      ·obtain ⟨Br,BW,Bs,z4,z5,zP,z6⟩:=mN (S.up Ag);replace S:=S.freeL (R:=R1_) z6;refine aT rfl dt rfl dt S rfl (rfl.trans z4) rfl z5 zP AB dt ?_;intro BX BY S;refine ah ?_;have hC:=(hCd _).2 ⟨_,S⟩;refine ⟨fun _=>hC,?_⟩;refine aO 11 rfl ?_;refine aI [i_ zG.1,i_ zG.2] rfl (by rfl) dt rfl dt S dt ?_;intro BZ B0 S Bt;refine ah ?_;have hC:=(hCd _).2 ⟨_,S⟩;refine ⟨fun _=>hC,?_⟩;refine aO 12 rfl ?_;have zQ:=S.boxRow 0 rfl;replace S:=S.t1;replace S:=S.int zG.2;replace S:=S.int zG.1;replace S:=S.pair;replace S:=S.one;refine aT rfl dt rfl dt S rfl rfl rfl (by simp) zQ AC dt ?_;intro B1 Al S;refine ah ?_;have hC:=(hCd _).2 ⟨_,S⟩;refine ⟨fun _=>hC,?_⟩;refine aO 13 rfl ?_;refine aI [Al] (bc rfl (oc (S.rdAt (R:=R4_) 0 rfl))) (by rfl) dt rfl dt S dt ?_;intro B2 B3 S Bu;refine ah ?_;have hC:=(hCd _).2 ⟨_,S⟩;refine ⟨fun _=>hC,?_⟩;refine aO 14 rfl ?_;have zR:=S.boxRow 0 rfl;replace S:=S.t3;replace S:=S.t2;replace S:=S.one;refine aT rfl dt rfl dt S rfl rfl rfl (by simp) zR AD dt ?_;intro B4 zJ S;refine ah ?_;have hC:=(hCd _).2 ⟨_,S⟩;refine ⟨fun _=>hC,?_⟩;refine aO 15 rfl ?_;refine pa zJ (ah ?_);refine ⟨fun _=>hC,?_⟩;refine bt (by kernel_rfl) ?_;replace S:=S.r2.r1;exact ⟨rfl,zJ,Af,zY,zZ,rfl,zS,S⟩
      refine aI [i_ zG.1,i_ zG.2] rfl (by rfl) dt rfl dt S dt ?_;intro BZ B0 S Bt;refine ah ?_;have hC:=(hCd _).2 ⟨_,S⟩;refine ⟨fun _=>hC,?_⟩;refine aO 6 rfl ?_;obtain ⟨Br,BW,Bs,z4,z5,zP,z6⟩:=mN (S.up Ag);replace S:=S.t1;replace S:=S.freeL (R:=R1_) z6;refine aT rfl dt rfl dt S rfl (rfl.trans z4) rfl z5 zP AB dt ?_;intro BX BY S;refine ah ?_;have hC:=(hCd _).2 ⟨_,S⟩;refine ⟨fun _=>hC,?_⟩;refine aO 12 rfl ?_;have zQ:=S.boxRow 1 rfl;replace S:=S.int zG.2;replace S:=S.int zG.1;replace S:=S.pair;replace S:=S.one;refine aT rfl dt rfl dt S rfl rfl rfl (by simp) zQ AC dt ?_;intro B1 Al S;refine ah ?_;have hC:=(hCd _).2 ⟨_,S⟩;refine ⟨fun _=>hC,?_⟩;refine aO 13 rfl ?_;refine aI [Al] (bc rfl (oc (S.rdAt (R:=R4_) 0 rfl))) (by rfl) dt rfl dt S dt ?_;intro B2 B3 S Bu;refine ah ?_;have hC:=(hCd _).2 ⟨_,S⟩;refine ⟨fun _=>hC,?_⟩;refine aO 14 rfl ?_;have zR:=S.boxRow 0 rfl;replace S:=S.t3;replace S:=S.t2;replace S:=S.one;refine aT rfl dt rfl dt S rfl rfl rfl (by simp) zR AD dt ?_;intro B4 zJ S;refine ah ?_;have hC:=(hCd _).2 ⟨_,S⟩;refine ⟨fun _=>hC,?_⟩;refine aO 15 rfl ?_;refine pa zJ (ah ?_);refine ⟨fun _=>hC,?_⟩;refine bt (by kernel_rfl) ?_;replace S:=S.r2.r1;exact ⟨rfl,zJ,Af,zY,zZ,rfl,zS,S⟩
     refine aI [i_ zG.1,i_ zG.2] rfl (by rfl) dt rfl dt S dt ?_;intro BZ B0 S Bt;refine ah ?_;have hC:=(hCd _).2 ⟨_,S⟩;refine ⟨fun _=>hC,?_⟩;refine aO 1 rfl ?_;refine aY R1_ S dt ?_;intro DF DG S CB;refine ah ?_;have hC:=(hCd _).2 ⟨_,S⟩;refine ⟨fun _=>hC,?_⟩;refine aO 6 rfl ?_;obtain ⟨Br,BW,Bs,z4,z5,zP,z6⟩:=mN (S.up Ag);replace S:=S.freeL (R:=R1_) z6;refine aT rfl dt rfl dt S rfl (rfl.trans z4) rfl z5 zP AB dt ?_;intro BX BY S;refine ah ?_;have hC:=(hCd _).2 ⟨_,S⟩;refine ⟨fun _=>hC,?_⟩;refine aO 12 rfl ?_;have zQ:=S.boxRow 1 rfl;replace S:=S.int zG.2;replace S:=S.int zG.1;replace S:=S.pair;replace S:=S.one;refine aT rfl dt rfl dt S rfl rfl rfl (by simp) zQ AC dt ?_;intro B1 Al S;refine ah ?_;have hC:=(hCd _).2 ⟨_,S⟩;refine ⟨fun _=>hC,?_⟩;refine aO 13 rfl ?_;refine aI [Al] (bc rfl (oc (S.rdAt (R:=R4_) 0 rfl))) (by rfl) dt rfl dt S dt ?_;intro B2 B3 S Bu;refine ah ?_;have hC:=(hCd _).2 ⟨_,S⟩;refine ⟨fun _=>hC,?_⟩;refine aO 14 rfl ?_;have zR:=S.boxRow 0 rfl;replace S:=S.t3;replace S:=S.t2;replace S:=S.one;refine aT rfl dt rfl dt S rfl rfl rfl (by simp) zR AD dt ?_;intro B4 zJ S;refine ah ?_;have hC:=(hCd _).2 ⟨_,S⟩;refine ⟨fun _=>hC,?_⟩;refine aO 15 rfl ?_;refine pa zJ (ah ?_);refine ⟨fun _=>hC,?_⟩;refine bt (by kernel_rfl) ?_;replace S:=S.r2.r1;exact ⟨rfl,zJ,Af,zY,zZ,rfl,zS,S⟩
    rintro Fs Ft ⟨zJ,CC,CD,CE,CF,CG,S⟩;refine bn BT (tn BS (ac (pM (i_ zM) CG (oB F fun Bd CH F=>pe (i_ Bd) (aE rfl rfl CH) (pa (i_ Bd) (en Bc ?_))))));replace S:=S.keep 1;exact ⟨zJ,BV,Bd,CC,CD,CE,CF,rfl,S,F⟩
   refine ct (aj AA) (sg fun _ DH=>?_);replace S:=S.r0;refine ac ?_;refine aY R1_ S dt ?_;intro Fu AE S EN;refine pa AE (pa (.bool false) (en DH (ae (tr BU (br BT (tr BS (tr Bc (br BQ (tr BP ?_)))))))));replace F:=exL F Bp;refine bX rfl rfl rfl ?_;have hr:=oI F;exact ⟨AE,cR hr fun r=>.tuple #[AE,.bool r.2],sP hr (fun r=>[Own R4_ [AE] r.1]) (S.keep 1)⟩
  refine cf Ay (aH (tx BR (tx Bc ?_)));replace F:=exA F Bp;refine bS BQ (tn BP (sg fun _ Am=>sR fun _ DI=>pa (i_ 0) (en DI (bg fun _ An=>?_))));obtain ⟨DJ,hL,z7⟩:=ob F;refine aC (fun k e w=>∃ (U:Value),∃ (zT:List T2_),∃ (zD:Int),e 6=i_ (a1.length:Int)∧e 7=U∧e 9=i_ zD∧Sat w0 w [Own R7_ [U] zT]∧bq N k (a1.length:Int) zT zD=some DJ) N ?_ ?_ ?_
  ·exact ⟨Ak,Ax,0,zZ,Bq,rfl,S,hL⟩
  ·rintro e w ⟨_,_,_,_,_,_,_,hz⟩; exact nn hz
  rintro k Fv Fw ⟨U,zT,zD,AF,Bv,AG,S,F⟩;refine gn fun _ zX=>sg fun _ B5=>sR fun _ DK=>pM (i_ zD) AG (pM (i_ (a1.length:Int)) AF (pe (.bool (decide (zD < (a1.length:Int)))) (aG rfl rfl) (en DK (oF F (fun AH F=>?_) fun AH F=>?_))))
  ·refine ct AH (sn B5 (sg fun _ Ac=>bg fun _ Ad=>sR fun _ DL=>pM (i_ zD) AG (pa (i_ zD) (en DL (sg fun _ B6=>bg fun _ B7=>?_)))));obtain ⟨DM,hL,Bw⟩:=ob F;refine aC (fun k e w=>∃ (zH:Int),e 6=i_ (a1.length:Int)∧e 7=U∧e 9=i_ zD∧e 10=i_ zH∧Sat w0 w [Own R7_ [U] zT]∧bv N k (a1.length:Int) zT zD zH=some DM) N ?_ ?_ ?_
   ·exact ⟨zD,AF,Bv,AG,rfl,S,hL⟩
   ·rintro e w ⟨_,_,_,_,_,_,hz⟩; exact nn hz
   rintro k Fx DN ⟨zH,zV,zE,zK,zL,S,F⟩;refine gn fun _ Be=>sg fun _ Bf=>sR fun _ B8=>pM (i_ zH) zL (pM (i_ (a1.length:Int)) zV (pe (.bool (decide (zH < (a1.length:Int)))) (aG rfl rfl) (pm (.bool (decide (zH < (a1.length:Int)))) (oF F (fun zC F=>?_) fun zC F=>?_))))
   ·refine ei zC (pM U zE (ei zC (pM (i_ zH) zL (ei zC (oB F fun Fy CI F=>?_)))));refine fg S rfl rfl dt rfl CI dt ?_;intro Fz EO FA EP Ah AI;obtain ⟨DO,rfl⟩:=aN Ah;refine ei zC (pe DO (ab rfl (AI 0 _ rfl)) (ei zC (pM (i_ zD) zK (ei zC (oB F fun Bg CJ F=>?_)))));refine aU (wA:=DN) rfl Ah rfl dt rfl CJ dt ?_;intro DP CK FB CL AJ;obtain ⟨_,_,rfl,CM,CN⟩:=CL;obtain rfl:=CM;obtain rfl:=CN;refine ei zC (pe (pt DP (CK + 0)) (aa rfl) (ei zC (pe (i_ Bg.1) (ab rfl (AJ 0 _ rfl)) (ei zC (pe (.bool (Bg.1 == 0)) (dx rfl rfl) (pe (.bool (Bg.1 == 0)) (ar rfl zC rfl) (en B8 (oF F (fun AK F=>?_) fun AK F=>?_))))))))
    ·refine ct AK (sn Bf (bg fun _ DQ=>ac (pM (i_ zH) zL (oB F fun Bh CO F=>pe (i_ Bh) (aE rfl rfl CO) (pa (i_ Bh) (ah (bn DQ (tn Be ?_))))))));replace S:=S.keep 1;exact ⟨Bh,zV,zE,zK,rfl,S,F⟩
    refine cf AK (aH (tx Bf (tx Be ?_)));replace F:=exB F Bw;refine bS B7 (tn B6 (sg fun _ B9=>sR fun _ DR=>pM (i_ zH) zL (pM (i_ (a1.length:Int)) zV (pe (.bool (zH == (a1.length:Int))) (dx rfl rfl) (en DR (oF F (fun AM F=>?_) fun AM F=>?_))))))
    ·refine ct AM (sg fun _ DS=>?_);replace S:=S.r0;refine ac ?_;refine aY R1_ S dt ?_;intro FC AN S AO;have AI:=aw AO AI;have Ah:=fN Ah AO;have AJ:=aw AO AJ;refine pa AN (pa (.bool false) (en DS (ae (tr B9 (br Ad (tr Ac (tr zX (br An (tr Am ?_)))))))));replace F:=exL F z7;refine bX rfl rfl rfl ?_;have hr:=oI F;exact ⟨AN,cR hr fun r=>.tuple #[AN,.bool r.2],sP hr (fun r=>[Own R4_ [AN] r.1]) (S.keep 1)⟩
    refine cf AM (sn B9 (sR fun _ DT=>pM U zE (pM (i_ zH) zL (oB F fun DU Bx F=>?_))));refine fg S rfl rfl dt rfl Bx dt ?_;intro FD EQ FE CP By Bz;obtain ⟨Ao,rfl⟩:=aN By;refine pe Ao (ab rfl (Bz 0 _ rfl)) (pa Ao (en DT (sR fun _ DV=>pM U zE (pM (i_ zH) zL (pM U zE (pM (i_ zD) zK (oB F fun FF AP F=>?_)))))));refine fg S rfl rfl dt rfl AP dt ?_;intro DW ER FG AQ BA BB;obtain ⟨Ca,rfl⟩:=aN BA;refine pe Ca (ab rfl (BB 0 _ rfl)) (oB F fun FH CQ F=>?_);refine fg S rfl rfl dt rfl CQ dt ?_;intro FI ES FJ CR CS ET;obtain ⟨FK,rfl⟩:=aN CS;refine oB F fun DX CT F=>?_;have A7:Value.oneCell' Ao=true:=(oc By);have A8:Value.oneCell' Ca=true:=(oc BA);refine lW S CR CP AQ rfl Bx AP Bz BB CT rfl (bc rfl A8) A8 ?_;intro DY S;replace S:Sat w0 DY [nC R4_ 39 U (DX.set (zD:Int).toNat DU) (zD:Int).toNat Ao]:=S;refine en DV (sR fun _ DZ=>pM U zE (pM (i_ zD) zK (pm Ao (pe (pt DW ((zD:Int).toNat * 1)) (ju (v:=U) rfl AQ rfl AP) (oB F fun D1 CU F=>?_)))));refine lL S AQ CU rfl (bc rfl A7) A7 ?_;intro D2 S;replace S:Sat w0 D2 [Own R7_ [U] D1]:=S;refine en DZ (sR fun _ D4=>pM U zE (pM (i_ zD) zK (oB F fun Bi CV F=>?_)));refine fK sL (kW S CV) (ca (ag rfl (ag rfl rfl))) dt ?_;rintro _ D5 ⟨rfl,S⟩;refine ⟨_,rfl,?_⟩;replace S:Sat w0 D5 [Own R7_ [U] Bi.2]:=S;refine pe (.bool (!Bi.1)) (aK rfl) (en D4 (oF F (fun AR F=>?_) fun AR F=>?_))
    ·refine cf (ai AR) (bk (bn Ad (tn Ac (ac (pM (i_ zD) zK (oB F fun Bj CX F=>pe (i_ Bj) (aE rfl rfl CX) (pa (i_ Bj) (en zX ?_))))))));replace S:=S.keep 1;exact ⟨U,Bi.2,Bj,zV,zE,rfl,S,F⟩
    refine ct (aj AR) (sg fun _ D6=>?_);replace S:=S.r0;refine ac ?_;refine aY R1_ S dt ?_;intro FL AS S EU;refine pa AS (pa (.bool false) (en D6 (ae (br Ad (tr Ac (tr zX (br An (tr Am ?_))))))));replace F:=exL F z7;refine bX rfl rfl rfl ?_;have hr:=oI F;exact ⟨AS,cR hr fun r=>.tuple #[AS,.bool r.2],sP hr (fun r=>[Own R4_ [AS] r.1]) (S.keep 1)⟩
   refine eo zC (eo zC (eo zC (eo zC (eo zC (eo zC (eo zC (eo zC (eo zC (pe (.bool false) (au rfl zC rfl) (en B8 (cf rfl (aH (tx Bf (tx Be ?_))))))))))))));replace F:=exB F Bw;refine bS B7 (tn B6 (sg fun _ Cb=>sR fun _ D7=>pM (i_ zH) zL (pM (i_ (a1.length:Int)) zV (pe (.bool (zH == (a1.length:Int))) (dx rfl rfl) (en D7 (oF F (fun AT F=>?_) fun AT F=>?_))))))
   ·refine ct AT (sg fun _ D8=>?_);replace S:=S.r0;refine ac ?_;refine aY R1_ S dt ?_;intro FM AU S EV;refine pa AU (pa (.bool false) (en D8 (ae (tr Cb (br Ad (tr Ac (tr zX (br An (tr Am ?_)))))))));replace F:=exL F z7;refine bX rfl rfl rfl ?_;have hr:=oI F;exact ⟨AU,cR hr fun r=>.tuple #[AU,.bool r.2],sP hr (fun r=>[Own R4_ [AU] r.1]) (S.keep 1)⟩
   refine cf AT (sn Cb (sR fun _ D9=>pM U zE (pM (i_ zH) zL (oB F fun Ea BC F=>?_))));refine fg S rfl rfl dt rfl BC dt ?_;intro FN EW FO CY BD BE;obtain ⟨Ap,rfl⟩:=aN BD;refine pe Ap (ab rfl (BE 0 _ rfl)) (pa Ap (en D9 (sR fun _ Eb=>pM U zE (pM (i_ zH) zL (pM U zE (pM (i_ zD) zK (oB F fun FP AV F=>?_)))))));refine fg S rfl rfl dt rfl AV dt ?_;intro Ec EX FQ AW BF BG;obtain ⟨Cc,rfl⟩:=aN BF;refine pe Cc (ab rfl (BG 0 _ rfl)) (oB F fun FR CZ F=>?_);refine fg S rfl rfl dt rfl CZ dt ?_;intro FS EY FT C0 C1 EZ;obtain ⟨FU,rfl⟩:=aN C1;refine oB F fun Ed C2 F=>?_;have A9:Value.oneCell' Ap=true:=(oc BD);have Ba:Value.oneCell' Cc=true:=(oc BF);refine lW S C0 CY AW rfl BC AV BE BG C2 rfl (bc rfl Ba) Ba ?_;intro Ee S;replace S:Sat w0 Ee [nC R4_ 39 U (Ed.set (zD:Int).toNat Ea) (zD:Int).toNat Ap]:=S;refine en Eb (sR fun _ Ef=>pM U zE (pM (i_ zD) zK (pm Ap (pe (pt Ec ((zD:Int).toNat * 1)) (ju (v:=U) rfl AW rfl AV) (oB F fun Eg C3 F=>?_)))));refine lL S AW C3 rfl (bc rfl A9) A9 ?_;intro Eh S;replace S:Sat w0 Eh [Own R7_ [U] Eg]:=S;refine en Ef (sR fun _ Ei=>pM U zE (pM (i_ zD) zK (oB F fun Bk C4 F=>?_)));refine fK sL (kW S C4) (ca (ag rfl (ag rfl rfl))) dt ?_;rintro _ Ej ⟨rfl,S⟩;refine ⟨_,rfl,?_⟩;replace S:Sat w0 Ej [Own R7_ [U] Bk.2]:=S;refine pe (.bool (!Bk.1)) (aK rfl) (en Ei (oF F (fun AX F=>?_) fun AX F=>?_))
   ·refine cf (ai AX) (bk (bn Ad (tn Ac (ac (pM (i_ zD) zK (oB F fun Bl C5 F=>pe (i_ Bl) (aE rfl rfl C5) (pa (i_ Bl) (en zX ?_))))))));replace S:=S.keep 1;exact ⟨U,Bk.2,Bl,zV,zE,rfl,S,F⟩
   refine ct (aj AX) (sg fun _ Ek=>?_);replace S:=S.r0;refine ac ?_;refine aY R1_ S dt ?_;intro FV AY S E0;refine pa AY (pa (.bool false) (en Ek (ae (br Ad (tr Ac (tr zX (br An (tr Am ?_))))))));replace F:=exL F z7;refine bX rfl rfl rfl ?_;have hr:=oI F;exact ⟨AY,cR hr fun r=>.tuple #[AY,.bool r.2],sP hr (fun r=>[Own R4_ [AY] r.1]) (S.keep 1)⟩
  refine cf AH (aH (tx B5 (tx zX ?_)));replace F:=exA F z7;refine bS An (tn Am (sR fun _ El=>?_));refine aY R1_ S dt ?_;intro FW Cd S E2;refine pa Cd (en El (sg fun _ Ce=>sR fun _ Em=>pa (i_ 0) (en Em (bg fun _ Cf=>?_))));obtain ⟨En,hL,BH⟩:=ob F;refine aC (fun k e w=>∃ (zI:Value),∃ (zU:List T1_),∃ (zN:Int),e 6=i_ (a1.length:Int)∧e 7=U∧e 12=zI∧e 13=i_ zN∧Sat w0 w [Own R4_ [zI] zU,Own R7_ [U] zT]∧bp N k (a1.length:Int) zT zU zN=some En) N ?_ ?_ ?_
  ·exact ⟨Cd,[],0,AF,Bv,rfl,rfl,S,hL⟩
  ·rintro e w ⟨_,_,_,_,_,_,_,_,hz⟩; exact nn hz
  rintro k FX Ae ⟨zI,zU,zN,Ai,Aj,AZ,zW,S,F⟩;refine gn fun _ Bm=>sg fun _ Cg=>sR fun _ Eo=>pM (i_ zN) zW (pM (i_ (a1.length:Int)) Ai (pe (.bool (decide (zN < (a1.length:Int)))) (aG rfl rfl) (en Eo (oF F (fun A0 F=>?_) fun A0 F=>?_))))
  ·refine ct A0 (sn Cg (sg fun _ Ch=>bg fun _ Ci=>sg fun _ Ep=>?_));replace S:=S.t1;obtain ⟨Aq,A1,S⟩:=S.frz;replace S:Sat w0 Ae [Frz Ae Aq,Own R4_ [zI] zU]:=S;refine oB F fun FY C6 F=>oB F fun A2 C7 F=>oB F fun FZ C8 F=>oB F fun A3 C9 F=>oB F fun J BI F=>?_;refine fT (fun e w=>∃ (zO:Nat),e 6=i_ (a1.length:Int)∧e 7=U∧e 12=zI∧e 13=i_ zN∧e 14=pt zO 0∧e 15=.bool J.2∧Sat w0 w [Frz Ae Aq,Own R4_ [zI] zU,Box zO 71 [i_ J.1.1,i_ J.1.2]]) ?_ ?_
   ·obtain ⟨C,hCd⟩:∃ C:World → Prop,∀ w,C w ↔ ∃ G,Sat w0 w ([Frz Ae Aq] ++ G):=⟨_,fun _=>Iff.rfl⟩;refine cl [0,1,2,3,4,5,6,7,8,9,10,11,12,13,14,15,16,17,18,19,20] C (by kernel_rfl) ?_;intro F0 Da;replace S:=S.ext Da;have hC:=(hCd _).2 ⟨_,S⟩;refine aP U 0 rfl rfl hC (ap rfl (fun w' hw'=>by obtain ⟨_,S⟩:=(hCd _).1 hw'; exact (aq Aj))) ?_;refine aP (i_ zN) 1 rfl rfl hC (ap rfl (fun w' hw'=>by obtain ⟨_,S⟩:=(hCd _).1 hw'; exact (aq zW))) ?_;refine dq (by kernel_rfl) 2 rfl hC (by kernel_rfl) (by kernel_rfl) rfl A1 rfl rfl C6 dt ?_;intro F3 E3 F4 F5 BJ z8 Ar Db;replace z8:=fun q hq=>(fun _ h=>h) q (z8 q hq);replace Ar:=(fun _ h=>h) _ Ar;obtain ⟨Er,rfl⟩:=aN (Rep.own_rd _ BJ);refine aP Er 3 rfl rfl hC (ap rfl (fun w' hw'=>by obtain ⟨_,S⟩:=(hCd _).1 hw'; exact (ab rfl ((S.frzCells 0 rfl Ar Db) 0 _ rfl)))) ?_;refine aP (i_ (a1.length:Int)) 4 rfl rfl hC (ap rfl (fun w' hw'=>by obtain ⟨_,S⟩:=(hCd _).1 hw'; exact (aq Ai))) ?_;refine dq (by kernel_rfl) 5 rfl hC (by kernel_rfl) (by kernel_rfl) rfl BJ rfl rfl C7 dt ?_;intro F6 E4 F7 F8 Dc z9 As Dd;replace z9:=fun q hq=>z8 q (z9 q hq);replace As:=z8 _ As;obtain ⟨_,_,_,_,rfl,rfl,De,Df⟩:=Dc;have EB:=fun q hq=>z9 q (List.mem_append_left _ hq);have EC:=fun q hq=>z9 q (List.mem_append_right _ hq);obtain ⟨rfl,_⟩:=De;obtain ⟨rfl,_⟩:=Df;refine aP (.agg #[i_ A2.1,i_ A2.2]) 6 rfl rfl hC (ap rfl (fun w' hw'=>by obtain ⟨_,S⟩:=(hCd _).1 hw'; exact (an (cs:=[i_ A2.1,i_ A2.2]) rfl rfl (S.frzCells 0 rfl As Dd)))) ?_;refine aP U 7 rfl rfl hC (ap rfl (fun w' hw'=>by obtain ⟨_,S⟩:=(hCd _).1 hw'; exact (aq Aj))) ?_;refine aP (i_ zN) 8 rfl rfl hC (ap rfl (fun w' hw'=>by obtain ⟨_,S⟩:=(hCd _).1 hw'; exact (aq zW))) ?_;refine dq (by kernel_rfl) 9 rfl hC (by kernel_rfl) (by kernel_rfl) rfl A1 rfl rfl C8 dt ?_;intro F9 E5 Ga Gb BK Aa At Dg;replace Aa:=fun q hq=>(fun _ h=>h) q (Aa q hq);replace At:=(fun _ h=>h) _ At;obtain ⟨Es,rfl⟩:=aN (Rep.own_rd _ BK);refine aP Es 10 rfl rfl hC (ap rfl (fun w' hw'=>by obtain ⟨_,S⟩:=(hCd _).1 hw'; exact (ab rfl ((S.frzCells 0 rfl At Dg) 0 _ rfl)))) ?_;refine aP (i_ zN) 11 rfl rfl hC (ap rfl (fun w' hw'=>by obtain ⟨_,S⟩:=(hCd _).1 hw'; exact (aq zW))) ?_;refine dq (by kernel_rfl) 12 rfl hC (by kernel_rfl) (by kernel_rfl) rfl BK rfl rfl C9 dt ?_;intro Gc E6 Gd Ge Dh Ab Au Di;replace Ab:=fun q hq=>Aa q (Ab q hq);replace Au:=Aa _ Au;obtain ⟨_,_,_,_,rfl,rfl,Dj,Dk⟩:=Dh;have ED:=fun q hq=>Ab q (List.mem_append_left _ hq);have EE:=fun q hq=>Ab q (List.mem_append_right _ hq);obtain ⟨rfl,_⟩:=Dj;obtain ⟨rfl,_⟩:=Dk;refine aP (.agg #[i_ A3.1,i_ A3.2]) 13 rfl rfl hC (ap rfl (fun w' hw'=>by obtain ⟨_,S⟩:=(hCd _).1 hw'; exact (an (cs:=[i_ A3.1,i_ A3.2]) rfl rfl (S.frzCells 0 rfl Au Di)))) ?_;refine fi 14 18 (by kernel_rfl) rfl rfl ?_ ?_
    ·refine ec0 n8 (gF BI) (ca (ag rfl (ag rfl rfl))) S fun Et Dl S=>?_;refine ah ?_;have hC:=(hCd _).2 ⟨_,S⟩;refine ⟨fun _=>hC,?_⟩;refine aP (.tuple #[.agg #[i_ J.1.1,i_ J.1.2],.bool J.2]) 15 rfl rfl hC (ap rfl (fun w' hw'=>by obtain ⟨_,S⟩:=(hCd _).1 hw'; exact (aq rfl))) ?_;refine aP (.agg #[i_ J.1.1,i_ J.1.2]) 16 rfl rfl hC (ap rfl (fun w' hw'=>by obtain ⟨_,S⟩:=(hCd _).1 hw'; exact (am rfl rfl))) ?_;refine aP (.bool J.2) 17 rfl rfl hC (ap rfl (fun w' hw'=>by obtain ⟨_,S⟩:=(hCd _).1 hw'; exact (am rfl rfl))) ?_;refine aO 18 rfl ?_;refine aB S dt ?_;intro Eu zO S Dm;refine ah ?_;replace S:=S.t1;have hC:=(hCd _).2 ⟨_,S⟩;refine ⟨fun _=>hC,?_⟩;refine aO 19 rfl ?_;refine ak (S.top 1 rfl) rfl [i_ J.1.1,i_ J.1.2] rfl rfl dt (all_cons rfl (all_cons rfl rfl)) ?_;intro Bn S;replace S:Sat w0 Bn [Box zO 71 [i_ J.1.1,i_ J.1.2],Frz Ae Aq,Own R4_ [zI] zU]:=S;refine ah ?_;replace S:=S.t1;have hC:=(hCd _).2 ⟨_,S⟩;refine ⟨fun _=>hC,?_⟩;refine aO 20 rfl ?_;refine pa (.bool J.2) (ah ?_);refine ⟨fun _=>hC,?_⟩;refine bt (by kernel_rfl) ?_;replace S:=S.t1.t2.t2;exact ⟨rfl,zO,Ai,Aj,AZ,zW,rfl,rfl,S⟩
    refine aB S dt ?_;intro Eu zO S Dm;refine ah ?_;replace S:=S.t1;have hC:=(hCd _).2 ⟨_,S⟩;refine ⟨fun _=>hC,?_⟩;refine aO 14 rfl ?_;refine ec0 n8 (gF BI) (ca (ag rfl (ag rfl rfl))) S fun Et Dl S=>?_;refine ah ?_;have hC:=(hCd _).2 ⟨_,S⟩;refine ⟨fun _=>hC,?_⟩;refine aO 15 rfl ?_;refine pm (.tuple #[.agg #[i_ J.1.1,i_ J.1.2],.bool J.2]) (ah ?_);refine ⟨fun _=>hC,?_⟩;refine aP (.agg #[i_ J.1.1,i_ J.1.2]) 16 rfl rfl hC (ap rfl (fun w' hw'=>by obtain ⟨_,S⟩:=(hCd _).1 hw'; exact (am rfl rfl))) ?_;refine aP (.bool J.2) 17 rfl rfl hC (ap rfl (fun w' hw'=>by obtain ⟨_,S⟩:=(hCd _).1 hw'; exact (am rfl rfl))) ?_;refine aO 19 rfl ?_;refine ak (S.top 1 rfl) rfl [i_ J.1.1,i_ J.1.2] rfl rfl dt (all_cons rfl (all_cons rfl rfl)) ?_;intro Bn S;replace S:Sat w0 Bn [Box zO 71 [i_ J.1.1,i_ J.1.2],Frz Ae Aq,Own R4_ [zI] zU]:=S;refine ah ?_;replace S:=S.t1;have hC:=(hCd _).2 ⟨_,S⟩;refine ⟨fun _=>hC,?_⟩;refine aO 20 rfl ?_;refine pa (.bool J.2) (ah ?_);refine ⟨fun _=>hC,?_⟩;refine bt (by kernel_rfl) ?_;replace S:=S.t1.t2.t2;exact ⟨rfl,zO,Ai,Aj,AZ,zW,rfl,rfl,S⟩
   rintro Gf Ev ⟨zO,Dn,Do,Dp,Dq,Dr,Ds,S⟩;replace S:=S.unfrz A1;replace S:Sat w0 Ev [Own R7_ [U] zT,Own R4_ [zI] zU,Box zO 71 [i_ J.1.1,i_ J.1.2]]:=S;refine tn Ep (sg fun _ Cj=>sR fun _ Ew=>pM (.bool J.2) Ds (pe (.bool (!J.2)) (aK rfl) (en Ew (oF F (fun A4 F=>?_) fun A4 F=>?_))))
   ·refine cf (ai A4) (sn Cj (ac (pM zI Dp (pe (.agg #[i_ J.1.1,i_ J.1.2]) (an (cs:=[i_ J.1.1,i_ J.1.2]) Dr rfl (av (S.boxAt 2 rfl))) ?_))));refine aI [i_ J.1.1,i_ J.1.2] rfl (by rfl) dt rfl dt S dt ?_;intro Gg Gh S E7;refine oB F fun Ex Dt F=>?_;have BL:=S.boxRow 0 rfl;replace S:=S.t2;replace S:=S.int J.1.2;replace S:=S.int J.1.1;replace S:=S.pair;replace S:=S.one;refine aT rfl dt rfl dt S rfl rfl rfl (by simp) BL Dt dt ?_;intro Gi Ck S;refine pa Ck (ah (bn Ci (tn Ch ?_)));replace S:=S.r3.r1;refine ac (pM (i_ zN) Dq (oB F fun Bo Du F=>pe (i_ Bo) (aE rfl rfl Du) (pa (i_ Bo) (en Bm ?_))));replace S:=S.keep 2;exact ⟨Ck,Ex,Bo,Dn,Do,rfl,rfl,S,F⟩
   refine ct (aj A4) (sg fun _ Ey=>?_);replace S:=S.r2.r1.r0;refine ac ?_;refine aY R1_ S dt ?_;intro Gj A5 S E8;refine pa A5 (pa (.bool false) (en Ey (ae (tr Cj (br Ci (tr Ch (tr Bm (br Cf (tr Ce ?_)))))))));replace F:=exL F BH;refine bX rfl rfl rfl ?_;have hr:=oI F;exact ⟨A5,cR hr fun r=>.tuple #[A5,.bool r.2],sP hr (fun r=>[Own R4_ [A5] r.1]) (S.keep 1)⟩
  refine cf A0 (aH (tx Cg (tx Bm ?_)));replace F:=exA F BH;refine bS Cf (tn Ce (sg fun _ Ez=>?_));replace S:=S.r1;refine ac (pM zI AZ (pa zI (pa (.bool true) (en Ez (ae (bX rfl rfl rfl ?_))))));have hr:=oI F;exact ⟨zI,cR hr fun r=>.tuple #[zI,.bool r.2],sP hr (fun r=>[Own R4_ [zI] r.1]) (S.keep 1)⟩
 refine ct (aj Aw) (sR fun _ EA=>?_);refine aY R1_ S dt ?_;intro Gk A6 S E9;refine pa A6 (pa (.bool false) (en EA (ae (tr Bb (bX rfl rfl rfl ?_)))));have hr:=oI F;exact ⟨A6,cR hr fun r=>.tuple #[A6,.bool r.2],sP hr (fun r=>[Own R4_ [A6] r.1]) (S.keep 1)⟩
theorem mD {w0:World} {u0:Value} {a0:List T1_} {u1:Value} {a1:List T1_} (ha0:R4_.rd w0 [u0] a0) (ha1:R4_.rd w0 [u1] a1) {N:Nat} {r:T1_ × Bool} (F:dj N a0 a1=some r): Calls Tryd.prog 95 #[u0,u1] w0 fun e w'=>e=.returned (.tuple #[.agg #[i_ r.1.1,i_ r.1.2],.bool r.2])∧Ext w0 w' := by
 unfold dj at F;refine aJ Tryd.func95 rfl rfl dt ?_;have S:=Sat.start w0;refine sR fun _ Av=>?_;refine aB S dt ?_;intro AX zE S AS;refine pa (.bool false) (en Av (sg fun _ z8=>sR fun _ Aw=>pm u0 (pe (i_ (a0.length:Int)) (az rfl ha0) (pm u1 (pe (i_ (a1.length:Int)) (az rfl ha1) (pe (.bool ((a0.length:Int) != (a1.length:Int))) (cK rfl rfl) (en Aw (oF F (fun zM F=>?_) fun zM F=>?_))))))))
 ·refine ct zM (sR fun _ Ax=>pe (.agg #[i_ 0,i_ 0]) (aQ [] [i_ 0,i_ 0] rfl rfl) ?_);refine ak (S.top 0 rfl) rfl [i_ 0,i_ 0] rfl rfl dt (all_cons rfl (all_cons rfl rfl)) ?_;intro Ay S;replace S:Sat w0 Ay [Box zE 71 [i_ 0,i_ 0]]:=S;refine pa (.bool false) (en Ax (ae (tr z8 ?_)));refine bh (cs:=[i_ 0,i_ 0]) rfl rfl rfl (av (S.boxAt 0 rfl)) rfl ?_;have hr:=oI F;exact ⟨cR hr fun r=>.tuple #[.agg #[i_ r.1.1,i_ r.1.2],.bool r.2],S.below⟩
 refine cf zM (sn z8 (sR fun _ Az=>pe (.agg #[i_ 0,i_ 1]) (aQ [(1,[i_ 1])] [i_ 0,i_ 1] (el rfl rfl) rfl) ?_));refine aB S dt ?_;intro AY zG S AT;refine ak (S.top 0 rfl) rfl [i_ 0,i_ 1] rfl rfl dt (all_cons rfl (all_cons rfl rfl)) ?_;intro AA S;replace S:Sat w0 AA [Box zG 71 [i_ 0,i_ 1],Box zE 71 [i_ 0,i_ 0]]:=S;refine en Az (sg fun _ zX=>sR fun _ AB=>pa (i_ 0) (en AB (bg fun _ zY=>?_)));obtain ⟨AC,hL,zN⟩:=ob F;refine aC (fun k e w=>∃ (zC:Int),∃ (zD:Int),∃ (zH:Int),e 0=u0∧e 1=u1∧e 4=pt zE 0∧e 6=pt zG 0∧e 7=i_ zH∧Sat w0 w [Box zG 71 [i_ zC,i_ zD],Box zE 71 [i_ 0,i_ 0]]∧bw N k a0 a1 0 0 zC zD zH=some AC) N ?_ ?_ ?_
 ·exact ⟨0,1,0,rfl,rfl,rfl,rfl,rfl,S,hL⟩
 ·rintro e w ⟨_,_,_,_,_,_,_,_,_,hz⟩; exact nn hz
 rintro k AZ A0 ⟨zC,zD,zH,zK,zO,zL,zP,zI,S,F⟩;refine gn fun _ zQ=>sg fun _ z9=>sR fun _ AD=>pM (i_ zH) zI (pM u0 zK (pe (i_ (a0.length:Int)) (az rfl ha0) (pe (.bool (decide (zH < (a0.length:Int)))) (aG rfl rfl) (en AD (oF F (fun zR F=>?_) fun zR F=>?_)))))
 ·refine ct zR (sn z9 (sg fun _ zZ=>bg fun _ z4=>sg fun _ AE=>oB F fun zS Ab F=>oB F fun zT Ac F=>oB F fun J z7 F=>?_));refine fT (fun e w=>∃ (zF:Nat),e 0=u0∧e 1=u1∧e 4=pt zE 0∧e 6=pt zG 0∧e 7=i_ zH∧e 8=pt zF 0∧e 9=.bool J.2∧Sat w0 w [Box zG 71 [i_ zC,i_ zD],Box zE 71 [i_ 0,i_ 0],Box zF 71 [i_ J.1.1,i_ J.1.2]]) ?_ ?_
  ·obtain ⟨C,hCd⟩:∃ C:World → Prop,∀ w,C w ↔ ∃ G,Sat w0 w ([] ++ G):=⟨_,fun _=>Iff.rfl⟩;refine cl [0,1,2,3,4,5,6,7,8,9,10,11,12,13,14] C (by kernel_rfl) ?_;intro A1 Ad;replace S:=S.ext Ad;have hC:=(hCd _).2 ⟨_,S⟩;refine aP u0 0 rfl rfl hC (ap rfl (fun w' hw'=>by obtain ⟨_,S⟩:=(hCd _).1 hw'; exact (aq zK))) ?_;refine aP (i_ zH) 1 rfl rfl hC (ap rfl (fun w' hw'=>by obtain ⟨_,S⟩:=(hCd _).1 hw'; exact (aq zI))) ?_;refine fI (wA:=w0) (by kernel_rfl) 2 rfl hC (by kernel_rfl) (by kernel_rfl) rfl ha0 rfl dt rfl Ab dt ?_;intro A2 AU A3 Ae Af;obtain ⟨_,_,rfl,Ag,Ah⟩:=Ae;obtain rfl:=Ag;obtain rfl:=Ah;refine aP (.agg #[i_ zS.1,i_ zS.2]) 3 rfl rfl hC (ap rfl (fun w' hw'=>by obtain ⟨_,S⟩:=(hCd _).1 hw'; exact (an (cs:=[i_ zS.1,i_ zS.2]) rfl rfl (aw S.below Af)))) ?_;refine aP u1 4 rfl rfl hC (ap rfl (fun w' hw'=>by obtain ⟨_,S⟩:=(hCd _).1 hw'; exact (aq zO))) ?_;refine aP (i_ zH) 5 rfl rfl hC (ap rfl (fun w' hw'=>by obtain ⟨_,S⟩:=(hCd _).1 hw'; exact (aq zI))) ?_;refine fI (wA:=w0) (by kernel_rfl) 6 rfl hC (by kernel_rfl) (by kernel_rfl) rfl ha1 rfl dt rfl Ac dt ?_;intro A4 AV A5 Ai Aj;obtain ⟨_,_,rfl,Ak,Al⟩:=Ai;obtain rfl:=Ak;obtain rfl:=Al;refine aP (.agg #[i_ zT.1,i_ zT.2]) 7 rfl rfl hC (ap rfl (fun w' hw'=>by obtain ⟨_,S⟩:=(hCd _).1 hw'; exact (an (cs:=[i_ zT.1,i_ zT.2]) rfl rfl (aw S.below Aj)))) ?_;refine fi 8 12 (by kernel_rfl) rfl rfl ?_ ?_
   ·refine ec0 ov (gH z7) (ca (ag rfl (ag rfl rfl))) S fun AF Am S=>?_;refine ah ?_;have hC:=(hCd _).2 ⟨_,S⟩;refine ⟨fun _=>hC,?_⟩;refine aP (.tuple #[.agg #[i_ J.1.1,i_ J.1.2],.bool J.2]) 9 rfl rfl hC (ap rfl (fun w' hw'=>by obtain ⟨_,S⟩:=(hCd _).1 hw'; exact (aq rfl))) ?_;refine aP (.agg #[i_ J.1.1,i_ J.1.2]) 10 rfl rfl hC (ap rfl (fun w' hw'=>by obtain ⟨_,S⟩:=(hCd _).1 hw'; exact (am rfl rfl))) ?_;refine aP (.bool J.2) 11 rfl rfl hC (ap rfl (fun w' hw'=>by obtain ⟨_,S⟩:=(hCd _).1 hw'; exact (am rfl rfl))) ?_;refine aO 12 rfl ?_;refine aB S dt ?_;intro AG zF S An;refine ah ?_;have hC:=(hCd _).2 ⟨_,S⟩;refine ⟨fun _=>hC,?_⟩;refine aO 13 rfl ?_;refine ak (S.top 0 rfl) rfl [i_ J.1.1,i_ J.1.2] rfl rfl dt (all_cons rfl (all_cons rfl rfl)) ?_;intro z5 S;replace S:Sat w0 z5 [Box zF 71 [i_ J.1.1,i_ J.1.2],Box zG 71 [i_ zC,i_ zD],Box zE 71 [i_ 0,i_ 0]]:=S;refine ah ?_;have hC:=(hCd _).2 ⟨_,S⟩;refine ⟨fun _=>hC,?_⟩;refine aO 14 rfl ?_;refine pa (.bool J.2) (ah ?_);refine ⟨fun _=>hC,?_⟩;refine bt (by kernel_rfl) ?_;replace S:=S.t2.t2;exact ⟨rfl,zF,zK,zO,zL,zP,zI,rfl,rfl,S⟩
   refine aB S dt ?_;intro AG zF S An;refine ah ?_;have hC:=(hCd _).2 ⟨_,S⟩;refine ⟨fun _=>hC,?_⟩;refine aO 8 rfl ?_;refine ec0 ov (gH z7) (ca (ag rfl (ag rfl rfl))) S fun AF Am S=>?_;refine ah ?_;have hC:=(hCd _).2 ⟨_,S⟩;refine ⟨fun _=>hC,?_⟩;refine aO 9 rfl ?_;refine pm (.tuple #[.agg #[i_ J.1.1,i_ J.1.2],.bool J.2]) (ah ?_);refine ⟨fun _=>hC,?_⟩;refine aP (.agg #[i_ J.1.1,i_ J.1.2]) 10 rfl rfl hC (ap rfl (fun w' hw'=>by obtain ⟨_,S⟩:=(hCd _).1 hw'; exact (am rfl rfl))) ?_;refine aP (.bool J.2) 11 rfl rfl hC (ap rfl (fun w' hw'=>by obtain ⟨_,S⟩:=(hCd _).1 hw'; exact (am rfl rfl))) ?_;refine aO 13 rfl ?_;refine ak (S.top 0 rfl) rfl [i_ J.1.1,i_ J.1.2] rfl rfl dt (all_cons rfl (all_cons rfl rfl)) ?_;intro z5 S;replace S:Sat w0 z5 [Box zF 71 [i_ J.1.1,i_ J.1.2],Box zG 71 [i_ zC,i_ zD],Box zE 71 [i_ 0,i_ 0]]:=S;refine ah ?_;have hC:=(hCd _).2 ⟨_,S⟩;refine ⟨fun _=>hC,?_⟩;refine aO 14 rfl ?_;refine pa (.bool J.2) (ah ?_);refine ⟨fun _=>hC,?_⟩;refine bt (by kernel_rfl) ?_;replace S:=S.t2.t2;exact ⟨rfl,zF,zK,zO,zL,zP,zI,rfl,rfl,S⟩
  rintro A6 A7 ⟨zF,Ao,Ap,zJ,zU,Aq,Ar,As,S⟩;refine tn AE (sg fun _ Aa=>sR fun _ AH=>pM (.bool J.2) As (pe (.bool (!J.2)) (aK rfl) (en AH (oF F (fun zV F=>?_) fun zV F=>?_))))
  ·refine cf (ai zV) (sn Aa (sR fun _ AI=>pe (.agg #[i_ zC,i_ zD]) (an (cs:=[i_ zC,i_ zD]) zU rfl (av (S.boxAt 0 rfl))) (pe (.agg #[i_ J.1.1,i_ J.1.2]) (an (cs:=[i_ J.1.1,i_ J.1.2]) Ar rfl (av (S.boxAt 2 rfl))) (oB F fun U At F=>?_))));refine ec0 rO (jF At) (ca (ag rfl (ag rfl rfl))) S fun A8 AW S=>?_;refine pm (.tuple #[.agg #[i_ U.1.1,i_ U.1.2],.bool U.2]) (pe (.agg #[i_ U.1.1,i_ U.1.2]) (am rfl rfl) (pe (.bool U.2) (am rfl rfl) ?_));refine ak (S.top 0 rfl) zU [i_ U.1.1,i_ U.1.2] rfl rfl dt (all_cons rfl (all_cons rfl rfl)) ?_;intro AJ S;replace S:Sat w0 AJ [Box zG 71 [i_ U.1.1,i_ U.1.2],Box zE 71 [i_ 0,i_ 0],Box zF 71 [i_ J.1.1,i_ J.1.2]]:=S;refine pa (.bool U.2) (en AI (sg fun _ AK=>?_));replace S:=S.r2;refine ac (pm (.bool U.2) (pe (.bool (!U.2)) (aK rfl) (en AK (oF F (fun zW F=>?_) fun zW F=>?_))))
   ·refine cf (ai zW) (bk (bn z4 (tn zZ (ac (pM (i_ zH) Aq (oB F fun z6 Au F=>pe (i_ z6) (aE rfl rfl Au) (pa (i_ z6) (en zQ ?_))))))));replace S:=S.keep 2;exact ⟨U.1.1,U.1.2,z6,Ao,Ap,zJ,zU,rfl,S,F⟩
   refine ct (aj zW) (sg fun _ AM=>?_);replace S:=S.r0;refine ac (pe (.agg #[i_ 0,i_ 0]) (aQ [] [i_ 0,i_ 0] rfl rfl) ?_);refine ak (S.top 0 rfl) zJ [i_ 0,i_ 0] rfl rfl dt (all_cons rfl (all_cons rfl rfl)) ?_;intro AN S;replace S:Sat w0 AN [Box zE 71 [i_ 0,i_ 0]]:=S;refine pa (.bool false) (en AM (ae (br z4 (tr zZ (tr zQ (br zY (tr zX ?_)))))));replace F:=exL F zN;refine bh (cs:=[i_ 0,i_ 0]) rfl zJ rfl (av (S.boxAt 0 rfl)) rfl ?_;have hr:=oI F;exact ⟨cR hr fun r=>.tuple #[.agg #[i_ r.1.1,i_ r.1.2],.bool r.2],S.below⟩
  refine ct (aj zV) (sg fun _ AO=>?_);replace S:=S.r2.r0;refine ac (pe (.agg #[i_ 0,i_ 0]) (aQ [] [i_ 0,i_ 0] rfl rfl) ?_);refine ak (S.top 0 rfl) zJ [i_ 0,i_ 0] rfl rfl dt (all_cons rfl (all_cons rfl rfl)) ?_;intro AP S;replace S:Sat w0 AP [Box zE 71 [i_ 0,i_ 0]]:=S;refine pa (.bool false) (en AO (ae (tr Aa (br z4 (tr zZ (tr zQ (br zY (tr zX ?_))))))));replace F:=exL F zN;refine bh (cs:=[i_ 0,i_ 0]) rfl zJ rfl (av (S.boxAt 0 rfl)) rfl ?_;have hr:=oI F;exact ⟨cR hr fun r=>.tuple #[.agg #[i_ r.1.1,i_ r.1.2],.bool r.2],S.below⟩
 refine cf zR (aH (tx z9 (tx zQ ?_)));replace F:=exA F zN;refine bS zY (tn zX (sR fun _ AQ=>pe (.agg #[i_ zC,i_ zD]) (an (cs:=[i_ zC,i_ zD]) zP rfl (av (S.boxAt 0 rfl))) ?_));refine ak (S.top 1 rfl) zL [i_ zC,i_ zD] rfl rfl dt (all_cons rfl (all_cons rfl rfl)) ?_;intro AR S;replace S:Sat w0 AR [Box zE 71 [i_ zC,i_ zD],Box zG 71 [i_ zC,i_ zD]]:=S;refine pa (.bool true) (en AQ (ae ?_));refine bh (cs:=[i_ zC,i_ zD]) rfl zL rfl (av (S.boxAt 0 rfl)) rfl ?_;have hr:=oI F;exact ⟨cR hr fun r=>.tuple #[.agg #[i_ r.1.1,i_ r.1.2],.bool r.2],S.below⟩
theorem j8 {w0:World} {u0:Value} {a0:List T2_} {u1:Value} {a1:List T1_} (ha0:R7_.rd w0 [u0] a0) (ha1:R4_.rd w0 [u1] a1) {N:Nat} {r:T2_ × Bool} (F:bB N a0 a1=some r): Calls Tryd.prog 84 #[u0,u1] w0 fun e w'=>∃ (q0:Value),e=.returned (.tuple #[q0,.bool r.2])∧Sat w0 w' [Own R4_ [q0] r.1] := by
 unfold bB at F;refine aJ Tryd.func84 rfl rfl dt ?_;have S:=Sat.start w0;refine sR fun _ z7=>pa n_ (pa (.bool false) (en z7 (sR fun _ z8=>?_)));refine aY R1_ S dt ?_;intro Aq zQ S Ak;refine pa zQ (en z8 (sg fun _ zR=>sR fun _ z9=>pa (i_ 0) (en z9 (bg fun _ zS=>?_))));obtain ⟨Aa,hL,zL⟩:=ob F;refine aC (fun k e w=>∃ (U:Value),∃ (zD:List T1_),∃ (zC:Int),e 0=u0∧e 1=u1∧e 6=U∧e 7=i_ zC∧Sat w0 w [Own R4_ [U] zD]∧aR N k a0 a1 zD zC=some Aa) N ?_ ?_ ?_
 ·exact ⟨zQ,[],0,rfl,rfl,rfl,rfl,S,hL⟩
 ·rintro e w ⟨_,_,_,_,_,_,_,_,hz⟩; exact nn hz
 rintro k Ar As ⟨U,zD,zC,zE,zM,zN,zF,S,F⟩;refine gn fun _ zJ=>sg fun _ zT=>sR fun _ Ab=>pM (i_ zC) zF (pM u0 zE (pe (i_ (a0.length:Int)) (az rfl ha0) (pe (.bool (decide (zC < (a0.length:Int)))) (aG rfl rfl) (en Ab (oF F (fun zG F=>?_) fun zG F=>?_)))))
 ·refine ct zG (sn zT (sg fun _ zU=>bg fun _ zV=>sR fun _ Ac=>pM u0 zE (pM (i_ zC) zF (oB F fun At zY F=>?_))));refine aU (wA:=w0) rfl ha0 rfl dt rfl zY dt ?_;intro Au Al Av zO zZ;obtain ⟨Ad,rfl⟩:=aN zO;refine pe Ad (ab rfl ((aw S.below zZ) 0 _ rfl)) (pM u1 zM (oB F fun J z4 F=>?_));refine ec0 xh (mD (S.up zO) (S.up ha1) z4) (ca (ag rfl (ag rfl rfl))) S fun Aw Am S=>?_;refine pm (.tuple #[.agg #[i_ J.1.1,i_ J.1.2],.bool J.2]) (pe (.agg #[i_ J.1.1,i_ J.1.2]) (am rfl rfl) (pe (.bool J.2) (am rfl rfl) ?_));refine aB S dt ?_;intro Ax Ae S An;refine ak (S.top 0 rfl) rfl [i_ J.1.1,i_ J.1.2] rfl rfl dt (all_cons rfl (all_cons rfl rfl)) ?_;intro Af S;replace S:Sat w0 Af [Box Ae 71 [i_ J.1.1,i_ J.1.2],Own R4_ [U] zD]:=S;refine pa (.bool J.2) (en Ac (sg fun _ zW=>sR fun _ Ag=>pm (.bool J.2) (pe (.bool (!J.2)) (aK rfl) (en Ag (oF F (fun zH F=>?_) fun zH F=>?_)))))
  ·refine cf (ai zH) (sn zW (ac (pM U zN (pe (.agg #[i_ J.1.1,i_ J.1.2]) (an (cs:=[i_ J.1.1,i_ J.1.2]) rfl rfl (av (S.boxAt 0 rfl))) ?_))));refine aI [i_ J.1.1,i_ J.1.2] rfl (by rfl) dt rfl dt S dt ?_;intro Ay Az S Ao;refine oB F fun Ah z5 F=>?_;have zP:=S.boxRow 0 rfl;replace S:=S.t2;replace S:=S.int J.1.2;replace S:=S.int J.1.1;replace S:=S.pair;replace S:=S.one;refine aT rfl dt rfl dt S rfl rfl rfl (by simp) zP z5 dt ?_;intro AA zX S;refine pa zX (ah (bn zV (tn zU ?_)));replace S:=S.r2.r1;refine ac (pM (i_ zC) zF (oB F fun zK z6 F=>pe (i_ zK) (aE rfl rfl z6) (pa (i_ zK) (en zJ ?_))));replace S:=S.keep 1;exact ⟨zX,Ah,zK,zE,zM,rfl,rfl,S,F⟩
  refine ct (aj zH) (sg fun _ Ai=>?_);replace S:=S.r1.r0;refine ac ?_;refine aY R1_ S dt ?_;intro AB zI S Ap;refine pa zI (pa (.bool false) (en Ai (ae (tr zW (br zV (tr zU (tr zJ (br zS (tr zR ?_)))))))));replace F:=exL F zL;refine bX rfl rfl rfl ?_;have hr:=oI F;exact ⟨zI,cR hr fun r=>.tuple #[zI,.bool r.2],sP hr (fun r=>[Own R4_ [zI] r.1]) (S.keep 1)⟩
 refine cf zG (aH (tx zT (tx zJ ?_)));replace F:=exA F zL;refine bS zS (tn zR (sR fun _ Aj=>pM U zN (pa U (pa (.bool true) (en Aj (ae (bX rfl rfl rfl ?_)))))));have hr:=oI F;exact ⟨U,cR hr fun r=>.tuple #[U,.bool r.2],sP hr (fun r=>[Own R4_ [U] r.1]) (S.keep 1)⟩
end
end Go.Proofs.YtijmbnbnojicjaaDoor
