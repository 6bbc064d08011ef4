/- A small separation logic over the model: how lists, rows and structs of Go read in memory ('Rep'), what a call owns ('Sat'), and the laws of the walk for them. Program-independent. -/
import Derived.WalkKit
import Derived.ProofKit
import Derived.WalkLawsBesides
import Derived.Outline
import Derived.Lib.Hide
import Derived.Deep.Quiet
import Derived.Deep.LoopGhost
import Derived.IntWalk
import Derived.Test.YtdapplkijobjoaaRows
import Derived.OpenShut
import Derived.Lib.SmallJoins
import Derived.Laws.BytesString
namespace Go.Proofs.Ytdapplkijobjoaa
open Go.RowKit

abbrev Ext (w w':World):Prop:=Below w.heap.size w w'

theorem Ext.refl (w:World):Ext w w:=Below.refl _ _
theorem Ext.trans {a b c:World} (h:Ext a b) (k:Ext b c):Ext a c:=Below.trans h (k.mono h.size)
theorem Below.andExt {B:Nat} {a b c:World} (h:Below B a b) (hB:B≤b.heap.size) (k:Ext b c):Below B a c:=Below.trans h (k.mono hB)

structure Chg (fp:List Nat) (w w':World):Prop where
 os:w'.os=w.os
 tape:w'.tape=w.tape
 output:w'.output=w.output
 size:w.heap.size≤w'.heap.size
 block:∀ k,k<w.heap.size→k∉fp→w'.heap[k]? = w.heap[k]?

theorem Chg.of_ext {w w':World} (h:Ext w w') (fp:List Nat):Chg fp w w':=⟨h.os,h.tape,h.output,h.size,fun k hk _=>h.block k hk⟩
theorem Chg.trans {fp:List Nat} {a b c:World} (h:Chg fp a b) (k:Chg fp b c):Chg fp a c :=
 ⟨k.os.trans h.os,k.tape.trans h.tape,k.output.trans h.output,Nat.le_trans h.size k.size,fun i hi hn=>(k.block i (Nat.lt_of_lt_of_le hi h.size) hn).trans (h.block i hi hn)⟩
theorem Chg.mono {fp fp':List Nat} {a b:World} (h:Chg fp a b) (hs:∀ x∈fp,x∈fp'):Chg fp' a b :=
 ⟨h.os,h.tape,h.output,h.size,fun k hk hn=>h.block k hk (fun hm=>hn (hs k hm))⟩
theorem Chg.ext {a b:World} (h:Chg [] a b):Ext a b:=⟨h.os,h.tape,h.output,h.size,fun k hk=>h.block k hk (by simp)⟩
theorem Chg.refl (fp:List Nat) (w:World):Chg fp w w:=⟨rfl,rfl,rfl,Nat.le_refl _,fun _ _ _=>rfl⟩
theorem Chg.alloc (w:World) (o:Obj):Chg [] w (w.alloc o):=Chg.of_ext ((Below.refl _ _).alloc (Nat.le_refl _) o) _

theorem mF {B:Nat} {a b c:World} {fp:List Nat} (h:Below B a b) (hB:B≤b.heap.size) (k:Chg fp b c) (hf:∀ x∈fp,B≤x):Below B a c :=
  ⟨k.os.trans h.os,k.tape.trans h.tape,k.output.trans h.output,Nat.le_trans h.size k.size,
   fun i hi=>(k.block i (Nat.lt_of_lt_of_le hi hB) (fun hm=>by have:=hf i hm;omega)).trans (h.block i hi)⟩

structure Rep (α:Type) where
 sz:Nat
 rd:World→List Value→α→Prop
 own:World→List Value→α→List Nat→Prop
 rd_len:∀ {w cs x},rd w cs x→cs.length=sz
 rd_one:∀ {w cs x},rd w cs x→∀ c∈cs,c.oneCell'=true
 rd_ext:∀ {w w' cs x},rd w cs x→Ext w w'→rd w' cs x
 own_rd:∀ {w cs x fp},own w cs x fp→rd w cs x
 own_ext:∀ {w w' cs x fp},own w cs x fp→(∀ b∈fp,w'.heap[b]? = w.heap[b]?)→own w' cs x fp
 own_lt:∀ {w cs x fp},own w cs x fp→∀ b∈fp,b<w.heap.size

def bP:Rep Int where
 sz:=1
 rd _ cs n:=cs=[.int .i64 n]
 own _ cs n fp:=cs=[.int .i64 n]∧fp=[]
 rd_len h:=by subst h;rfl
 rd_one h:=by subst h;simp [Value.oneCell']
 rd_ext h _:=h
 own_rd h:=h.1
 own_ext h _:=h
 own_lt h:=by rw [h.2];simp

def qn:Rep ByteArray where
 sz:=1
 rd _ cs s:=cs=[.string s]∧s.size≤9223372036854775807
 own _ cs s fp:=(cs=[.string s]∧s.size≤9223372036854775807)∧fp=[]
 rd_len h:=by rw [h.1];rfl
 rd_one h:=by rw [h.1];simp [Value.oneCell']
 rd_ext h _:=h
 own_rd h:=h.1
 own_ext h _:=h
 own_lt h:=by rw [h.2];simp

def od {α β:Type} (R:Rep α) (S:Rep β):Rep (α × β) where
 sz:=R.sz+S.sz
 rd w cs x:=∃ c1 c2,cs=c1++c2∧R.rd w c1 x.1∧S.rd w c2 x.2
 own w cs x fp:=∃ c1 c2 f1 f2,cs=c1++c2∧fp=f1++f2∧R.own w c1 x.1 f1∧S.own w c2 x.2 f2
 rd_len h:=by obtain ⟨c1,c2,rfl,h1,h2⟩:=h;rw [List.length_append,R.rd_len h1,S.rd_len h2]
 rd_one h:=by
  obtain ⟨c1,c2,rfl,h1,h2⟩:=h
  intro c hc
  rcases List.mem_append.1 hc with h | h
  ·exact R.rd_one h1 c h
  ·exact S.rd_one h2 c h
 rd_ext h he:=by obtain ⟨c1,c2,rfl,h1,h2⟩:=h;exact ⟨c1,c2,rfl,R.rd_ext h1 he,S.rd_ext h2 he⟩
 own_rd h:=by obtain ⟨c1,c2,f1,f2,rfl,rfl,h1,h2⟩:=h;exact ⟨c1,c2,rfl,R.own_rd h1,S.own_rd h2⟩
 own_ext h he:=by
  obtain ⟨c1,c2,f1,f2,rfl,rfl,h1,h2⟩:=h
  exact ⟨c1,c2,f1,f2,rfl,rfl,R.own_ext h1 (fun b hb=>he b (List.mem_append_left _ hb)),S.own_ext h2 (fun b hb=>he b (List.mem_append_right _ hb))⟩
 own_lt h:=by
  obtain ⟨c1,c2,f1,f2,rfl,rfl,h1,h2⟩:=h
  intro b hb
  rcases List.mem_append.1 hb with h | h
  ·exact R.own_lt h1 b h
  ·exact S.own_lt h2 b h

def iN (w:World) (ao:Option Addr) (ccs:List Value):Prop :=
 ccs=[]∨∃ b off,ao=some ⟨b,off,none⟩∧∀ j c,ccs[j]? = some c→w.cell? ⟨b,off+j,none⟩=some c

section
variable {α:Type} (R:Rep α)
def rdL (w:World):List Value→List α→Prop
 | ccs,[]=>ccs=[]
 | ccs,x :: xs=>∃ ec rest,ccs=ec++rest∧R.rd w ec x∧rdL w rest xs
def dG (w:World):List Value→List α→List Nat→Prop
 | ccs,[],fp=>ccs=[]∧fp=[]
 | ccs,x :: xs,fp=>∃ ec rest f1 f2,ccs=ec++rest∧fp=f1++f2∧R.own w ec x f1∧dG w rest xs f2
variable {R}
theorem eW {w:World}:∀ {xs:List α} {ccs:List Value},rdL R w ccs xs→ccs.length=xs.length*R.sz
 | [],_,h=>by simp only [rdL] at h;subst h;simp
 | x :: xs,_,h=>by
  obtain ⟨ec,rest,rfl,h1,h2⟩:=h
  rw [List.length_append,R.rd_len h1,eW h2,List.length_cons,Nat.add_mul,Nat.one_mul,Nat.add_comm]
theorem lG {w:World}:∀ {xs:List α} {ccs:List Value},rdL R w ccs xs→∀ c∈ccs,c.oneCell'=true
 | [],_,h=>by simp only [rdL] at h;subst h;simp
 | x :: xs,_,h=>by
  obtain ⟨ec,rest,rfl,h1,h2⟩:=h
  intro c hc
  rcases List.mem_append.1 hc with h | h
  ·exact R.rd_one h1 c h
  ·exact lG h2 c h
theorem lL {w w':World} (he:Ext w w'):∀ {xs:List α} {ccs:List Value},rdL R w ccs xs→rdL R w' ccs xs
 | [],_,h=>h
 | x :: xs,_,h=>by
  obtain ⟨ec,rest,rfl,h1,h2⟩:=h
  exact ⟨ec,rest,rfl,R.rd_ext h1 he,lL he h2⟩
theorem ek {w:World}:∀ {xs:List α} {ccs:List Value} {fp:List Nat},dG R w ccs xs fp→rdL R w ccs xs
 | [],_,_,h=>h.1
 | x :: xs,_,_,h=>by
  obtain ⟨ec,rest,f1,f2,rfl,rfl,h1,h2⟩:=h
  exact ⟨ec,rest,rfl,R.own_rd h1,ek h2⟩
theorem el {w w':World}:∀ {xs:List α} {ccs:List Value} {fp:List Nat},dG R w ccs xs fp→(∀ b∈fp,w'.heap[b]? = w.heap[b]?)→dG R w' ccs xs fp
 | [],_,_,h,_=>h
 | x :: xs,_,_,h,he=>by
  obtain ⟨ec,rest,f1,f2,rfl,rfl,h1,h2⟩:=h
  exact ⟨ec,rest,f1,f2,rfl,rfl,R.own_ext h1 (fun b hb=>he b (List.mem_append_left _ hb)),el h2 (fun b hb=>he b (List.mem_append_right _ hb))⟩
theorem fv {w:World}:∀ {xs:List α} {ccs:List Value} {fp:List Nat},dG R w ccs xs fp→∀ b∈fp,b<w.heap.size
 | [],_,_,h=>by rw [h.2];simp
 | x :: xs,_,_,h=>by
  obtain ⟨ec,rest,f1,f2,rfl,rfl,h1,h2⟩:=h
  intro b hb
  rcases List.mem_append.1 hb with h | h
  ·exact R.own_lt h1 b h
  ·exact fv h2 b h
theorem gF {w:World} {ys:List α} {ccs':List Value} {fp':List Nat} (h':dG R w ccs' ys fp') :
  ∀ {xs:List α} {ccs:List Value} {fp:List Nat},dG R w ccs xs fp→dG R w (ccs++ccs') (xs++ys) (fp++fp')
 | [],_,_,h=>by obtain ⟨rfl,rfl⟩:=h;simpa using h'
 | x :: xs,_,_,h=>by
  obtain ⟨ec,rest,f1,f2,rfl,rfl,h1,h2⟩:=h
  exact ⟨ec,rest++ccs',f1,f2++fp',by simp,by simp,h1,gF h' h2⟩
theorem jI {w:World} {ys:List α} {ccs':List Value} (h':rdL R w ccs' ys) :
  ∀ {xs:List α} {ccs:List Value},rdL R w ccs xs→rdL R w (ccs++ccs') (xs++ys)
 | [],_,h=>by simp only [rdL] at h;subst h;simpa using h'
 | x :: xs,_,h=>by
  obtain ⟨ec,rest,rfl,h1,h2⟩:=h
  exact ⟨ec,rest++ccs',by simp,h1,jI h' h2⟩
theorem jB {w:World}:∀ {xs:List α} {ccs:List Value},rdL R w ccs xs→∀ (i:Nat) (h:i<xs.length),
  ∃ ec,R.rd w ec xs[i]∧∀ j c,ec[j]? = some c→ccs[i*R.sz+j]? = some c
 | [],_,_,i,h=>absurd h (by simp)
 | x :: xs,_,hr,i,h=>by
  obtain ⟨ec,rest,rfl,h1,h2⟩:=hr
  cases i with
  | zero =>
   refine ⟨ec,h1,fun j c hj=>?_⟩
   have hlt:j<ec.length:=(List.getElem?_eq_some_iff.1 hj).1
   rw [Nat.zero_mul,Nat.zero_add,List.getElem?_append_left hlt]
   exact hj
  | succ i =>
   obtain ⟨ec',h3,h4⟩:=jB h2 i (by simpa using h)
   refine ⟨ec',by simpa using h3,fun j c hj=>?_⟩
   have e:(i+1)*R.sz+j=ec.length+(i*R.sz+j):=by rw [R.rd_len h1,Nat.add_mul];omega
   rw [e,List.getElem?_append_right (by omega),Nat.add_sub_cancel_left]
   exact h4 j c hj
theorem iC {w:World}:∀ (k:Nat) {xs:List α} {ccs:List Value},rdL R w ccs xs→rdL R w (ccs.take (k*R.sz)) (xs.take k)∧rdL R w (ccs.drop (k*R.sz)) (xs.drop k)
 | 0,xs,ccs,h=>by simp [rdL];simpa using h
 | k+1,[],ccs,h=>by simp only [rdL] at h;subst h;simp [rdL]
 | k+1,x :: xs,ccs,h=>by
  obtain ⟨ec,rest,rfl,h1,h2⟩:=h
  obtain ⟨i1,i2⟩:=iC k h2
  have e:(k+1)*R.sz=ec.length+k*R.sz:=by rw [R.rd_len h1,Nat.add_mul];omega
  constructor
  ·refine ⟨ec,rest.take (k*R.sz),?_,h1,i1⟩
   rw [e,List.take_append,List.take_of_length_le (by omega),Nat.add_sub_cancel_left]
  ·rw [e,List.drop_append,List.drop_of_length_le (by omega),Nat.add_sub_cancel_left]
   simpa using i2
end

def ar {α:Type} (R:Rep α) (E:TypeId):Rep (List α) where
 sz:=1
 rd w cs xs:=∃ ao cap ccs,cs=[.slice ao xs.length cap]∧xs.length≤cap∧cap≤maxLen∧(ao=none→cap=0)∧rdL R w ccs xs∧iN w ao ccs
 own w cs xs fp:=(cs=[.slice none 0 0]∧xs=[]∧fp=[]) ∨
  ∃ g cap cur ccs f2,cs=[.slice (some ⟨g,0,none⟩) xs.length cap]∧w.heap[g]? = some (.cells cur E (0,0))∧xs.length≤cap∧cap≤maxLen∧cur.size=cap*R.sz ∧
   cur.toList.take (xs.length*R.sz)=ccs∧dG R w ccs xs f2∧fp=g :: f2
 rd_len h:=by obtain ⟨_,_,_,rfl,_⟩:=h;rfl
 rd_one h:=by obtain ⟨_,_,_,rfl,_⟩:=h;simp [Value.oneCell']
 rd_ext h he:=by
  obtain ⟨ao,cap,ccs,rfl,h1,h2,h3,h4,h5⟩:=h
  refine ⟨ao,cap,ccs,rfl,h1,h2,h3,lL he h4,?_⟩
  rcases h5 with h5 | ⟨b,off,rfl,h5⟩
  ·exact .inl h5
  ·exact .inr ⟨b,off,rfl,fun j c hj=>by have:=h5 j c hj;rw [he.cell (block_lt_of_cell this)];exact this⟩
 own_rd h:=by
  rcases h with ⟨rfl,rfl,rfl⟩ | ⟨g,cap,cur,ccs,f2,rfl,hg,h1,h2,h3,h4,h5,rfl⟩
  ·exact ⟨none,0,[],rfl,Nat.le_refl _,Nat.zero_le _,fun _=>rfl,rfl,.inl rfl⟩
  ·refine ⟨_,cap,ccs,rfl,h1,h2,by simp,ek h5,.inr ⟨g,0,rfl,fun j c hj=>?_⟩⟩
   rw [Nat.zero_add,cell_of_row _ g j cur E (0,0) hg,← Array.getElem?_toList]
   rw [← h4,List.getElem?_take] at hj
   split at hj
   ·exact hj
   ·cases hj
 own_ext h he:=by
  rcases h with h | ⟨g,cap,cur,ccs,f2,rfl,hg,h1,h2,h3,h4,h5,rfl⟩
  ·exact .inl h
  ·exact .inr ⟨g,cap,cur,ccs,f2,rfl,by rw [he g (by simp)];exact hg,h1,h2,h3,h4,el h5 (fun b hb=>he b (by simp [hb])),rfl⟩
 own_lt h:=by
  rcases h with ⟨_,_,rfl⟩ | ⟨g,cap,cur,ccs,f2,rfl,hg,h1,h2,h3,h4,h5,rfl⟩
  ·simp
  ·intro b hb
   rcases List.mem_cons.1 hb with rfl | hb
   ·exact (Array.getElem?_eq_some_iff.1 hg).1
   ·exact fv h5 b hb

structure Asn where
 holds:World→List Nat→Prop
 ext:∀ {w w' fp},holds w fp→(∀ b∈fp,w'.heap[b]? = w.heap[b]?)→holds w' fp
 lt:∀ {w fp},holds w fp→∀ b∈fp,b<w.heap.size

def Own {α:Type} (R:Rep α) (cs:List Value) (x:α):Asn:=⟨fun w fp=>R.own w cs x fp,R.own_ext,R.own_lt⟩
def Box (b:Nat) (E:TypeId) (cs:List Value):Asn where
 holds w fp:=fp=[b]∧w.heap[b]? = some (.cells cs.toArray E (0,0))
 ext h he:=by obtain ⟨rfl,h⟩:=h;exact ⟨rfl,by rw [he b (by simp)];exact h⟩
 lt h:=by obtain ⟨rfl,h⟩:=h;intro b' hb;simp at hb;subst hb;exact (Array.getElem?_eq_some_iff.1 h).1

def dI (w:World):List Asn→List Nat→Prop
 | [],fp=>fp=[]
 | A :: Γ,fp=>∃ f1 f2,fp=f1++f2∧A.holds w f1∧dI w Γ f2

structure Sat (w0 w:World) (Γ:List Asn):Prop where
 below:Below w0.heap.size w0 w
 sat:∃ fp,dI w Γ fp∧fp.Nodup∧∀ b∈fp,w0.heap.size≤b

theorem dI.ext {w w':World}:∀ {Γ:List Asn} {fp:List Nat},dI w Γ fp→(∀ b∈fp,w'.heap[b]? = w.heap[b]?)→dI w' Γ fp
 | [],_,h,_=>h
 | A :: Γ,_,h,he=>by
  obtain ⟨f1,f2,rfl,h1,h2⟩:=h
  exact ⟨f1,f2,rfl,A.ext h1 (fun b hb=>he b (List.mem_append_left _ hb)),dI.ext h2 (fun b hb=>he b (List.mem_append_right _ hb))⟩
theorem dI.lt {w:World}:∀ {Γ:List Asn} {fp:List Nat},dI w Γ fp→∀ b∈fp,b<w.heap.size
 | [],_,h=>by simp only [dI] at h;subst h;simp
 | A :: Γ,_,h=>by
  obtain ⟨f1,f2,rfl,h1,h2⟩:=h
  intro b hb
  rcases List.mem_append.1 hb with h | h
  ·exact A.lt h1 b h
  ·exact dI.lt h2 b h
theorem dI.append {w:World} {Δ:List Asn} {g:List Nat} (k:dI w Δ g):∀ {Γ:List Asn} {fp:List Nat},dI w Γ fp→dI w (Γ++Δ) (fp++g)
 | [],_,h=>by simp only [dI] at h;subst h;simpa using k
 | A :: Γ,_,h=>by
  obtain ⟨f1,f2,rfl,h1,h2⟩:=h
  exact ⟨f1,f2++g,by simp,h1,dI.append k h2⟩
theorem dI.perm {w:World} {Γ Δ:List Asn} (hp:Γ.Perm Δ):∀ {fp:List Nat},dI w Γ fp→∃ fp',fp.Perm fp'∧dI w Δ fp':=by
 induction hp with
 | nil=>intro fp h;exact ⟨fp,.refl _,h⟩
 | cons A _ ih =>
  rintro _ ⟨f1,f2,rfl,h1,h2⟩
  obtain ⟨f2',p,h2'⟩:=ih h2
  exact ⟨f1++f2',List.Perm.append_left _ p,f1,f2',rfl,h1,h2'⟩
 | swap A B Γ =>
  rintro _ ⟨f1,_,rfl,h1,f2,f3,rfl,h2,h3⟩
  refine ⟨f2++(f1++f3),?_,f2,f1++f3,rfl,h2,f1,f3,rfl,h1,h3⟩
  rw [← List.append_assoc,← List.append_assoc]
  exact List.Perm.append_right _ List.perm_append_comm
 | trans _ _ ih1 ih2 =>
  intro fp h
  obtain ⟨f1,p1,h1⟩:=ih1 h
  obtain ⟨f2,p2,h2⟩:=ih2 h1
  exact ⟨f2,p1.trans p2,h2⟩

theorem Sat.start (w:World):Sat w w []:=⟨Below.refl _ _,[],rfl,by simp,by simp⟩
theorem Sat.le {w0 w:World} {Γ:List Asn} (h:Sat w0 w Γ):w0.heap.size≤w.heap.size:=h.below.size
theorem Sat.ext {w0 w w':World} {Γ:List Asn} (h:Sat w0 w Γ) (he:Ext w w'):Sat w0 w' Γ:=by
 obtain ⟨hb,fp,h1,h2,h3⟩:=h
 exact ⟨Below.andExt hb hb.size he,fp,h1.ext (fun b hb'=>he.block b (h1.lt b hb')),h2,h3⟩
theorem Sat.call {w0 w w':World} {Γ Δ:List Asn} (h:Sat w0 w Γ) (k:Sat w w' Δ):Sat w0 w' (Δ++Γ):=by
 obtain ⟨hb,fp,h1,h2,h3⟩:=h
 obtain ⟨kb,fk,k1,k2,k3⟩:=k
 refine ⟨Below.andExt hb hb.size kb,fk++fp,dI.append (h1.ext (fun b hb'=>kb.block b (h1.lt b hb'))) k1,?_,?_⟩
 ·rw [List.nodup_append]
  exact ⟨k2,h2,fun a ha b hb' e=>by have:=k3 a ha;have:=h1.lt b hb';omega⟩
 ·intro b hb'
  rcases List.mem_append.1 hb' with h | h
  ·have:=k3 b h;have:=hb.size;omega
  ·exact h3 b h
theorem Sat.call1 {w0 w w':World} {Γ:List Asn} {A:Asn} (h:Sat w0 w Γ) (k:Sat w w' [A]):Sat w0 w' (A :: Γ):=h.call k
theorem Sat.call2 {w0 w w':World} {Γ:List Asn} {A B:Asn} (h:Sat w0 w Γ) (k:Sat w w' [A,B]):Sat w0 w' (A :: B :: Γ):=h.call k
theorem Sat.perm {w0 w:World} {Γ Δ:List Asn} (h:Sat w0 w Γ) (hp:Γ.Perm Δ):Sat w0 w Δ:=by
 obtain ⟨hb,fp,h1,h2,h3⟩:=h
 obtain ⟨fp',p,h1'⟩:=dI.perm hp h1
 exact ⟨hb,fp',h1',p.nodup_iff.1 h2,fun b hb'=>h3 b (p.mem_iff.2 hb')⟩
theorem Sat.tail {w0 w:World} {A:Asn} {Γ:List Asn} (h:Sat w0 w (A :: Γ)):Sat w0 w Γ:=by
 obtain ⟨hb,_,⟨f1,f2,rfl,_,h2⟩,hn,h3⟩:=h
 exact ⟨hb,f2,h2,(List.nodup_append.1 hn).2.1,fun b hb'=>h3 b (List.mem_append_right _ hb')⟩
theorem Sat.head {w0 w:World} {A:Asn} {Γ:List Asn} (h:Sat w0 w (A :: Γ)):∃ fp,A.holds w fp∧fp.Nodup∧∀ b∈fp,w0.heap.size≤b:=by
 obtain ⟨_,_,⟨f1,f2,rfl,h1,_⟩,hn,h3⟩:=h
 exact ⟨f1,h1,(List.nodup_append.1 hn).1,fun b hb'=>h3 b (List.mem_append_left _ hb')⟩
theorem Sat.take {w0 w:World} {Γ:List Asn} (h:Sat w0 w Γ) (Δ Θ:List Asn) (hp:Γ.Perm (Δ++Θ)):Sat w0 w Δ:=by
 have h':=h.perm (hp.trans List.perm_append_comm)
 clear h hp
 induction Θ with
 | nil=>simpa using h'
 | cons A Θ ih=>exact ih h'.tail
theorem Sat.upd {w0 w w':World} {A B:Asn} {Γ:List Asn} (h:Sat w0 w (A :: Γ))
  (k:∀ fp,A.holds w fp→fp.Nodup→∃ fp',B.holds w' fp'∧fp'.Nodup∧Chg fp w w'∧∀ b∈fp',b∈fp∨w.heap.size≤b):Sat w0 w' (B :: Γ):=by
 obtain ⟨hb,_,⟨f1,f2,rfl,h1,h2⟩,hn,h3⟩:=h
 obtain ⟨n1,n2,n3⟩:=List.nodup_append.1 hn
 obtain ⟨f1',k1,k2,k3,k4⟩:=k f1 h1 n1
 refine ⟨mF hb hb.size k3 (fun x hx=>h3 x (List.mem_append_left _ hx)),f1'++f2,⟨f1',f2,rfl,k1,h2.ext (fun b hb'=>k3.block b (h2.lt b hb') (fun hm=>n3 b hm b hb' rfl))⟩,?_,?_⟩
 ·rw [List.nodup_append]
  refine ⟨k2,n2,fun a ha b hb' e=>?_⟩
  subst e
  rcases k4 a ha with h | h
  ·exact n3 a h a hb' rfl
  ·have:=h2.lt a hb';omega
 ·intro b hb'
  rcases List.mem_append.1 hb' with h | h
  ·rcases k4 b h with h | h
   ·exact h3 b (List.mem_append_left _ h)
   ·have:=hb.size;omega
  ·exact h3 b (List.mem_append_right _ h)
theorem Sat.join {w0 w:World} {A B C:Asn} {Γ:List Asn} (h:Sat w0 w (A :: B :: Γ)) (k:∀ f g,A.holds w f→B.holds w g→C.holds w (f++g)):Sat w0 w (C :: Γ):=by
 obtain ⟨hb,_,⟨f1,_,rfl,h1,f2,f3,rfl,h2,h4⟩,hn,h3⟩:=h
 exact ⟨hb,(f1++f2)++f3,⟨f1++f2,f3,rfl,k _ _ h1 h2,h4⟩,by simpa using hn,by simpa using h3⟩
theorem Sat.conv {w0 w:World} {A B:Asn} {Γ:List Asn} (h:Sat w0 w (A :: Γ)) (k:∀ f,A.holds w f→B.holds w f):Sat w0 w (B :: Γ):=by
 obtain ⟨hb,_,⟨f1,f2,rfl,h1,h2⟩,hn,h3⟩:=h
 exact ⟨hb,_,⟨f1,f2,rfl,k _ h1,h2⟩,hn,h3⟩
theorem Sat.add {w0 w:World} {A:Asn} {Γ:List Asn} (h:Sat w0 w Γ) (k:A.holds w []):Sat w0 w (A :: Γ):=by
 obtain ⟨hb,fp,h1,h2,h3⟩:=h
 exact ⟨hb,fp,⟨[],fp,rfl,k,h1⟩,h2,h3⟩
theorem Sat.box {w0 w:World} {Γ:List Asn} (h:Sat w0 w Γ) (E:TypeId) (cs:List Value):Sat w0 (w.alloc (.cells cs.toArray E)) (Box w.heap.size E cs :: Γ):=by
 have k:Sat w (w.alloc (.cells cs.toArray E)) [Box w.heap.size E cs] :=
  ⟨(Below.refl _ _).alloc (Nat.le_refl _) _,[w.heap.size],⟨[w.heap.size],[],by simp,⟨rfl,heap_alloc_new w _⟩,rfl⟩,by simp,by simp⟩
 simpa using h.call k
theorem d8 (w:World) (o:Obj):Ext w (w.alloc o):=(Below.refl _ _).alloc (Nat.le_refl _) _
theorem Sat.rd {α:Type} {R:Rep α} {w0 w:World} {cs:List Value} {x:α} {Γ:List Asn} (h:Sat w0 w (Own R cs x :: Γ)):R.rd w cs x:=by
 obtain ⟨fp,h,_⟩:=h.head
 exact R.own_rd h

class AtBox (Γ:List Asn) (b:Nat) (E:outParam TypeId) (cs:outParam (List Value)) (rest:outParam (List Asn)):Prop where
 perm:Γ.Perm (Box b E cs :: rest)
instance (Γ:List Asn) (b:Nat) (E:TypeId) (cs:List Value):AtBox (Box b E cs :: Γ) b E cs Γ:=⟨.refl _⟩
instance (A:Asn) (Γ:List Asn) (b:Nat) (E:TypeId) (cs:List Value) (rest:List Asn) [h:AtBox Γ b E cs rest]:AtBox (A :: Γ) b E cs (A :: rest) :=
 ⟨(List.Perm.cons A h.perm).trans (.swap _ _ _)⟩
class AtOwn (Γ:List Asn) (v:Value) (α:outParam Type) (R:outParam (Rep α)) (x:outParam α) (rest:outParam (List Asn)):Prop where
 perm:Γ.Perm (Own R [v] x :: rest)
instance {α:Type} (Γ:List Asn) (v:Value) (R:Rep α) (x:α):AtOwn (Own R [v] x :: Γ) v α R x Γ:=⟨.refl _⟩
instance {α:Type} (A:Asn) (Γ:List Asn) (v:Value) (R:Rep α) (x:α) (rest:List Asn) [h:AtOwn Γ v α R x rest]:AtOwn (A :: Γ) v α R x (A :: rest) :=
 ⟨(List.Perm.cons A h.perm).trans (.swap _ _ _)⟩
theorem Sat.own {α:Type} {R:Rep α} {w0 w:World} {v:Value} {x:α} {Γ rest:List Asn} (h:Sat w0 w Γ) [k:AtOwn Γ v α R x rest]:Sat w0 w (Own R [v] x :: rest):=h.perm k.perm
theorem Sat.read {α:Type} {R:Rep α} {w0 w:World} {v:Value} {x:α} {Γ rest:List Asn} (h:Sat w0 w Γ) [AtOwn Γ v α R x rest]:R.rd w [v] x:=h.own.rd

theorem Sat.keep {w0 w:World} {Γ:List Asn} (n:Nat) (h:Sat w0 w Γ):Sat w0 w (Γ.take n):=h.take (Γ.take n) (Γ.drop n) (by rw [List.take_append_drop])
class PlainT (P:Program) (t:TypeId):Prop where
 h:∃ d,P.underlying t=some d∧(match d with | .struct _ | .array _ _=>False | _=>True)
class AggT (P:Program) (t:TypeId) (n:outParam Nat):Prop where
 h:∃ d,P.underlying t=some d∧(match d with | .struct _ | .array _ _=>True | _=>False)
 size:(P.info? t).map (·.size)=some n
class SliceT (P:Program) (t:TypeId) (e:outParam TypeId):Prop where
 h:P.underlying t=some (.slice e)
class ElemT (P:Program) (t:TypeId) (z:outParam (List Value)) (n bytes:outParam Nat):Prop where
 h:(P.info? t).map (fun i=>(i.zero.map fun v=>v.cells.toList,i.size,i.bytes))=some (some z,n,bytes)

section laws
variable {P:Program} {ops:Array Oper} {rest:List Oper} {o:Oper} {a:Act} {Q:Exit→Act→World→Prop} {w w0:World} {Γ rΓ:List Asn}

theorem oi (hg:o.guard=none) {t:TypeId} {x:Operand} (ho:o.op=.box t x) (cs:List Value) (hx:(a.eval x).cells=cs.toArray) (hS:Sat w0 w Γ)
  (hK:∀ w' b,Sat w0 w' (Box b t cs :: Γ)→Ext w w'→wpList P ops Q rest (a.put o.dst (.pointer (some ⟨b,0,none⟩))) w'):wpList P ops Q (o :: rest) a w:=by
 refine wpList_plain hg fun K hK'=>?_
 unfold Oper.wp execOp
 simp only [ho,Instr.box,newVar,newRow,hx,Sem.run_bind,Sem.run_pure,run_newObj,Result.andThen_ok,Oper.upon_value]
 exact hK' _ _ (hK _ _ (hS.box t cs) (d8 _ _))

theorem nb (hg:o.guard=none) {t:TypeId} (ho:o.op=.alloc t) {cs:List Value} {n bytes:Nat} [hz:ElemT P t cs n bytes] (hS:Sat w0 w Γ)
  (hK:∀ w' b,Sat w0 w' (Box b t cs :: Γ)→Ext w w'→wpList P ops Q rest (a.put o.dst (.pointer (some ⟨b,0,none⟩))) w'):wpList P ops Q (o :: rest) a w:=by
 refine wpList_plain hg fun K hK'=>?_
 have hz:=hz.h
 cases hi:P.info? t with
 | none=>simp [hi] at hz
 | some i =>
  cases hzz:i.zero with
  | none=>simp [hi,hzz] at hz
  | some z =>
   simp [hi,hzz] at hz
   have hzc:z.cells=cs.toArray:=by rw [← hz.1]
   unfold Oper.wp execOp
   simp only [ho,Instr.alloc,zeroValue,typeInfo,hi,hzz,newVar,newRow,hzc,Sem.run_bind,Sem.run_pure,run_newObj,run_program,Result.andThen_ok,Oper.upon_value]
   exact hK' _ _ (hK _ _ (hS.box t cs) (d8 _ _))

theorem iY {t:TypeId} [hT:PlainT P t] {ad:Addr} {c:Value} (hc:w.cell? ad=some c):(loadVar t ad).run P w=.ok c w:=by
 obtain ⟨d,hd,hk⟩:=hT.h
 have hagg:(isAgg t).run P w=.ok false w:=by
  unfold isAgg
  rw [Sem.run_bind,run_underlying hd w]
  cases d <;> simp_all
 simp [loadVar,Sem.run_bind,hagg,hc]

theorem d3 {t:TypeId} {n:Nat} [hT:AggT P t n] {b off:Nat} {cs:List Value} (hn:cs.length=n) (hc:∀ j c,cs[j]? = some c→w.cell? ⟨b,off+j,none⟩=some c) :
  (loadVar t ⟨b,off,none⟩).run P w=.ok (.agg cs.toArray) w:=by
 obtain ⟨d,hd,hk⟩:=hT.h
 have hagg:(isAgg t).run P w=.ok true w:=by
  unfold isAgg
  rw [Sem.run_bind,run_underlying hd w]
  cases d <;> simp_all
 have hs:=hT.size
 cases hi:P.info? t with
 | none=>simp [hi] at hs
 | some i =>
  simp [hi] at hs
  have hl:=run_loadCells_list (P:=P) w ⟨b,off,none⟩ cs (fun j c hj=>by rw [Addr.add_lit];exact hc j c hj)
  rw [hn,← hs] at hl
  simp [loadVar,Sem.run_bind,hagg,sizeOf,typeInfo,hi,hl]

theorem Sat.boxCell {b:Nat} {E:TypeId} {cs:List Value} (hS:Sat w0 w Γ) [k:AtBox Γ b E cs rΓ]:∀ j c,cs[j]? = some c→w.cell? ⟨b,j,none⟩=some c:=by
 obtain ⟨fp,⟨_,hh⟩,_⟩:=(hS.perm k.perm).head
 intro j c hj
 rw [cell_of_row w b j _ E (0,0) hh]
 simpa using hj

theorem d6 {b:Nat} {E:TypeId}:∀ (vs:List Value) (off i:Nat) (cur:List Value) (w:World),w.heap[b]? = some (.cells cur.toArray E (0,0))→off+i+vs.length≤cur.length→(∀ v∈vs,v.oneCell'=true) →
  ∃ w',(storeCells ⟨b,off,none⟩ vs i).run P w=.ok () w'∧w'.heap[b]? = some (.cells (cur.take (off+i)++vs++cur.drop (off+i+vs.length)).toArray E (0,0))∧Chg [b] w w'
 | [],off,i,cur,w,hb,_,_=>by
  refine ⟨w,rfl,?_,Chg.refl _ _⟩
  rw [hb];simp
 | v :: vs,off,i,cur,w,hb,hl,h1=>by
  simp only [List.length_cons] at hl
  have hi:off+i<cur.length:=by omega
  have hcell:w.cell? ⟨b,off+i,none⟩=some cur[off+i]:=by rw [cell_of_row w b _ _ E (0,0) hb];simp [hi]
  have hfro:w.frozen? ⟨b,off+i,none⟩=false:=frozen_of_row w b _ _ E hb
  have hst:(store ((⟨b,off,none⟩:Addr).add i) v).run P w=.ok () (w.setCell ⟨b,off+i,none⟩ v):=by
   rw [Addr.add_lit,run_store P w _ v _ (h1 v (by simp)),hcell]
   simp [hfro]
  have hb':(w.setCell ⟨b,off+i,none⟩ v).heap[b]? = some (.cells ((cur.set (off+i) v).toArray) E (0,0)):=by
   rw [heap_setCell_same w b (off+i) _ E v hb];simp
  obtain ⟨w',h2,h3,h4⟩:=d6 vs off (i+1) (cur.set (off+i) v) _ hb' (by simp;omega) (fun x hx=>h1 x (by simp [hx]))
  refine ⟨w',?_,?_,?_⟩
  ·simp only [storeCells,Sem.run_bind,hst,Result.andThen_ok];exact h2
  ·rw [h3]
   congr 3
   have e1:(cur.set (off+i) v).take (off+(i+1))=cur.take (off+i)++[v]:=by
    rw [show off+(i+1)=(off+i)+1 by omega,List.take_set,List.take_succ_eq_append_getElem hi,List.set_append_right _ _ (by simp;omega)]
    simp [show min (off+i) cur.length=off+i by omega]
   have e2:(cur.set (off+i) v).drop (off+(i+1)+vs.length)=cur.drop (off+i+(v :: vs).length):=by
    rw [List.drop_set_of_lt (by omega)]
    congr 1
    simp only [List.length_cons];omega
   rw [e1,e2];simp
  ·exact Chg.trans (show Chg [b] w (w.setCell ⟨b,off+i,none⟩ v) from ⟨rfl,rfl,rfl,by simp,fun k _ hk=>Below.heap_setCell _ _ _ _ (by simpa using hk)⟩) h4

theorem mm {t:TypeId} {x y:Operand} (hg:o.guard=none) (ho:o.op=.store t x y) {z:List Value} {n bytes:Nat} [hz:ElemT P t z n bytes] (hS:Sat w0 w Γ) {b j:Nat} (hx:a.eval x=.pointer (some ⟨b,j,none⟩))
  {E:TypeId} {cs:List Value} [k:AtBox Γ b E cs rΓ] (vs:List Value) (hy:(a.eval y).cells=vs.toArray) (hn:vs.length=n) (hl:j+n≤cs.length) (h1:vs.all (·.oneCell')=true)
  (hK:∀ w',Sat w0 w' (Box b E (cs.take j++vs++cs.drop (j+n)) :: rΓ)→wpList P ops Q rest (a.put o.dst undef) w'):wpList P ops Q (o :: rest) a w:=by
 refine wpList_plain hg fun K hK'=>?_
 have hz:=hz.h
 cases hi:P.info? t with
 | none=>simp [hi] at hz
 | some i =>
  simp [hi] at hz
  obtain ⟨fp,⟨_,hh⟩,_⟩:=(hS.perm k.perm).head
  obtain ⟨w',hr,hh',hc⟩:=d6 (P:=P) vs j 0 cs w hh (by omega) (by simpa using h1)
  have hsz:¬ (vs.toArray.size≠i.size):=by simp;omega
  unfold Oper.wp execOp
  simp only [ho,hx,Instr.storeAt,Instr.sureAddr,storeVar,sizeOf,typeInfo,hi,hy,Sem.run_bind,Sem.run_pure,run_program,Result.andThen_ok,hsz,if_false,Sem.run_ite,List.toList_toArray,hr,Oper.upon_skip]
  refine hK' _ _ (hK w' ?_)
  refine Sat.upd (hS.perm k.perm) fun fp hfp hnd=>?_
  obtain ⟨rfl,_⟩:=hfp
  refine ⟨[b],⟨rfl,?_⟩,by simp,hc,fun x hx=>.inl hx⟩
  rw [hh']
  simp [hn]
theorem nn {v:Value} (h:v.oneCell'=true):v.cells=[v].toArray:=by cases v <;> first | rfl | simp [Value.oneCell'] at h
end laws

section laws2
variable {P:Program} {ops:Array Oper} {rest:List Oper} {o:Oper} {a:Act} {Q:Exit→Act→World→Prop} {w w0 wA:World} {Γ rΓ:List Asn} {α:Type} {R:Rep α} {E:TypeId}

theorem ll {w:World} {v:Value} {xs:List α} (h:(ar R E).rd w [v] xs):∃ ao cap,v=.slice ao xs.length cap:=by
 obtain ⟨ao,cap,ccs,hv,_⟩:=h
 exact ⟨ao,cap,by simpa using hv⟩

def j7 (R:Rep α) (ccs:List Value) (ys:List α):Asn:=⟨fun w fp=>dG R w ccs ys fp,fun h he=>el h he,fun h=>fv h⟩
def nO (A B:Asn):Asn where
 holds w fp:=∃ f g,fp=f++g∧A.holds w f∧B.holds w g
 ext h he:=by
  obtain ⟨f,g,rfl,h1,h2⟩:=h
  exact ⟨f,g,rfl,A.ext h1 (fun b hb=>he b (List.mem_append_left _ hb)),B.ext h2 (fun b hb=>he b (List.mem_append_right _ hb))⟩
 lt h:=by
  obtain ⟨f,g,rfl,h1,h2⟩:=h
  intro b hb
  rcases List.mem_append.1 hb with h | h
  ·exact A.lt h1 b h
  ·exact B.lt h2 b h

theorem gS (z:Value) (k:Nat):(Builtin.zeroCells z.cells k).size=k*z.cells.size:=size_zeroCells _ _

theorem lF {w:World} {cur:Array Value} {xs:List α} {ccs:List Value} {f:List Nat} {cap:Nat} (h:dG R w ccs xs f) (hcap:xs.length≤cap) (hm:cap≤maxLen) (hs:cur.size=cap*R.sz)
  (ht:cur.toList.take ccs.length=ccs):(ar R E).own (w.drew.alloc (.cells cur E)) [.slice (some ⟨w.heap.size,0,none⟩) xs.length cap] xs (w.heap.size :: f):=by
 refine .inr ⟨w.heap.size,cap,cur,ccs,f,rfl,heap_alloc_new w.drew _,hcap,hm,hs,by rw [← eW (ek h)];exact ht,el h (fun b hb=>?_),rfl⟩
 exact Below.heap_alloc w.drew _ b (fv h b hb)

theorem hU {t ty:TypeId} [ht:SliceT P t E] {z:List Value} {n bytes:Nat} [hz:ElemT P E z n bytes] (hn:R.sz=n) (hpos:0<n) (hzl:z.length=n) (hb0:0<bytes)
  {v:Value} {xs:List α} {f:List Nat} (hv:(ar R E).own w [v] xs f) {ccs:List Value} {ys:List α} {fy:List Nat} (hy:dG R w ccs ys fy) (hnd:(fy++f).Nodup)
  {ao:Option Addr} {c:Nat} (hnone:ao=none→c=0) (hrow:iN w ao ccs) (hby:(xs.length+ys.length)*bytes≤140737488355328) :
  ∃ v' w' f',(Builtin.append_ #[t,t] ty #[v,.slice ao ys.length c]).run P w=.ok v' w'∧(ar R E).own w' [v'] (xs++ys) f'∧f'.Nodup∧Chg (fy++f) w w'∧∀ b∈f',b∈fy++f∨w.heap.size≤b:=by
 have hz:=hz.h
 have hmax:xs.length+ys.length≤140737488355328:=Nat.le_trans (Nat.le_mul_of_pos_right _ hb0) hby
 have hyl:ccs.length=ys.length*R.sz:=eW (ek hy)
 have hy1:∀ u∈ccs,u.oneCell'=true:=lG (ek hy)
 cases hi:P.info? E with
 | none=>simp [hi] at hz
 | some i =>
 cases hzz:i.zero with
 | none=>simp [hi,hzz] at hz
 | some zv =>
 simp [hi,hzz] at hz
 obtain ⟨hz1,hz2,hz3⟩:=hz
 have hzs:zv.cells.size=R.sz:=by rw [← Array.length_toList,hz1,hzl,hn]
 have hsz:i.size=R.sz:=by omega
 have hdrew:Chg (fy++f) w w.drew:=⟨rfl,rfl,rfl,Nat.le_refl _,fun _ _ _=>rfl⟩
 have hgrow:∀ cur:Array Value,Chg (fy++f) w (w.drew.alloc (.cells cur E)):=fun cur=>hdrew.trans ((Chg.alloc w.drew _).mono (by simp))
 have hlt:∀ b∈fy++f,b<w.heap.size:=fun b hb=>by
  rcases List.mem_append.1 hb with h | h
  ·exact fv hy b h
  ·exact (ar R E).own_lt hv b h
 obtain ⟨nd1,nd2,nd3⟩:=List.nodup_append.1 hnd
 -- nothing is appended
 by_cases hy0:ys=[]
 ·subst hy0
  have hccs:ccs=[]:=by simp only [dG] at hy;exact hy.1
  have hfy:fy=[]:=by simp only [dG] at hy;exact hy.2
  subst hccs;subst hfy
  refine ⟨v,w,f,?_,by simpa using hv,by simpa using hnd,Chg.refl _ _,fun b hb=>.inl (by simpa using hb)⟩
  rcases hv with ⟨hv,rfl,rfl⟩ | ⟨g,cap,cur,cs,f2,hv,hg,h1,h2,h3,h4,h5,rfl⟩
  ·obtain rfl:v=.slice none 0 0:=by simpa using hv
   cases ao <;> simp [Builtin.append_,run_underlying ht.h,sizeOf,typeInfo,hi,Builtin.lenOf,Builtin.firstCells,loadCells,loadCellsFrom]
  ·obtain rfl:v=.slice (some ⟨g,0,none⟩) xs.length cap:=by simpa using hv
   cases ao <;> simp [Builtin.append_,run_underlying ht.h,sizeOf,typeInfo,hi,Builtin.lenOf,Builtin.firstCells,loadCells,loadCellsFrom,h1,storeCells]
 have hyp:0<ys.length:=List.length_pos_iff.2 hy0
 obtain ⟨b,off,rfl,hcell⟩:∃ b off,ao=some ⟨b,off,none⟩∧∀ j c,ccs[j]? = some c→w.cell? ⟨b,off+j,none⟩=some c:=by
  rcases hrow with rfl | h
  ·exfalso
   have:0<ys.length*R.sz:=Nat.mul_pos hyp (by omega)
   simp at hyl;omega
  ·exact h
 have hnews:∀ j u,ccs[j]? = some u→w.cell? ((⟨b,off,none⟩:Addr).add j)=some u:=fun j u hj=>by rw [Addr.add_lit];exact hcell j u hj
 rcases hv with ⟨hv,rfl,rfl⟩ | ⟨g,cap,cur,cs,f2,hv,hg,h1,h2,h3,h4,h5,rfl⟩
 ·obtain rfl:v=.slice none 0 0:=by simpa using hv
  simp only [List.length_nil,Nat.zero_add] at hby hmax
  have hr:=run_append_nil (P:=P) w t ty E i zv ht.h hi hzz ⟨b,off,none⟩ ys.length c ccs (by rw [hyl,hsz]) hnews hyp (by omega) (by rw [hz3];omega)
  refine ⟨_,_,w.heap.size :: fy,hr,?_,?_,hgrow _,?_⟩
  ·have hge:=grownCap_ge w ys.length 0 E
   rw [List.nil_append]
   refine lF hy hge (grownCap_le_maxLen w ys.length 0 E (by unfold maxLen;omega)) ?_ ?_
   ·rw [Array.size_append,gS,hzs,List.size_toArray,hyl,← Nat.add_mul]
    congr 1;omega
   ·rw [Array.toList_append,List.toList_toArray,List.take_left']
    rfl
  ·refine List.nodup_cons.2 ⟨fun hm=>?_,nd1⟩
   have:=hlt _ (List.mem_append_left _ hm);omega
  ·intro x hx
   rcases List.mem_cons.1 hx with rfl | hx
   ·exact .inr (Nat.le_refl _)
   ·exact .inl (List.mem_append_left _ hx)
 ·obtain rfl:v=.slice (some ⟨g,0,none⟩) xs.length cap:=by simpa using hv
  have hcl:cs.length=xs.length*R.sz:=eW (ek h5)
  have hfit:xs.length*R.sz≤cur.size:=by rw [h3];exact Nat.mul_le_mul_right _ h1
  obtain ⟨ng,nf2⟩:=List.nodup_cons.1 nd2
  by_cases hroom:xs.length+ys.length≤cap
  ·have hfit2:xs.length*i.size+ccs.length≤cur.size:=by rw [hsz,hyl,h3,← Nat.add_mul];exact Nat.mul_le_mul_right _ hroom
   have hr:=run_append_room (P:=P) w t ty E i ht.h hi g xs.length cap cur hg ⟨b,off,none⟩ ys.length c ccs (by rw [hyl,hsz]) hnews hy1 hroom hfit2
   have hoth:∀ k,k≠g→(w.setRow g (cur.toList.take (xs.length*i.size)++ccs++cur.toList.drop (xs.length*i.size+ccs.length)).toArray).heap[k]? = w.heap[k]?:=fun k hk=>setRow_other w g k _ hk
   refine ⟨_,_,g :: (f2++fy),hr,?_,?_,⟨rfl,rfl,rfl,by simp,fun k _ hk=>hoth k (fun e=>hk (by simp [e]))⟩,?_⟩
   ·rw [show xs.length+ys.length=(xs++ys).length by simp]
    refine .inr ⟨g,cap,_,cs++ccs,f2++fy,rfl,setRow_heap w g cur _ E _ hg,by simpa using hroom,h2,?_,?_,?_,rfl⟩
    ·simp only [List.size_toArray,List.length_append,List.length_take,List.length_drop,Array.length_toList]
     rw [hsz] at hfit2 ⊢
     omega
    ·rw [hsz,h4,List.length_append,Nat.add_mul,← hcl,← hyl,← List.length_append]
     exact List.take_left' rfl
    ·refine gF (el hy fun x hx=>hoth x fun e=>?_) (el h5 fun x hx=>hoth x fun e=>?_)
     ·subst e;exact nd3 x hx x (by simp) rfl
     ·subst e;exact ng hx
   ·refine List.nodup_cons.2 ⟨fun hm=>?_,List.nodup_append.2 ⟨nf2,nd1,fun a ha b hb e=>nd3 b hb a (by simp [ha]) e.symm⟩⟩
    rcases List.mem_append.1 hm with h | h
    ·exact ng h
    ·exact nd3 g h g (by simp) rfl
   ·intro x hx
    refine .inl ?_
    simp only [List.mem_cons,List.mem_append] at hx ⊢
    rcases hx with h | h | h <;> simp [h]
  ·have hcells:∀ j u,cs[j]? = some u→w.cell? ((⟨g,0,none⟩:Addr).add j)=some u:=fun j u hj=>by
    rw [Addr.add_lit,Nat.zero_add,cell_of_row w g j cur E (0,0) hg,← Array.getElem?_toList]
    rw [← h4,List.getElem?_take] at hj
    split at hj
    ·exact hj
    ·cases hj
   have hr:=run_append_grow (P:=P) w t ty E i zv ht.h hi hzz ⟨g,0,none⟩ xs.length cap cs (by rw [hcl,hsz]) hcells ⟨b,off,none⟩ ys.length c ccs (by rw [hyl,hsz]) hnews (by omega) (by omega) (growslice_fits (by omega) (by rw [hz3];exact hby))
   refine ⟨_,_,w.heap.size :: (f2++fy),hr,?_,?_,hgrow _,?_⟩
   ·have hge:=grownCap_ge w (xs.length+ys.length) cap E
    rw [show (xs.length+ys.length:Nat)=(xs++ys).length by simp] at hge ⊢
    refine lF (gF hy h5) hge (grownCap_le_maxLen w _ cap E (by unfold maxLen;simp;omega)) ?_ ?_
    ·rw [Array.size_append,Array.size_append,gS,hzs,List.size_toArray,List.size_toArray,hyl,hcl,← Nat.add_mul,← Nat.add_mul]
     congr 1;simp at hge ⊢;omega
    ·rw [Array.toList_append,Array.toList_append,List.toList_toArray,List.toList_toArray,List.take_left']
     rfl
   ·refine List.nodup_cons.2 ⟨fun hm=>?_,List.nodup_append.2 ⟨nf2,nd1,fun a ha b hb e=>nd3 b hb a (by simp [ha]) e.symm⟩⟩
    have:=hlt w.heap.size (by
     rcases List.mem_append.1 hm with h | h
     ·exact List.mem_append_right _ (by simp [h])
     ·exact List.mem_append_left _ h)
    omega
   ·intro x hx
    simp only [List.mem_cons,List.mem_append] at hx ⊢
    rcases hx with h | h | h
    ·exact .inr (by omega)
    ·exact .inl (by simp [h])
    ·exact .inl (by simp [h])

theorem mr (hg:o.guard=none) {t:TypeId} {s x:Operand} (ho:o.op=.call { callee:=.builtin .append,args:=#[s,x],argTypes:=#[t,t] })
  [SliceT P t E] {z:List Value} {n bytes:Nat} [ElemT P E z n bytes] (hn:R.sz=n) (hpos:0<n) (hzl:z.length=n) (hb0:0<bytes)
  {v:Value} {xs:List α} {ccs:List Value} {ys:List α} (hS:Sat w0 w (j7 R ccs ys :: Own (ar R E) [v] xs :: Γ)) (hs:a.eval s=v)
  {ao:Option Addr} {m c:Nat} (hx:a.eval x=.slice ao m c) (hm:m=ys.length) (hnone:ao=none→c=0) (hrow:iN w ao ccs) (hby:(xs.length+ys.length)*bytes≤140737488355328)
  (hK:∀ v' w',Sat w0 w' (Own (ar R E) [v'] (xs++ys) :: Γ)→wpList P ops Q rest (a.put o.dst v') w'):wpList P ops Q (o :: rest) a w:=by
 subst hm
 refine wpList_plain hg fun K hK'=>?_
 have hS':Sat w0 w (nO (j7 R ccs ys) (Own (ar R E) [v] xs) :: Γ):=hS.join fun f g h1 h2=>⟨f,g,rfl,h1,h2⟩
 obtain ⟨fp,⟨fy,f,rfl,hy,hv⟩,hnd,_⟩:=hS'.head
 obtain ⟨v',w',f',hr,k1,k2,k3,k4⟩:=hU (P:=P) (t:=t) (ty:=o.type) hn hpos hzl hb0 hv hy hnd hnone hrow hby
 unfold Oper.wp execOp
 simp only [ho,resolve,invoke,builtin,Sem.run_bind,Sem.run_pure,Result.andThen_ok,List.map_toArray,List.map_cons,List.map_nil,hs,hx,hr,Oper.upon_value]
 refine hK' _ _ (hK v' w' ?_)
 have hex:∀ fp,(nO (j7 R ccs ys) (Own (ar R E) [v] xs)).holds w fp→fp.Nodup→∃ fp',(Own (ar R E) [v'] (xs++ys)).holds w' fp'∧fp'.Nodup∧Chg fp w w'∧∀ b∈fp',b∈fp∨w.heap.size≤b:=by
  rintro _ ⟨gy,g,rfl,hy2,hv2⟩ hnd2
  obtain ⟨v2,w2,f2,hr2,l1,l2,l3,l4⟩:=hU (P:=P) (t:=t) (ty:=o.type) hn hpos hzl hb0 hv2 hy2 hnd2 hnone hrow hby
  rw [hr] at hr2
  obtain ⟨rfl,rfl⟩:v'=v2∧w'=w2:=by simpa using hr2
  exact ⟨f2,l1,l2,l3,l4⟩
 exact hS'.upd hex

theorem hY (z:Array Value) (h:0<z.size):∀ k,(madeCells z (k*z.size)).toList=(List.replicate k z.toList).flatten
 | 0=>by simp [madeCells]
 | k+1=>by
  have ih:=hY z h k
  rw [List.replicate_succ',List.flatten_append,← ih]
  unfold madeCells
  rw [Nat.add_mul,Nat.one_mul]
  simp only [Array.toList_map,Array.toList_range,List.range_add,List.map_append,List.map_map,List.flatten_cons,List.flatten_nil,List.append_nil]
  congr 1
  apply List.ext_getElem
  ·simp
  ·intro j h1 h2
   have hj:j<z.size:=by simpa using h1
   simp only [List.getElem_map,List.getElem_range,Function.comp]
   rw [Nat.mul_add_mod_self_right,Nat.mod_eq_of_lt hj]
   simp [hj]
theorem nX (hg:o.guard=none) {t:TypeId} {l c:Operand} (ho:o.op=.makeSlice t l c) [ht:SliceT P t E] {z:List Value} {n bytes:Nat} [hz:ElemT P E z n bytes] (hn:R.sz=n) (hpos:0<n) (hzl:z.length=n)
  {x0:α} (hx0:∀ w,R.own w z x0 []) {L C:Int} (hl:a.eval l=.int .i64 L) (hc:a.eval c=.int .i64 C) (k:Nat) (hL:L=(k:Int)) (hC:C=(k:Int)) (hby:k*bytes≤281474976710656) (hk:k≤140737488355328) (hS:Sat w0 w Γ)
  (hK:∀ w' g,Sat w0 w' (Own (ar R E) [.slice (some ⟨g,0,none⟩) k k] (List.replicate k x0) :: Γ)→Ext w w'→wpList P ops Q rest (a.put o.dst (.slice (some ⟨g,0,none⟩) k k)) w'):wpList P ops Q (o :: rest) a w:=by
 refine wpList_plain hg fun K hK'=>?_
 have hz:=hz.h
 cases hi:P.info? E with
 | none=>simp [hi] at hz
 | some i =>
 cases hzz:i.zero with
 | none=>simp [hi,hzz] at hz
 | some zv =>
 simp [hi,hzz] at hz
 obtain ⟨hz1,hz2,hz3⟩:=hz
 subst hL;subst hC
 have hr:=run_make (P:=P) w t E i zv ht.h hi hzz .i64 .i64 k k (by omega) (by omega) (by rw [hz3];have:=hby;rw [Nat.mul_comm] at this;omega) (by omega)
 simp only [Int.toNat_natCast] at hr
 unfold Oper.wp execOp
 simp only [ho,hl,hc,Sem.run_bind,hr,Sem.run_pure,Result.andThen_ok,Oper.upon_value]
 have hzs:zv.cells.size=n:=by rw [← Array.length_toList,hz1,hzl]
 have hcur:(madeCells zv.cells (k*i.size)).toList=(List.replicate k z).flatten:=by
  rw [← hz1,hz2,← hzs]
  exact hY _ (by omega) k
 refine hK' _ _ (hK _ _ ?_ (d8 _ _))
 have hown:∀ k',dG R (w.alloc (.cells (madeCells zv.cells (k*i.size)) E)) (List.replicate k' z).flatten (List.replicate k' x0) []:=by
  intro k'
  induction k' with
  | zero=>exact ⟨rfl,rfl⟩
  | succ k' ih=>exact ⟨z,_,[],[],by simp [List.replicate_succ],rfl,hx0 _,ih⟩
 have kk:Sat w (w.alloc (.cells (madeCells zv.cells (k*i.size)) E)) [Own (ar R E) [.slice (some ⟨w.heap.size,0,none⟩) k k] (List.replicate k x0)]:=by
  refine ⟨d8 _ _,[w.heap.size],⟨[w.heap.size],[],rfl,.inr ⟨w.heap.size,k,_,_,[],by simp,heap_alloc_new w _,by simp,by unfold maxLen;omega,?_,rfl,?_,rfl⟩,rfl⟩,by simp,by simp⟩
  ·rw [← Array.length_toList,hcur];simp [hzl,hn]
  ·rw [hcur,List.take_of_length_le (by simp [hzl,hn])]
   exact hown k
 simpa using hS.call kk

theorem mL {v:Value} {xs:List α} {fp:List Nat} (h:(ar R E).own w [v] xs fp):(v=.slice none 0 0∧xs=[])∨∃ g cap,v=.slice (some ⟨g,0,none⟩) xs.length cap:=by
 rcases h with ⟨h,h2,_⟩ | ⟨g,cap,_,_,_,h,_⟩
 ·exact .inl ⟨by simpa using h,h2⟩
 ·exact .inr ⟨g,cap,by simpa using h⟩
theorem Sat.shape {v:Value} {xs:List α} (h:Sat w0 w (Own (ar R E) [v] xs :: Γ)):(v=.slice none 0 0∧xs=[])∨∃ g cap,v=.slice (some ⟨g,0,none⟩) xs.length cap:=by
 obtain ⟨fp,h,_⟩:=h.head
 exact mL h

theorem ld {w:World}:∀ {xs:List α} {ccs:List Value} {fp:List Nat},dG R w ccs xs fp→∀ (k:Nat) (_:k<xs.length) {ec:List Value} {y:α} {fy:List Nat},R.own w ec y fy →
  ∃ fl fk fr,fp=fl++fk++fr∧dG R w (ccs.take (k*R.sz)++ec++ccs.drop (k*R.sz+R.sz)) (xs.set k y) (fl++fy++fr)
 | [],_,_,_,k,hk,_,_,_,_=>absurd hk (by simp)
 | x :: xs,_,_,h,0,_,ec,y,fy,hy=>by
  obtain ⟨e0,rest,f1,f2,rfl,rfl,h1,h2⟩:=h
  refine ⟨[],f1,f2,by simp,ec,rest,fy,f2,?_,by simp,hy,h2⟩
  have:=R.rd_len (R.own_rd h1)
  simp [← this]
 | x :: xs,_,_,h,k+1,hk,ec,y,fy,hy=>by
  obtain ⟨e0,rest,f1,f2,rfl,rfl,h1,h2⟩:=h
  obtain ⟨fl,fk,fr,rfl,h3⟩:=ld h2 k (by simpa using hk) hy
  refine ⟨f1++fl,fk,fr,by simp,e0,_,f1,fl++fy++fr,?_,by simp,h1,h3⟩
  have hl:=R.rd_len (R.own_rd h1)
  have e:(k+1)*R.sz=e0.length+k*R.sz:=by rw [hl,Nat.add_mul];omega
  rw [e,List.take_append,List.take_of_length_le (by omega),Nat.add_sub_cancel_left,show e0.length+k*R.sz+R.sz=e0.length+(k*R.sz+R.sz) by omega,List.drop_append,List.drop_of_length_le (by omega),Nat.add_sub_cancel_left]
  simp

theorem lp (L ec:List Value) (p s N:Nat) (h1:p+s≤N) (h2:N≤L.length) (h3:ec.length=s):(L.take (p+0)++ec++L.drop (p+0+s)).take N=(L.take N).take p++ec++(L.take N).drop (p+s):=by
 rw [Nat.add_zero,List.take_append,List.take_of_length_le (by simp;omega),List.take_take,Nat.min_eq_left (by omega:p≤N),List.drop_take]
 congr 2
 simp;omega
theorem mn {t:TypeId} {x y:Operand} (hg:o.guard=none) (ho:o.op=.store t x y) {z:List Value} {n bytes:Nat} [hz:ElemT P t z n bytes] (hn:R.sz=n) {ec:List Value} {yv:α} {xs:List α} {g m cap:Nat}
  (hS:Sat w0 w (Own R ec yv :: Own (ar R E) [.slice (some ⟨g,0,none⟩) m cap] xs :: Γ)) (k off:Nat) (hk:k<xs.length) (hoff:off=k*n) (hx:a.eval x=.pointer (some ⟨g,off,none⟩)) (hy:(a.eval y).cells=ec.toArray)
  (hK:∀ w',Sat w0 w' (Own (ar R E) [.slice (some ⟨g,0,none⟩) m cap] (xs.set k yv) :: Γ)→wpList P ops Q rest (a.put o.dst undef) w'):wpList P ops Q (o :: rest) a w:=by
 refine wpList_plain hg fun K hK'=>?_
 have hz:=hz.h
 cases hi:P.info? t with
 | none=>simp [hi] at hz
 | some i =>
  simp [hi] at hz
  have hS':Sat w0 w (nO (Own R ec yv) (Own (ar R E) [.slice (some ⟨g,0,none⟩) m cap] xs) :: Γ):=hS.join fun f g h1 h2=>⟨f,g,rfl,h1,h2⟩
  obtain ⟨fp,⟨fy,f,rfl,hyo,hv⟩,hnd,_⟩:=hS'.head
  have hel:ec.length=R.sz:=R.rd_len (R.own_rd hyo)
  obtain ⟨cur,hh,hcs⟩:∃ cur,w.heap[g]? = some (.cells cur E (0,0))∧xs.length*R.sz≤cur.size:=by
   rcases hv with ⟨h,_⟩ | ⟨g',cap',cur,ccs,f2,h,hg',h1,h2,h3,_⟩
   ·simp at h
   ·simp at h
    obtain ⟨rfl,_⟩:=h
    exact ⟨cur,hg',by rw [h3];exact Nat.mul_le_mul_right _ h1⟩
  have hkk:k*R.sz+R.sz≤xs.length*R.sz:=by have:=Nat.mul_le_mul_right R.sz hk;rw [Nat.succ_mul] at this;exact this
  have hh':w.heap[g]? = some (.cells cur.toList.toArray E (0,0)):=by simpa using hh
  obtain ⟨w',hr,hnew,hc⟩:=d6 (P:=P) ec off 0 cur.toList w hh' (by rw [hoff,hel,← hn];simp;omega) (R.rd_one (R.own_rd hyo))
  have hsz:¬ (ec.toArray.size≠i.size):=by simp;omega
  unfold Oper.wp execOp
  simp only [ho,hx,Instr.storeAt,Instr.sureAddr,storeVar,sizeOf,typeInfo,hi,hy,Sem.run_bind,Sem.run_pure,run_program,Result.andThen_ok,hsz,if_false,Sem.run_ite,List.toList_toArray,hr,Oper.upon_skip]
  refine hK' _ _ (hK w' ?_)
  refine hS'.upd ?_
  rintro _ ⟨gy,gf,rfl,hy2,hv2⟩ hnd2
  rcases hv2 with ⟨h,_⟩ | ⟨g',cap',cur',ccs,f2,h,hg',h1,h2,h3,h4,h5,rfl⟩
  ·simp at h
  ·simp at h
   obtain ⟨rfl,rfl,rfl⟩:=h
   obtain ⟨rfl⟩:cur'=cur:=by rw [hh] at hg';simpa using hg'.symm
   obtain ⟨fl,fk,fr,rfl,h6⟩:=ld h5 k hk hy2
   have hoth:∀ x,x≠g→x<w.heap.size→w'.heap[x]? = w.heap[x]?:=fun x hx hlt=>hc.block x hlt (by simpa using hx)
   have hnd3:(gy++g :: (fl++fk++fr)).Nodup:=hnd2
   simp only [List.nodup_append,List.nodup_cons,List.mem_append,List.mem_cons] at hnd3
   have hgn:g∉fl++gy++fr:=by
    simp only [List.mem_append,not_or]
    refine ⟨⟨fun hm=>hnd3.2.1.1 (.inl (.inl hm)),fun hm=>hnd3.2.2 g hm g (.inl rfl) rfl⟩,fun hm=>hnd3.2.1.1 (.inr hm)⟩
   refine ⟨g :: (fl++gy++fr),.inr ⟨g,cap,_,ccs.take (k*R.sz)++ec++ccs.drop (k*R.sz+R.sz),fl++gy++fr,by simp,hnew,by simpa using h1,h2,?_,?_,el h6 (fun b hb=>hoth b (fun e=>hgn (e ▸ hb)) ?_),rfl⟩,?_,hc.mono (by simp),?_⟩
   ·simp only [List.size_toArray,List.length_append,List.length_take,List.length_drop,Array.length_toList]
    rw [hoff,← hn]
    omega
   ·have hcl:ccs.length=xs.length*R.sz:=eW (ek h5)
    rw [← h4,hoff,← hn,hel,List.length_set]
    exact lp _ _ _ _ _ hkk (by simpa using hcs) hel
   ·exact fv h6 b hb
   ·refine List.nodup_cons.2 ⟨hgn,?_⟩
    have hs:(gy++(fl++fr)).Nodup:=List.Nodup.sublist (List.Sublist.append (List.Sublist.refl gy) (List.Sublist.cons g (List.Sublist.append (List.sublist_append_left fl fk) (List.Sublist.refl fr)))) hnd2
    rw [← List.append_assoc] at hs
    exact (List.Perm.append_right fr List.perm_append_comm).nodup_iff.1 hs
   ·intro b hb
    refine .inl ?_
    simp only [List.mem_cons,List.mem_append] at hb ⊢
    rcases hb with h | (h | h) | h <;> simp [h]

theorem jP {t e:TypeId} [ht:SliceT P t e] {z:List Value} {n bytes:Nat} [hz:ElemT P e z n bytes] {v:Value} {cs:List Value} (hcs:v.cells=cs.toArray) (hl:cs.length=n) (hpos:0<n) (hzl:z.length=n) (hn:n≤16) :
  (Instr.buildSlice t 1 #[(0,v)]).run P w=.ok (.slice (some ⟨w.heap.size,0,none⟩) 1 1) (w.alloc (.cells cs.toArray e)):=by
 have hz:=hz.h
 cases hi:P.info? e with
 | none=>simp [hi] at hz
 | some i =>
 cases hzz:i.zero with
 | none=>simp [hi,hzz] at hz
 | some zv =>
 simp [hi,hzz] at hz
 obtain ⟨hz1,hz2,hz3⟩:=hz
 have h24:¬ (n > 2 ^ 24):=by omega
 have hn0:¬ (n=0):=by omega
 have hfill:Instr.fill (fun i=>some (i*n,n)) ((Array.range n).map (zv.cells[· % zv.cells.size]!)) [(0,v)]=some cs.toArray:=by
  have hsz:((Array.range n).map (zv.cells[· % zv.cells.size]!)).size=n:=by simp
  have hfold:∀ (l:List Value) (pre:List Value) (A:Array Value),A.size=pre.length+l.length→A.toList.take pre.length=pre →
    ((l.zipIdx pre.length).foldl (fun A (c:Value × Nat)=>A.setIfInBounds c.2 c.1) A).toList=pre++l:=by
   intro l
   induction l with
   | nil=>intro pre A h1 h2;simp;rw [← h2,List.take_of_length_le (by simp at h1 ⊢;omega)]
   | cons x l ih =>
    intro pre A h1 h2
    simp only [List.zipIdx_cons,List.foldl_cons]
    have:=ih (pre++[x]) (A.setIfInBounds pre.length x) (by simp at h1 ⊢;omega) (by
     simp only [Array.toList_setIfInBounds,List.length_append,List.length_singleton]
     rw [List.take_set,List.take_succ_eq_append_getElem (by simp at h1 ⊢;omega),h2,List.set_append_right _ _ (Nat.le_refl _)]
     simp)
    simpa using this
  have h0:=hfold cs [] ((Array.range n).map (zv.cells[· % zv.cells.size]!)) (by simp [hl]) (by simp)
  simp only [Instr.fill,hcs,List.size_toArray,hl,hsz,Nat.zero_mul,Nat.zero_add,ne_eq,not_true_eq_false,decide_false,Bool.false_or,gt_iff_lt,Nat.lt_irrefl,Bool.false_eq_true,if_false]
  congr 1
  apply Array.ext'
  simpa using h0
 simp [Instr.buildSlice,run_underlying ht.h,sizeOf,typeInfo,hi,hz2,h24,hn0,zeroValue,hzz,hfill,newRow]

theorem jM (hg:o.guard=none) {t e:TypeId} {x:Operand} (ho:o.op=.buildSlice t 1 #[(0,x)]) [SliceT P t e] {z:List Value} {n bytes:Nat} [ElemT P e z n bytes] {cs:List Value} (hcs:(a.eval x).cells=cs.toArray) (hl:cs.length=n) (hpos:0<n) (hzl:z.length=n) (hn:n≤16)
  (hS:Sat w0 w Γ) (hK:∀ w' b,Sat w0 w' (Box b e cs :: Γ)→Ext w w'→wpList P ops Q rest (a.put o.dst (.slice (some ⟨b,0,none⟩) 1 1)) w'):wpList P ops Q (o :: rest) a w:=by
 refine wpList_plain hg fun K hK'=>?_
 have hr:=jP (P:=P) (w:=w) (t:=t) (e:=e) hcs hl hpos hzl hn
 unfold Oper.wp execOp
 simp only [ho,List.map_toArray,List.map_cons,List.map_nil,hr,Sem.run_bind,Sem.run_pure,Result.andThen_ok,Oper.upon_value]
 exact hK' _ _ (hK _ _ (hS.box e cs) (d8 _ _))

theorem jr (R:Rep α) (hg:o.guard=none) {t:TypeId} (ho:o.op=.buildSlice t 0 #[]) [ht:SliceT P t E] {z:List Value} {n bytes:Nat} [hz:ElemT P E z n bytes]
  (hS:Sat w0 w Γ) (hK:∀ w' b,Sat w0 w' (Own (ar R E) [.slice (some ⟨b,0,none⟩) 0 0] [] :: Γ)→Ext w w'→wpList P ops Q rest (a.put o.dst (.slice (some ⟨b,0,none⟩) 0 0)) w'):wpList P ops Q (o :: rest) a w:=by
 refine wpList_plain hg fun K hK'=>?_
 have hz:=hz.h
 cases hi:P.info? E with
 | none=>simp [hi] at hz
 | some i =>
 have hr:(Instr.buildSlice t 0 #[]).run P w=.ok (.slice (some ⟨w.heap.size,0,none⟩) 0 0) (w.alloc (.cells #[] E)):=by
  simp [Instr.buildSlice,run_underlying ht.h,sizeOf,typeInfo,hi,Instr.fill,newRow,Array.range_zero']
 unfold Oper.wp execOp
 simp only [ho,List.map_toArray,List.map_nil,hr,Sem.run_bind,Sem.run_pure,Result.andThen_ok,Oper.upon_value]
 have hB:=hS.box E []
 refine hK' _ _ (hK _ _ (hB.conv (B:=Own (ar R E) [.slice (some ⟨w.heap.size,0,none⟩) 0 0] []) fun f hf=>?_) (d8 _ _))
 obtain ⟨rfl,hf⟩:=hf
 exact .inr ⟨w.heap.size,0,#[],[],[],rfl,hf,Nat.le_refl _,Nat.zero_le _,by simp,by simp,⟨rfl,rfl⟩,rfl⟩

theorem Sat.one {ec:List Value} {y:α} (h:Sat w0 w (Own R ec y :: Γ)):Sat w0 w (j7 R ec [y] :: Γ) :=
 h.conv fun f hf=>⟨ec,[],f,[],by simp,by simp,hf,rfl,rfl⟩
theorem Sat.int (h:Sat w0 w Γ) (n:Int):Sat w0 w (Own bP [.int .i64 n] n :: Γ):=h.add ⟨rfl,rfl⟩
theorem Sat.pair {α β:Type} {R:Rep α} {S:Rep β} {c d:List Value} {x:α} {y:β} (h:Sat w0 w (Own R c x :: Own S d y :: Γ)):Sat w0 w (Own (od R S) (c++d) (x,y) :: Γ) :=
 h.join fun f g h1 h2=>⟨c,d,f,g,rfl,rfl,h1,h2⟩
theorem Sat.ints {xs:List Int} (h:Sat w0 w Γ):Sat w0 w (j7 bP (xs.map (Value.int .i64)) xs :: Γ):=by
 refine h.add ?_
 induction xs with
 | nil=>exact ⟨rfl,rfl⟩
 | cons x xs ih=>exact ⟨[.int .i64 x],_,[],[],rfl,rfl,⟨rfl,rfl⟩,ih⟩
end laws2
end Go.Proofs.Ytdapplkijobjoaa
namespace Go.Proofs.Ytdapplkijobjoaa
open Go.RowKit

abbrev Env:=Nat→Value
def upd (e:Env) (d:Nat) (v:Value):Env:=fun t=>bif Nat.beq t d then v else e t
def ev (e:Env):Operand→Value
 | .tmp t=>e t
 | .const v=>v
 | .global g=>.pointer (some ⟨g,0,none⟩)
 | .func f=>.func (.func f) #[] #[]
theorem iB {a b:Nat} (h:¬ a=b):Nat.beq a b=false:=by
 cases hb:Nat.beq a b
 ·rfl
 ·exact absurd (Nat.eq_of_beq_eq_true hb) h
structure Mt (n:Nat) (e:Env) (a:Act):Prop where
 size:a.tmps.size=n
 defers:a.defers=[]
 get:∀ t,a.tmps.getD t undef=e t
theorem Mt.eval {n:Nat} {e:Env} {a:Act} (h:Mt n e a):a.eval=ev e:=by
 funext x
 cases x <;> simp only [Act.eval,ev]
 exact h.get _
theorem Mt.put {n:Nat} {e:Env} {a:Act} (h:Mt n e a) {d:Nat} (hd:d<n) (v:Value):Mt n (upd e d v) (a.put (some d) v):=by
 refine ⟨by simp [Act.put,h.size],by simpa [Act.put] using h.defers,fun t=>?_⟩
 have hg:=h.get t
 have hs:=h.size
 simp only [Act.put,upd]
 by_cases ht:t=d
 ·subst ht
  simp [Array.getD,hs,hd]
 ·have:Nat.beq t d=false:=iB ht
  rw [this]
  simp only [cond_false,← hg,Array.getD,Array.size_setIfInBounds]
  split
  ·rename_i hlt
   have:=Array.getElem_setIfInBounds (xs:=a.tmps) (i:=d) (a:=v) (j:=t) (by simpa using hlt)
   rw [if_neg (fun e=>ht e.symm)] at this
   exact this
  ·rfl
theorem ny {e:Env} {d:Nat} {v:Value} (h:e d=v):upd e d v=e:=by
 funext t
 unfold upd
 by_cases ht:t=d
 ·subst ht;simp [h]
 ·have:Nat.beq t d=false:=iB ht
  rw [this];rfl
theorem keep {e e':Env} {d:Nat} {v:Value} (h:e' d=v) (h2:e=e'):e=upd e' d v:=by rw [ny h,h2]
def PV (P:Program) (o:Oper) (e:Env) (w:World) (v:Value):Prop:=∀ w',Ext w w'→(execOp (ev e) o).run P w'=.ok (.value v) w'
theorem PV.ext {P:Program} {o:Oper} {e:Env} {w w1:World} {v:Value} (h:PV P o e w v) (hx:Ext w w1):PV P o e w1 v:=fun w' h'=>h w' (hx.trans h')

def nrm (n:Nat) (K:Env→World→Prop):Exit→Act→World→Prop:=fun x a w=>x=.normal∧∃ e,Mt n e a∧K e w
def EL (P:Program) (n:Nat) (ops:Array Oper) (K:Env→World→Prop) (rest:List Oper) (e:Env) (w:World):Prop:=∀ a,Mt n e a→wpList P ops (nrm n K) rest a w
def QL (P:Program) (n:Nat) (ops:Array Oper) (w:World) (K:Env→Prop) (rest:List Oper) (e:Env):Prop:=∀ a,Mt n e a→wpQuiet P ops (fun w'=>Ext w w') (fun a'=>∃ e',Mt n e' a'∧K e') rest a

structure Goes (P:Program) (f:FuncId):Prop where
 h:∃ fn,P.funcs[f]? = some fn∧(fn.name == "runtime.NumGoroutine")=false∧fn.body.isNone=false
theorem Goes.run {P:Program} {f:FuncId} (h:Goes P f) (args:Array Value) (w:World):(callFunc f args).run P w=.ok (.enter f args) w:=by
 obtain ⟨fn,h1,h2,h3⟩:=h.h
 simp only [callFunc,Sem.run_bind,run_program,Result.andThen_ok,h1,h2,h3,Bool.false_eq_true,if_false]
 rfl

section
variable {P:Program} {n:Nat} {ops:Array Oper} {K:Env→World→Prop} {KQ:Env→Prop} {rest:List Oper} {e:Env} {w w0:World} {v:Value} {d:Nat} {op:Op} {ty:TypeId} {pos:String} {af:Array Edge} {Γ rΓ:List Asn}

theorem ak (h:K e w):EL P n ops K [] e w:=fun _ ha=>⟨rfl,e,ha,h⟩
theorem bQ (h:KQ e):QL P n ops w KQ [] e:=fun _ ha=>⟨e,ha,h⟩
theorem iV (hp:PV P ⟨some d,op,ty,pos,af,none⟩ e w v) (hd:d<n) (hK:EL P n ops K rest (upd e d v) w):EL P n ops K (⟨some d,op,ty,pos,af,none⟩ :: rest) e w:=by
 intro a ha
 refine wpList_plain rfl fun K' hK'=>?_
 unfold Oper.wp
 rw [ha.eval,hp w (Ext.refl w)]
 exact hK' _ _ (hK _ (ha.put hd v))
theorem kC (hp:PV P ⟨some d,op,ty,pos,af,none⟩ e w v) (hd:d<n) (hK:QL P n ops w KQ rest (upd e d v)):QL P n ops w KQ (⟨some d,op,ty,pos,af,none⟩ :: rest) e:=by
 intro a ha
 unfold wpQuiet
 rw [if_pos (by rfl)]
 refine ⟨v,fun w' hw'=>?_,hK _ (ha.put hd v)⟩
 unfold Oper.quietAt
 rw [ha.eval,hp w' hw']
 exact ⟨rfl,rfl⟩
theorem ba {f:FuncId} {args:Array Operand} {tys:Array TypeId} {vals:Array Value} {R:Ending→World→Prop} (hg:Goes P f) (hc:Calls P f vals w R) (hv:(args.toList.map (ev e)).toArray=vals) (hd:d<n)
  (hK:∀ x w',R x w'→∃ v,x=.returned v∧EL P n ops K rest (upd e d v) w'):EL P n ops K (⟨some d,.call ⟨.value (.func f),args,tys⟩,ty,pos,af,none⟩ :: rest) e w:=by
 intro a ha
 refine wpList_plain rfl fun K' hK'=>?_
 unfold Oper.wp execOp
 have he:args.map (ev e)=vals:=by rw [← hv];apply Array.ext';simp
 simp only [ha.eval,resolve,ev,Deferred.ofValue,Sem.run_bind,Sem.run_pure,Result.andThen_ok,Array.empty_append,Array.append_empty,he,invoke,hg.run,Oper.upon_enter]
 refine hc.mono fun x w' hx=>?_
 obtain ⟨v,rfl,h⟩:=hK x w' hx
 exact hK' _ _ (h _ (ha.put hd v))
theorem dV {f:FuncId} {args:Array Operand} {tys:Array TypeId} {vals:Array Value} (v:Value) (hg:Goes P f)
  (hc:∀ w',Ext w w'→Calls P f vals w' fun x w''=>x=.returned v∧Ext w' w'') (hv:(args.toList.map (ev e)).toArray=vals) (hd:d<n)
  (hK:QL P n ops w KQ rest (upd e d v)):QL P n ops w KQ (⟨some d,.call ⟨.value (.func f),args,tys⟩,ty,pos,af,none⟩ :: rest) e:=by
 intro a ha
 unfold wpQuiet
 rw [if_pos (by rfl)]
 refine ⟨v,fun w' hw'=>?_,hK _ (ha.put hd v)⟩
 unfold Oper.quietAt execOp
 have he:args.map (ev e)=vals:=by rw [← hv];apply Array.ext';simp
 simp only [ha.eval,resolve,ev,Deferred.ofValue,Sem.run_bind,Sem.run_pure,Result.andThen_ok,Array.empty_append,Array.append_empty,he,invoke,hg.run]
 exact ⟨rfl,(hc w' hw').mono fun x w'' ⟨h1,h2⟩=>⟨h1,hw'.trans h2⟩⟩
def yld (ops:Array Oper) (e:Env) (j:Nat):Option Bool :=
 match (ops[j]?).bind (·.dst) with
 | some t=>match e t with | .bool b=>some b | _=>none
 | none=>none
theorem fV {a:Act} (ha:Mt n e a) {j:Nat} {b:Bool} (h:yld ops e j=some b):yielded ops a.tmps j=some b:=by
 unfold yld at h
 unfold yielded
 cases hj:(ops[j]?).bind (·.dst) with
 | none=>simp [hj] at h
 | some t =>
  simp only [hj] at h
  have hg:=ha.get t
  simp only [Option.bind_some]
  cases hv:e t with
  | bool c =>
   rw [hv] at h hg
   simp only [Option.some.injEq] at h
   subst h
   unfold Array.getD at hg
   split at hg
   ·rename_i hlt
    rw [Array.getElem?_eq_getElem hlt]
    have:a.tmps[t]=.bool c:=hg
    rw [this]
   ·simp [undef] at hg
  | _=>simp [hv] at h
theorem iD {a:Act} (ha:Mt n e a) {j:Nat} (h:(match (ops[j]?).bind (·.dst) with | some t=>e t | none=>undef)=undef):yielded ops a.tmps j=none:=by
 unfold yielded
 cases hj:(ops[j]?).bind (·.dst) with
 | none=>rfl
 | some t =>
  simp only [hj] at h
  have hg:=ha.get t
  rw [h] at hg
  simp only [Option.bind_some]
  cases hv:a.tmps[t]? with
  | none=>rfl
  | some v =>
   have:a.tmps.getD t undef=v:=by
    obtain ⟨h1,h2⟩:=Array.getElem?_eq_some_iff.1 hv
    simp [Array.getD,h1,h2]
   rw [this] at hg
   subst hg
   rfl
theorem pW {j:Nat} {b c:Bool} {dst:Option Nat} (h:yld ops e j=some c) (hc:c=b) (hK:EL P n ops K (⟨dst,op,ty,pos,af,none⟩ :: rest) e w):EL P n ops K (⟨dst,op,ty,pos,af,some (j,b)⟩ :: rest) e w:=by
 subst hc
 intro a ha
 have:=hK a ha
 unfold wpList at this ⊢
 rw [if_pos (by simp [Region.wanted])] at this
 rw [if_pos (by simp [Region.wanted,fV ha h])]
 exact this
theorem o9 {j:Nat} {b b' c:Bool} {d:Nat} (h:yld ops e j=some c) (hc:c=b) (hb:(b == b')=false) (hd:d<n) (hK:EL P n ops K rest (upd e d undef) w):EL P n ops K (⟨some d,op,ty,pos,af,some (j,b')⟩ :: rest) e w:=by
 subst hc
 intro a ha
 unfold wpList
 rw [if_neg (by simp [Region.wanted,fV ha h];simpa using hb)]
 exact hK _ (ha.put hd _)
theorem qa {j:Nat} {b c:Bool} {dst:Option Nat} (h:yld ops e j=some c) (hc:c=b) (hK:QL P n ops w KQ (⟨dst,op,ty,pos,af,none⟩ :: rest) e):QL P n ops w KQ (⟨dst,op,ty,pos,af,some (j,b)⟩ :: rest) e:=by
 subst hc
 intro a ha
 have:=hK a ha
 unfold wpQuiet at this ⊢
 rw [if_pos (by simp [Region.wanted])] at this
 rw [if_pos (by simp [Region.wanted,fV ha h])]
 exact this
theorem o3 {j:Nat} {b b' c:Bool} {d:Nat} (h:yld ops e j=some c) (hc:c=b) (hb:(b == b')=false) (hd:d<n) (hK:QL P n ops w KQ rest (upd e d undef)):QL P n ops w KQ (⟨some d,op,ty,pos,af,some (j,b')⟩ :: rest) e:=by
 subst hc
 intro a ha
 unfold wpQuiet
 rw [if_neg (by simp [Region.wanted,fV ha h];simpa using hb)]
 exact hK _ (ha.put hd _)
end

def Lf (n:Nat) (Q:Exit→Env→World→Prop):Exit→Act→World→Prop:=fun x a w=>∃ e,Mt n e a∧Q x e w
def CW (P:Program) (n:Nat) (c:Code) (Q:Exit→Env→World→Prop) (e:Env) (w:World):Prop:=∀ a,Mt n e a→c.wp P (Lf n Q) a w
def thn (K:Env→World→Prop) (Q:Exit→Env→World→Prop):Exit→Env→World→Prop
 | .normal,e,w=>K e w
 | x,e,w=>Q x e w
def inb (id:Nat) (Q:Exit→Env→World→Prop):Exit→Env→World→Prop
 | .exit id',e,w=>bif Nat.beq id' id then Q .normal e w else Q (.exit id') e w
 | x,e,w=>Q x e w
section
variable {P:Program} {n:Nat} {Q:Exit→Env→World→Prop} {K:Env→World→Prop} {e:Env} {w:World} {c x y:Code}
theorem jq (h:∀ Q',(∀ x e w,Q x e w→Q' x e w)→CW P n c Q' e w):CW P n c Q e w:=h Q fun _ _ _ h=>h
theorem pT {i:Nat} (h:Q .normal e w):inb i Q (.exit i) e w:=by
 have:Nat.beq i i=true:=by simp
 show (bif Nat.beq i i then _ else _)
 rw [this];exact h
theorem mY (h:CW P n x (thn (fun e w=>CW P n y Q e w) Q) e w):CW P n (.seq x y) Q e w:=by
 intro a ha
 refine wp_seq (wp_mono (h a ha) ?_)
 rintro x' a' w' ⟨e',he',hq⟩
 cases x' with
 | normal=>exact hq a' he'
 | _=>exact ⟨e',he',hq⟩
theorem aV (h:Q .normal e w):CW P n .skip Q e w:=fun _ ha=>wp_skip ⟨e,ha,h⟩
theorem aR {i:Nat} (h:Q (.exit i) e w):CW P n (.exit i) Q e w:=fun _ ha=>wp_exit ⟨e,ha,h⟩
theorem ah (h:Q .ret e w):CW P n .ret Q e w:=fun _ ha=>wp_ret ⟨e,ha,h⟩
theorem mP {o:Operand} {b:Bool} (hc:ev e o=.bool b) (hb:b=true) (h:CW P n x Q e w):CW P n (.cond o x y) Q e w :=
 fun a ha=>wp_cond_true (by rw [ha.eval,hc,hb]) (h a ha)
theorem m6 {o:Operand} {b:Bool} (hc:ev e o=.bool b) (hb:b=false) (h:CW P n y Q e w):CW P n (.cond o x y) Q e w :=
 fun a ha=>wp_cond_false (by rw [ha.eval,hc,hb]) (h a ha)
theorem nN {i:Nat} (h:CW P n c (inb i Q) e w):CW P n (.block i c) Q e w:=by
 intro a ha
 refine wp_block (wp_mono (h a ha) ?_)
 rintro x' a' w' ⟨e',he',hq⟩
 cases x' with
 | exit id' =>
  by_cases hi:id'=i
  ·subst hi
   have:Nat.beq id' id'=true:=by simp
   have hq':(bif Nat.beq id' id' then Q .normal e' w' else Q (.exit id') e' w'):=hq
   rw [this] at hq'
   simp only [Exit.inBlock,if_true]
   exact ⟨e',he',hq'⟩
  ·have:Nat.beq id' i=false:=iB hi
   have hq':(bif Nat.beq id' i then Q .normal e' w' else Q (.exit id') e' w'):=hq
   rw [this] at hq'
   simp only [Exit.inBlock,hi,if_false]
   exact ⟨e',he',hq'⟩
 | _=>exact ⟨e',he',hq⟩
theorem aj {id:Nat} {l:List Oper} (h:EL P n l.toArray (fun e w=>Q .normal e w) l e w):CW P n (.region id l.toArray false) Q e w:=by
 intro a ha
 refine wp_mono (wp_region_lit (h a ha)) ?_
 rintro x a w ⟨rfl,e,he,hk⟩
 exact ⟨e,he,hk⟩
theorem cd {id:Nat} {l:List Oper} (hm:P.follows .mixedOrders=true) (hB:Region.lexB .any l.toArray=true) (h:QL P n l.toArray w (fun e=>∀ w',Ext w w'→Q .normal e w') l e):CW P n (.region id l.toArray true) Q e w:=by
 intro a ha
 refine wp_region_quiet (C:=fun w'=>Ext w w') hm hB ⟨rfl,rfl,rfl,Nat.le_refl _,fun _ _=>rfl⟩ ?_
 have:=h a ha
 have key:∀ (r:List Oper) (a:Act),wpQuiet P l.toArray (fun w'=>Ext w w') (fun a'=>∃ e',Mt n e' a'∧∀ w',Ext w w'→Q .normal e' w') r a→wpQuiet P l.toArray (fun w'=>Ext w w') (fun a'=>∀ w',Ext w w'→Lf n Q .normal a' w') r a:=by
  intro r
  induction r with
  | nil=>rintro a ⟨e',h1,h2⟩ w' hw';exact ⟨e',h1,h2 w' hw'⟩
  | cons o r ih =>
   intro a h
   unfold wpQuiet at h ⊢
   split
   ·rename_i hw
    rw [if_pos hw] at h
    exact Oper.quiet_mono ih h
   ·rename_i hw
    rw [if_neg hw] at h
    exact ih _ h
 exact key _ _ this
theorem oq (I:Nat→Env→World→Prop) (k0:Nat) (h0:I k0 e w)
  (hr:∀ k e w,I k e w→CW P n c (thn (fun e w=>∃ k',k'<k∧I k' e w) Q) e w):CW P n (.loop c) Q e w:=by
 intro a ha
 refine wp_loop_ghost (fun k a w=>∃ e,Mt n e a∧I k e w) k0 ⟨e,ha,h0⟩ ?_
 rintro k a w ⟨e,he,hI⟩
 refine wp_mono (hr k e w hI a he) ?_
 rintro x' a' w' ⟨e',he',hq⟩
 cases x' with
 | normal =>
  obtain ⟨k',hk',hI'⟩:=hq
  exact ⟨k',hk',e',he',hI'⟩
 | _=>exact ⟨e',he',hq⟩
theorem aU (I:Nat→Env→World→Prop) (k0:Nat) (h0:I k0 e w) (hz:∀ e w,¬ I 0 e w)
  (hr:∀ k e w,I (k+1) e w→CW P n c (thn (fun e w=>I k e w) Q) e w):CW P n (.loop c) Q e w:=by
 refine oq I k0 h0 ?_
 intro k e w hI
 cases k with
 | zero=>exact absurd hI (hz e w)
 | succ k =>
  intro a ha
  refine wp_mono (hr k e w hI a ha) ?_
  rintro x' a' w' ⟨e',he',hq⟩
  cases x' with
  | normal=>exact ⟨e',he',k,Nat.lt_succ_self k,hq⟩
  | _=>exact ⟨e',he',hq⟩
end

def Fin (P:Program) (fn:Func) (n:Nat) (R:Ending→World→Prop):Exit→Env→World→Prop
 | .normal,e,w=>∃ v,(∀ a,Mt n e a→(results fn a.tmps).run P w=.ok v w)∧R (.returned v) w
 | .ret,e,w=>∃ v,(∀ a,Mt n e a→(results fn a.tmps).run P w=.ok v w)∧R (.returned v) w
 | _,_,_=>False
def jo:List Value→Nat→Env
 | [],_=>fun _=>undef
 | v :: l,k=>upd (jo l (k+1)) k v
theorem ki:∀ (l:List Value) (k t:Nat),jo l k t=if k≤t then l.getD (t-k) undef else undef
 | [],k,t=>by simp [jo]
 | v :: l,k,t=>by
  unfold jo upd
  by_cases h:t=k
  ·subst h;simp
  ·have hb:Nat.beq t k=false:=iB h
   rw [hb,cond_false,ki l (k+1) t]
   by_cases hk:k+1≤t
   ·rw [if_pos hk,if_pos (by omega),show t-k=(t-(k+1))+1 by omega]
    simp
   ·rw [if_neg hk]
    by_cases hk2:k≤t
    ·omega
    ·rw [if_neg hk2]
theorem aC {P:Program} {f:FuncId} {fn:Func} {c:Code} {l:List Value} {w:World} {R:Ending→World→Prop} (hf:P.funcs[f]? = some fn) (hb:fn.body=some c) {n:Nat} (hn:fn.ntmps=n) (hl:l.length≤n)
  (h:CW P n c (Fin P fn n R) (jo l 0) w):Calls P f l.toArray w R:=by
 refine calls_of_wp hf hb (wp_mono (h _ ?_) ?_)
 ·refine ⟨by simp;omega,rfl,fun t=>?_⟩
  rw [ki]
  simp only [Nat.zero_le,if_true,Nat.sub_zero,Array.getD,Array.size_append,List.size_toArray,Array.size_replicate]
  by_cases h1:t<l.length
  ·rw [dif_pos (by omega)]
   simp [h1]
  ·have h2:l.getD t undef=undef:=by simp [h1]
   rw [h2]
   split
   ·rename_i h3
    have:=Array.getElem_append_right (xs:=l.toArray) (ys:=Array.replicate (fn.ntmps-l.length) undef) (i:=t) (by simpa using h1) (h:=by simpa using h3)
    simpa using this
   ·rfl
 ·rintro x a w' ⟨e,he,hq⟩
  cases x with
  | normal=>obtain ⟨v,h1,h2⟩:=hq;exact bodyPost_end (h1 a he) he.defers h2
  | ret=>obtain ⟨v,h1,h2⟩:=hq;exact bodyPost_ret (h1 a he) he.defers h2
  | _=>exact hq.elim
end Go.Proofs.Ytdapplkijobjoaa
namespace Go.Proofs.Ytdapplkijobjoaa
open Go.RowKit

def rng (n:Int):Bool:=decide (-9223372036854775808≤n)&&decide (n≤9223372036854775807)
def ad (a b:Int):Option Int:=if rng (a+b) then some (a+b) else none
def sb (a b:Int):Option Int:=if rng (a-b) then some (a-b) else none
def ml (a b:Int):Option Int:=if rng (a*b) then some (a*b) else none
def qt (a b:Int):Option Int:=if b≠0∧rng (a.tdiv b) then some (a.tdiv b) else none
def rm (a b:Int):Option Int:=if b≠0 then some (a.tmod b) else none
def ix {α:Type} (xs:List α) (i:Int):Option α:=if 0≤i then xs[i.toNat]? else none
def slc {α:Type} (xs:List α) (lo hi:Int):Option (List α):=if 0≤lo∧lo≤hi∧hi≤xs.length then some ((xs.take hi.toNat).drop lo.toNat) else none
def apd {α:Type} (bytes:Nat) (xs ys:List α):Option (List α):=if (xs.length+ys.length)*bytes≤140737488355328 then some (xs++ys) else none
def mk {α:Type} (bytes:Nat) (z:α) (n:Int):Option (List α):=if 0≤n∧n.toNat*bytes≤281474976710656∧n.toNat≤140737488355328 then some (List.replicate n.toNat z) else none
def sto {α:Type} (xs:List α) (i:Int) (y:α):Option (List α):=if 0≤i∧i.toNat<xs.length then some (xs.set i.toNat y) else none

theorem ob {α β:Type} {o:Option α} {f:α→Option β} {r:β} (h:o.bind f=some r):∃ x,o=some x∧f x=some r:=Option.bind_eq_some_iff.1 h
theorem oif {α:Type} {c:Bool} {x y:Option α} {r:α} (h:(bif c then x else y)=some r):(c=true∧x=some r)∨(c=false∧y=some r):=by
 cases c
 ·exact .inr ⟨rfl,h⟩
 ·exact .inl ⟨rfl,h⟩
theorem eS {n:Int} (h:rng n=true):IntKind.i64.wrap n=n:=by
 simp only [rng,Bool.and_eq_true,decide_eq_true_eq] at h
 exact IntWalk.i64_in n h
theorem oG {a b c:Int} (h:ad a b=some c):rng (a+b)=true∧c=a+b:=by
 unfold ad at h;split at h
 ·exact ⟨by assumption,by simpa using h.symm⟩
 ·cases h
theorem oK {a b c:Int} (h:sb a b=some c):rng (a-b)=true∧c=a-b:=by
 unfold sb at h;split at h
 ·exact ⟨by assumption,by simpa using h.symm⟩
 ·cases h
theorem ot {a b c:Int} (h:ml a b=some c):rng (a*b)=true∧c=a*b:=by
 unfold ml at h;split at h
 ·exact ⟨by assumption,by simpa using h.symm⟩
 ·cases h
theorem gc {α:Type} {xs:List α} {i:Int} {x:α} (h:ix xs i=some x):∃ k:Nat,i=(k:Int)∧∃ h:k<xs.length,xs[k]=x:=by
 unfold ix at h
 split at h
 ·rename_i h0
  obtain ⟨h1,h2⟩:=List.getElem?_eq_some_iff.1 h
  exact ⟨i.toNat,by omega,h1,h2⟩
 ·cases h

section
variable {P:Program} {e:Env} {w w0:World} {d:Option Nat} {ty:TypeId} {pos:String} {af:Array Edge} {x y z:Operand} {Γ rΓ:List Asn}

theorem aI {v:Value} (hx:ev e x=v):PV P ⟨d,.move x,ty,pos,af,none⟩ e w v:=fun w' _=>by
 unfold execOp;simp only [hx];rfl
theorem dh {v:Value} (hx:ev e x=v):PV P ⟨d,.assign x,ty,pos,af,none⟩ e w v:=fun w' _=>by
 unfold execOp;simp only [hx];rfl
theorem au {b:Bool} {v:Value} (hx:ev e x=.bool b) (hb:b=true) (hy:ev e y=v):PV P ⟨d,.pick x y z,ty,pos,af,none⟩ e w v:=fun w' _=>by
 unfold execOp;subst hb;simp [hx,hy,asBool]
theorem az {b:Bool} {v:Value} (hx:ev e x=.bool b) (hb:b=false) (hz:ev e z=v):PV P ⟨d,.pick x y z,ty,pos,af,none⟩ e w v:=fun w' _=>by
 unfold execOp;subst hb;simp [hx,hz,asBool]
theorem bt {t:TypeId} {b:Bool} (hx:ev e x=.bool b):PV P ⟨d,.unOp .not t x,ty,pos,af,none⟩ e w (.bool (!b)):=fun w' _=>by
 unfold execOp;simp [hx,Op.unary]
section
variable {t u:TypeId} {a b c:Int}
theorem aF (hx:ev e x=.int .i64 a) (hy:ev e y=.int .i64 b) (h:ad a b=some c):PV P ⟨d,.binOp .add t x y u,ty,pos,af,none⟩ e w (.int .i64 c):=fun w' _=>by
 obtain ⟨h1,rfl⟩:=oG h
 unfold execOp;simp [hx,hy,eqGuard,binOp,Op.intArith,eS h1]
theorem cj (hx:ev e x=.int .i64 a) (hy:ev e y=.int .i64 b) (h:sb a b=some c):PV P ⟨d,.binOp .sub t x y u,ty,pos,af,none⟩ e w (.int .i64 c):=fun w' _=>by
 obtain ⟨h1,rfl⟩:=oK h
 unfold execOp;simp [hx,hy,eqGuard,binOp,Op.intArith,eS h1]
theorem ee (hx:ev e x=.int .i64 a) (hy:ev e y=.int .i64 b) (h:ml a b=some c):PV P ⟨d,.binOp .mul t x y u,ty,pos,af,none⟩ e w (.int .i64 c):=fun w' _=>by
 obtain ⟨h1,rfl⟩:=ot h
 unfold execOp;simp [hx,hy,eqGuard,binOp,Op.intArith,eS h1]
theorem o4 (hx:ev e x=.int .i64 a) (hy:ev e y=.int .i64 b) (h:qt a b=some c):PV P ⟨d,.binOp .quo t x y u,ty,pos,af,none⟩ e w (.int .i64 c):=fun w' _=>by
 unfold qt at h;split at h
 ·rename_i h1
  obtain rfl:=Option.some.inj h
  unfold execOp;simp [hx,hy,eqGuard,binOp,Op.intDiv,h1.1,eS h1.2]
 ·cases h
theorem fE (hx:ev e x=.int .i64 a) (hy:ev e y=.int .i64 b) (h:rm a b=some c):PV P ⟨d,.binOp .rem t x y u,ty,pos,af,none⟩ e w (.int .i64 c):=fun w' _=>by
 unfold rm at h;split at h
 ·rename_i h1
  obtain rfl:=Option.some.inj h
  unfold execOp;simp [hx,hy,eqGuard,binOp,Op.intDiv,h1]
 ·cases h
theorem kd {k:IntKind} (hx:ev e x=.int k a) (hy:ev e y=.int k b):PV P ⟨d,.binOp .add t x y u,ty,pos,af,none⟩ e w (.int k (k.wrap (a+b))):=fun w' _=>by
 unfold execOp;simp [hx,hy,eqGuard,binOp,Op.intArith]
theorem om {k:IntKind} (hx:ev e x=.int k a) (hy:ev e y=.int k b):PV P ⟨d,.binOp .mul t x y u,ty,pos,af,none⟩ e w (.int k (k.wrap (a*b))):=fun w' _=>by
 unfold execOp;simp [hx,hy,eqGuard,binOp,Op.intArith]
theorem aG {k:IntKind} (hx:ev e x=.int k a) (hy:ev e y=.int k b):PV P ⟨d,.binOp .eql t x y u,ty,pos,af,none⟩ e w (.bool (a == b)):=fun w' _=>by
 unfold execOp;simp [hx,hy,eqGuard,binOp,Op.intCmp]
theorem cq {k:IntKind} (hx:ev e x=.int k a) (hy:ev e y=.int k b):PV P ⟨d,.binOp .neq t x y u,ty,pos,af,none⟩ e w (.bool (a != b)):=fun w' _=>by
 unfold execOp;simp [hx,hy,eqGuard,binOp,Op.intCmp]
theorem aY {k:IntKind} (hx:ev e x=.int k a) (hy:ev e y=.int k b):PV P ⟨d,.binOp .lss t x y u,ty,pos,af,none⟩ e w (.bool (decide (a<b))):=fun w' _=>by
 unfold execOp;simp [hx,hy,eqGuard,binOp,Op.intCmp]
theorem iq {k:IntKind} (hx:ev e x=.int k a) (hy:ev e y=.int k b):PV P ⟨d,.binOp .leq t x y u,ty,pos,af,none⟩ e w (.bool (decide (a≤b))):=fun w' _=>by
 unfold execOp;simp [hx,hy,eqGuard,binOp,Op.intCmp]
theorem bM {k:IntKind} (hx:ev e x=.int k a) (hy:ev e y=.int k b):PV P ⟨d,.binOp .gtr t x y u,ty,pos,af,none⟩ e w (.bool (decide (b<a))):=fun w' _=>by
 unfold execOp;simp [hx,hy,eqGuard,binOp,Op.intCmp]
theorem gV {k:IntKind} (hx:ev e x=.int k a) (hy:ev e y=.int k b):PV P ⟨d,.binOp .geq t x y u,ty,pos,af,none⟩ e w (.bool (decide (b≤a))):=fun w' _=>by
 unfold execOp;simp [hx,hy,eqGuard,binOp,Op.intCmp]
end
def ltS (s r:ByteArray):Bool:=Op.bytesLess s.toList r.toList
theorem c6 {k:Nat} {vs:Array Value} {v:Value} (hx:ev e x=.tuple vs) (h:vs[k]? = some v):PV P ⟨d,.extract x k,ty,pos,af,none⟩ e w v:=fun w' _=>by
 unfold execOp;simp [hx,Instr.extract,h]
theorem lg {s t:TypeId} {k k2:IntKind} {a:Int} {u:TypeDesc} (hs:P.underlying s=some u) (ht:P.underlying t=some (.int k2)) (hx:ev e x=.int k a):PV P ⟨d,.convert s t x,ty,pos,af,none⟩ e w (.int k2 (k2.wrap a)):=fun w' _=>by
 unfold execOp;simp [hx,convert,run_underlying ht,run_underlying hs,Conv.intToInt]
def imn (a b:Int):Int:=if b<a then b else a
def imx (a b:Int):Int:=if a<b then b else a
theorem bE {p:Addr} (hx:ev e x=.pointer (some p)):PV P ⟨d,.nilCheck x,ty,pos,af,none⟩ e w (.pointer (some p)):=fun w' _=>by
 unfold execOp;simp [hx]
theorem e7 {t t2:TypeId} {a b:Int} (hx:ev e x=.int .i64 a) (hy:ev e y=.int .i64 b):PV P ⟨d,.call ⟨.builtin .min,#[x,y],#[t,t2]⟩,ty,pos,af,none⟩ e w (.int .i64 (imn a b)):=fun w' _=>by
 unfold execOp imn;simp [resolve,invoke,builtin,hx,hy,Builtin.min_,Builtin.min2]
theorem iw {t t2:TypeId} {a b:Int} (hx:ev e x=.int .i64 a) (hy:ev e y=.int .i64 b):PV P ⟨d,.call ⟨.builtin .max,#[x,y],#[t,t2]⟩,ty,pos,af,none⟩ e w (.int .i64 (imx a b)):=fun w' _=>by
 unfold execOp imx;simp [resolve,invoke,builtin,hx,hy,Builtin.max_,Builtin.max2]
class FldT (P:Program) (t:TypeId) (k:Nat) (off:outParam Nat):Prop where
 h:∃ fs f,P.underlying t=some (.struct fs)∧fs[k]? = some f∧f.offset=off∧((P.info? f.type).map fun i=>Nat.beq i.size 0)=some false
theorem ae {t:TypeId} {k off b o:Nat} [ht:FldT P t k off] (hx:ev e x=.pointer (some ⟨b,o,none⟩)):PV P ⟨d,.fieldAddr t x k,ty,pos,af,none⟩ e w (.pointer (some ⟨b,o+off,none⟩)):=fun w' _=>by
 obtain ⟨fs,f,h1,h2,h3,h4⟩:=ht.h
 cases hi:P.info? f.type with
 | none=>simp [hi] at h4
 | some i =>
  have h5:¬ i.size=0:=by
   intro e0
   simp [hi,e0] at h4
  unfold execOp
  simp [hx,Instr.fieldAt,run_underlying h1,h2,Instr.sureAddr,fieldPlace,sizeOf,typeInfo,hi,h5,h3,Addr.add_lit]
theorem kS {w w':World} {p:Addr} {c:Value} (hE:Ext w w') (h:w.cell? p=some c):w'.cell? p=some c:=by rw [hE.cell (block_lt_of_cell h)];exact h
theorem ai {w w':World} {b off:Nat} {ec:List Value} (hE:Ext w w') (h:∀ j c,ec[j]? = some c→w.cell? ⟨b,off+j,none⟩=some c):∀ j c,ec[j]? = some c→w'.cell? ⟨b,off+j,none⟩=some c :=
 fun j c hj=>kS hE (h j c hj)
theorem ac {t:TypeId} [PlainT P t] {p:Addr} {c:Value} (hx:ev e x=.pointer (some p)) (hc:w.cell? p=some c):PV P ⟨d,.load t x,ty,pos,af,none⟩ e w c:=fun w' hw'=>by
 unfold execOp
 simp only [hx,Instr.loadAt,Instr.sureAddr,Sem.run_bind,Sem.run_pure,Result.andThen_ok,iY (kS hw' hc)]
theorem aK {t:TypeId} {n b off:Nat} [AggT P t n] {cs:List Value} (hx:ev e x=.pointer (some ⟨b,off,none⟩)) (hn:cs.length=n) (hc:∀ j c,cs[j]? = some c→w.cell? ⟨b,off+j,none⟩=some c) :
  PV P ⟨d,.load t x,ty,pos,af,none⟩ e w (.agg cs.toArray):=fun w' hw'=>by
 unfold execOp
 simp only [hx,Instr.loadAt,Instr.sureAddr,Sem.run_bind,Sem.run_pure,Result.andThen_ok,d3 hn (ai hw' hc)]
theorem an {α:Type} {R:Rep α} {E E':TypeId} {t:TypeId} [ht:SliceT P t E'] {wA:World} {v:Value} {xs:List α} (hx:ev e x=v) (hr:(ar R E).rd wA [v] xs) :
  PV P ⟨d,.call ⟨.builtin .len,#[x],#[t]⟩,ty,pos,af,none⟩ e w (.int .i64 xs.length):=fun w' _=>by
 obtain ⟨ao,cap,rfl⟩:=ll hr
 unfold execOp;simp [resolve,invoke,builtin,hx,Builtin.len_,run_underlying ht.h,goInt]
theorem ji {α:Type} {R:Rep α} {E E':TypeId} {t:TypeId} [ht:SliceT P t E'] {zz:List Value} {n bytes:Nat} [hz:ElemT P E' zz n bytes] {wA:World} {v:Value} {xs:List α} (hs:ev e x=v) (hr:(ar R E).rd wA [v] xs)
  (hn:R.sz=n) (hpos:0<n) {k:IntKind} {i:Int} (hi:ev e y=.int k i) {u:α} (h:ix xs i=some u) :
  ∃ b off ec,R.rd wA ec u∧(∀ j c,ec[j]? = some c→wA.cell? ⟨b,off+j,none⟩=some c)∧∀ w,PV P ⟨d,.indexAddr t x y,ty,pos,af,none⟩ e w (.pointer (some ⟨b,off,none⟩)):=by
 obtain ⟨k',rfl,hk,rfl⟩:=gc h
 obtain ⟨ao,cap,ccs,hv,h1,h2,h3,h4,h5⟩:=hr
 obtain rfl:v=.slice ao xs.length cap:=by simpa using hv
 obtain ⟨ec,hec,hcc⟩:=jB h4 k' hk
 have hz:=hz.h
 have hlen:=eW h4
 cases hq:P.info? E' with
 | none=>simp [hq] at hz
 | some inf =>
  simp [hq] at hz
  obtain ⟨b,off,rfl,hc⟩:∃ b off,ao=some ⟨b,off,none⟩∧∀ j c,ccs[j]? = some c→wA.cell? ⟨b,off+j,none⟩=some c:=by
   rcases h5 with rfl | ⟨b,off,rfl,hc⟩
   ·have:0<xs.length*R.sz:=Nat.mul_pos (by omega) (by omega)
    simp at hlen
    omega
   ·exact ⟨b,off,rfl,hc⟩
  have hsz:inf.size=R.sz:=by rw [hn];exact hz.2.1
  refine ⟨b,off+k'*R.sz,ec,hec,fun j c hj=>by rw [Nat.add_assoc];exact hc _ _ (hcc j c hj),fun w w' _=>?_⟩
  unfold execOp
  simp [hs,hi,Instr.indexAt,asIntOf,run_underlying ht.h,sizeOf,typeInfo,hq,hk,Addr.add_lit,hsz]
end

section
variable {P:Program} {n:Nat} {ops:Array Oper} {K:Env→World→Prop} {KQ:Env→Prop} {rest:List Oper} {e:Env} {w w0 wA:World} {v:Value} {d:Nat} {ty:TypeId} {pos:String} {af:Array Edge} {Γ rΓ:List Asn} {x y:Operand} {α:Type} {R:Rep α} {E E':TypeId}
theorem aD {t:TypeId} [SliceT P t E'] {zz:List Value} {m bytes:Nat} [ElemT P E' zz m bytes] {xs:List α} (hs:ev e x=v) (hr:(ar R E).rd wA [v] xs)
  (hn:R.sz=m) (hpos:0<m) {k:IntKind} {i:Int} (hi:ev e y=.int k i) {u:α} (h:ix xs i=some u) (hd:d<n)
  (hK:∀ b off ec,R.rd wA ec u→(∀ j c,ec[j]? = some c→wA.cell? ⟨b,off+j,none⟩=some c)→EL P n ops K rest (upd e d (.pointer (some ⟨b,off,none⟩))) w):EL P n ops K (⟨some d,.indexAddr t x y,ty,pos,af,none⟩ :: rest) e w:=by
 obtain ⟨b,off,ec,h1,h2,h3⟩:=ji (P:=P) (d:=some d) (ty:=ty) (pos:=pos) (af:=af) (t:=t) hs hr hn hpos hi h
 exact iV (h3 _) hd (hK b off ec h1 h2)
theorem aN {t:TypeId} [SliceT P t E'] {zz:List Value} {m bytes:Nat} [ElemT P E' zz m bytes] {xs:List α} (hs:ev e x=v) (hr:(ar R E).rd wA [v] xs)
  (hn:R.sz=m) (hpos:0<m) {k:IntKind} {i:Int} (hi:ev e y=.int k i) {u:α} (h:ix xs i=some u) (hd:d<n)
  (hK:∀ b off ec,R.rd wA ec u→(∀ j c,ec[j]? = some c→wA.cell? ⟨b,off+j,none⟩=some c)→QL P n ops w KQ rest (upd e d (.pointer (some ⟨b,off,none⟩)))):QL P n ops w KQ (⟨some d,.indexAddr t x y,ty,pos,af,none⟩ :: rest) e:=by
 obtain ⟨b,off,ec,h1,h2,h3⟩:=ji (P:=P) (d:=some d) (ty:=ty) (pos:=pos) (af:=af) (t:=t) hs hr hn hpos hi h
 exact kC (h3 _) hd (hK b off ec h1 h2)
theorem cR {t:TypeId} (cs:List Value) (hx:(ev e x).cells=cs.toArray) (hS:Sat w0 w Γ) (hd:d<n)
  (hK:∀ w' b,Sat w0 w' (Box b t cs :: Γ)→Ext w w'→EL P n ops K rest (upd e d (.pointer (some ⟨b,0,none⟩))) w'):EL P n ops K (⟨some d,.box t x,ty,pos,af,none⟩ :: rest) e w :=
 fun a ha=>oi rfl rfl cs (by rw [ha.eval];exact hx) hS fun w' b h1 h2=>hK w' b h1 h2 _ (ha.put hd _)
theorem bG {t:TypeId} {cs:List Value} {m bytes:Nat} [ElemT P t cs m bytes] (hS:Sat w0 w Γ) (hd:d<n)
  (hK:∀ w' b,Sat w0 w' (Box b t cs :: Γ)→Ext w w'→EL P n ops K rest (upd e d (.pointer (some ⟨b,0,none⟩))) w'):EL P n ops K (⟨some d,.alloc t,ty,pos,af,none⟩ :: rest) e w :=
 fun _ ha=>nb rfl rfl hS fun w' b h1 h2=>hK w' b h1 h2 _ (ha.put hd _)
theorem aB {t:TypeId} {z:List Value} {m bytes:Nat} [ElemT P t z m bytes] (hS:Sat w0 w Γ) {b j:Nat} (hx:ev e x=.pointer (some ⟨b,j,none⟩))
  {E:TypeId} {cs:List Value} [AtBox Γ b E cs rΓ] (vs:List Value) (hy:(ev e y).cells=vs.toArray) (hn:vs.length=m) (hl:j+m≤cs.length) (h1:vs.all (·.oneCell')=true)
  (hK:∀ w',Sat w0 w' (Box b E (cs.take j++vs++cs.drop (j+m)) :: rΓ)→EL P n ops K rest e w'):EL P n ops K (⟨none,.store t x y,ty,pos,af,none⟩ :: rest) e w :=
 fun _ ha=>mm rfl rfl hS (by rw [ha.eval];exact hx) vs (by rw [ha.eval];exact hy) hn hl h1 fun w' h1=>hK w' h1 _ ha
theorem nc {t:TypeId} {z:List Value} {m bytes:Nat} [ElemT P t z m bytes] (hn:R.sz=m) {ec:List Value} {yv:α} {xs ys:List α} {g ln cap:Nat}
  (hS:Sat w0 w (Own R ec yv :: Own (ar R E) [.slice (some ⟨g,0,none⟩) ln cap] xs :: Γ)) (k off:Nat) {i:Int} (hi:i=(k:Int)) (h:sto xs i yv=some ys) (hoff:off=k*m) (hx:ev e x=.pointer (some ⟨g,off,none⟩)) (hy:(ev e y).cells=ec.toArray)
  (hK:∀ w',Sat w0 w' (Own (ar R E) [.slice (some ⟨g,0,none⟩) ln cap] ys :: Γ)→EL P n ops K rest e w'):EL P n ops K (⟨none,.store t x y,ty,pos,af,none⟩ :: rest) e w:=by
 intro a ha
 subst hi
 unfold sto at h
 split at h
 ·rename_i h0
  obtain rfl:=Option.some.inj h
  simp only [Int.toNat_natCast] at h0 hK
  exact mn rfl rfl hn hS k off h0.2 hoff (by rw [ha.eval];exact hx) (by rw [ha.eval];exact hy) fun w' h1=>hK w' h1 _ ha
 ·cases h
theorem aE {t:TypeId} [SliceT P t E] {z:List Value} {m bytes:Nat} [ElemT P E z m bytes] (hn:R.sz=m) (hpos:0<m) (hzl:z.length=m) (hb0:0<bytes)
  {xs:List α} {ccs:List Value} {ys zs:List α} (hS:Sat w0 w (j7 R ccs ys :: Own (ar R E) [v] xs :: Γ)) (hs:ev e x=v)
  {ao:Option Addr} {ln c:Nat} (hx:ev e y=.slice ao ln c) (hm:ln=ys.length) (hnone:ao=none→c=0) (hrow:iN w ao ccs) (h:apd bytes xs ys=some zs) (hd:d<n)
  (hK:∀ w' v',Sat w0 w' (Own (ar R E) [v'] zs :: Γ)→EL P n ops K rest (upd e d v') w'):EL P n ops K (⟨some d,.call ⟨.builtin .append,#[x,y],#[t,t]⟩,ty,pos,af,none⟩ :: rest) e w:=by
 intro a ha
 unfold apd at h
 split at h
 ·rename_i hby
  obtain rfl:=Option.some.inj h
  exact mr rfl rfl hn hpos hzl hb0 hS (by rw [ha.eval];exact hs) (by rw [ha.eval];exact hx) hm hnone hrow hby fun v' w' h1=>hK w' v' h1 _ (ha.put hd _)
 ·cases h
theorem jV {t:TypeId} [SliceT P t E] {z:List Value} {m bytes:Nat} [ElemT P E z m bytes] (hn:R.sz=m) (hpos:0<m) (hzl:z.length=m) {x0:α} (hx0:∀ w,R.own w z x0 []) {i:Int} {xs:List α}
  (hl:ev e x=.int .i64 i) (hc:ev e y=.int .i64 i) (h:mk bytes x0 i=some xs) (hS:Sat w0 w Γ) (hd:d<n)
  (hK:∀ w' g k,Sat w0 w' (Own (ar R E) [.slice (some ⟨g,0,none⟩) k k] xs :: Γ)→Ext w w'→xs.length=k→EL P n ops K rest (upd e d (.slice (some ⟨g,0,none⟩) k k)) w'):EL P n ops K (⟨some d,.makeSlice t x y,ty,pos,af,none⟩ :: rest) e w:=by
 intro a ha
 unfold mk at h
 split at h
 ·rename_i h0
  obtain rfl:=Option.some.inj h
  exact nX rfl rfl hn hpos hzl hx0 (by rw [ha.eval];exact hl) (by rw [ha.eval];exact hc) i.toNat (by omega) (by omega) h0.2.1 h0.2.2 hS fun w' g h1 h2=>hK w' g _ h1 h2 (by simp) _ (ha.put hd _)
 ·cases h
theorem ay {t u:TypeId} [SliceT P t u] {z:List Value} {m bytes:Nat} [ElemT P u z m bytes] (cs:List Value) (hcs:(ev e x).cells=cs.toArray) (hl:cs.length=m) (hpos:0<m) (hzl:z.length=m) (hn:m≤16)
  (hS:Sat w0 w Γ) (hd:d<n) (hK:∀ w' b,Sat w0 w' (Box b u cs :: Γ)→Ext w w'→EL P n ops K rest (upd e d (.slice (some ⟨b,0,none⟩) 1 1)) w'):EL P n ops K (⟨some d,.buildSlice t 1 #[(0,x)],ty,pos,af,none⟩ :: rest) e w :=
 fun _ ha=>jM rfl rfl (by rw [ha.eval];exact hcs) hl hpos hzl hn hS fun w' b h1 h2=>hK w' b h1 h2 _ (ha.put hd _)
theorem bA (R:Rep α) {t:TypeId} [SliceT P t E] {z:List Value} {m bytes:Nat} [ElemT P E z m bytes] (hS:Sat w0 w Γ) (hd:d<n)
  (hK:∀ w' v,Sat w0 w' (Own (ar R E) [v] [] :: Γ)→Ext w w'→EL P n ops K rest (upd e d v) w'):EL P n ops K (⟨some d,.buildSlice t 0 #[],ty,pos,af,none⟩ :: rest) e w :=
 fun _ ha=>jr R rfl rfl hS fun w' b h1 h2=>hK w' _ h1 h2 _ (ha.put hd _)
theorem la {t:TypeId} {lo hi:Option Operand} [ht:SliceT P t E'] {z:List Value} {m bytes:Nat} [hz:ElemT P E' z m bytes] (hn:R.sz=m) {d:Option Nat}
    (hx:ev e x=v) {xs ys:List α} (hr:(ar R E).rd wA [v] xs) {l h:Int} (hlo:(lo.map (ev e)=some (.int .i64 l))∨(lo=none∧l=0)) (hhi:(hi.map (ev e)=some (.int .i64 h))∨(hi=none∧h=xs.length)) (hq:slc xs l h=some ys) :
    ∃ v',(ar R E).rd wA [v'] ys∧∀ w,PV P ⟨d,.slice t x lo hi none,ty,pos,af,none⟩ e w v':=by
  unfold slc at hq
  split at hq
  case isFalse=>cases hq
  rename_i h0
  obtain rfl:=Option.some.inj hq
  obtain ⟨l',rfl⟩:=Int.eq_ofNat_of_zero_le h0.1
  obtain ⟨h',rfl⟩:=Int.eq_ofNat_of_zero_le (Int.le_trans h0.1 h0.2.1)
  obtain ⟨_,hlh,hh⟩:=h0
  replace hlh:l'≤h':=by omega
  replace hh:h'≤xs.length:=by omega
  simp only [Int.toNat_natCast]
  obtain ⟨ao,cap,ccs,hv,h1,h2,h3,h4,h5⟩:=hr
  obtain rfl:v=.slice ao xs.length cap:=by simpa using hv
  have hz:=hz.h
  cases hq:P.info? E' with
  | none=>simp [hq] at hz
  | some inf =>
    simp [hq] at hz
    have hcap:h'≤cap:=by omega
    have hsz:inf.size=R.sz:=by rw [hn];exact hz.2.1
    have hlen:((xs.take h').drop l').length=h' - l':=by simp;omega
    have hccl:=eW h4
    have hrd:=(iC l' (iC h' h4).1).2
    refine ⟨.slice (if cap=l' then ao else ao.map (·.add (l'*inf.size))) (h' - l') (cap-l'),⟨_,cap-l',_,by rw [hlen],by rw [hlen];omega,by omega,?_,hrd,?_⟩,fun w w' _=>?_⟩
    · intro e
      split at e
      · omega
      · cases ao with
        | none=>have:=h3 rfl;omega
        | some _=>simp at e
    · by_cases hcl:cap=l'
      · left
        have:h'=l':=by omega
        subst this
        apply List.eq_nil_of_length_eq_zero
        simp
      · rw [if_neg hcl]
        rcases h5 with rfl | ⟨b,off,rfl,h5⟩
        · left;simp
        · right
          refine ⟨b,off+l'*R.sz,by rw [hsz];simp [Addr.add_lit],fun j c hj=>?_⟩
          rw [List.getElem?_drop,List.getElem?_take] at hj
          split at hj
          · rw [Nat.add_assoc];exact h5 _ c hj
          · cases hj
    · have hb:(Instr.sliceBounds true xs.length cap (lo.map (ev e)) (hi.map (ev e)) none).run P w'=.ok (l',h',cap) w':=by
        rcases hlo with e1 | ⟨e1,e1'⟩ <;> rcases hhi with e2 | ⟨e2,e2'⟩
        all_goals
          (try rw [e1]);(try rw [e2])
          first
            | (simp [Instr.sliceBounds,Instr.sliceBound,asIntOf,hcap,hlh];done)
            | (have:l'=0:=by omega
               subst this
               simp [Instr.sliceBounds,Instr.sliceBound,asIntOf,hcap,hlh];done)
            | (have:h'=xs.length:=by omega
               subst this
               simp [Instr.sliceBounds,Instr.sliceBound,asIntOf,hcap,hlh];done)
            | (have:l'=0:=by omega
               have:h'=xs.length:=by omega
               subst_vars
               simp [Instr.sliceBounds,Instr.sliceBound,asIntOf])
      unfold execOp
      simp only [hx,Instr.sliceAt,Sem.run_bind,run_underlying ht.h,Result.andThen_ok,Instr.slice,hb,sizeOf,typeInfo,hq,run_program,Sem.run_pure,Option.map_none]
theorem cJ {t:TypeId} {lo hi:Option Operand} [SliceT P t E'] {z:List Value} {m bytes:Nat} [ElemT P E' z m bytes] (hn:R.sz=m)
  (hx:ev e x=v) {xs ys:List α} (hr:(ar R E).rd wA [v] xs) {l h:Int} (hlo:(lo.map (ev e)=some (.int .i64 l))∨(lo=none∧l=0)) (hhi:(hi.map (ev e)=some (.int .i64 h))∨(hi=none∧h=xs.length)) (hq:slc xs l h=some ys) (hd:d<n)
  (hK:∀ v',(ar R E).rd wA [v'] ys→EL P n ops K rest (upd e d v') w):EL P n ops K (⟨some d,.slice t x lo hi none,ty,pos,af,none⟩ :: rest) e w:=by
 obtain ⟨v',h1,h2⟩:=la (P:=P) (d:=some d) (ty:=ty) (pos:=pos) (af:=af) (t:=t) hn hx hr hlo hhi hq
 exact iV (h2 _) hd (hK v' h1)
end
section
variable {P:Program} {fn:Func} {n:Nat} {e:Env} {w:World} {R:Ending→World→Prop}
theorem aw {t:Tmp} (h:fn.results=#[.tmp t]) {v:Value} (ht:e t=v) (hR:R (.returned v) w):Fin P fn n R .ret e w :=
 ⟨v,fun a ha=>by rw [results_tmp h,ha.get,ht],hR⟩
theorem fS {t u:Tmp} (h:fn.results=#[.tmp t,.tmp u]) {v v2:Value} (ht:e t=v) (hu:e u=v2) (hR:R (.returned (.tuple #[v,v2])) w):Fin P fn n R .ret e w :=
 ⟨_,fun a ha=>by rw [results_tmp2 h,ha.get,ha.get,ht,hu],hR⟩
theorem gG {p:Tmp} {ty:TypeId} {m:Nat} [AggT P ty m] (h:fn.results=#[.cell p ty]) {b off:Nat} {cs:List Value} (hp:e p=.pointer (some ⟨b,off,none⟩)) (hm:cs.length=m) (hc:∀ j c,cs[j]? = some c→w.cell? ⟨b,off+j,none⟩=some c) (hR:R (.returned (.agg cs.toArray)) w) :
  Fin P fn n R .ret e w:=by
 refine ⟨_,fun a ha=>?_,hR⟩
 have h1:a.tmps.getD p undef=.pointer (some ⟨b,off,none⟩):=by rw [ha.get,hp]
 have h1':a.tmps[p]?.getD undef=.pointer (some ⟨b,off,none⟩):=by simpa using h1
 simp [results,h,h1',asAddr,d3 (P:=P) (t:=ty) hm hc]
theorem iP {p t:Tmp} {ty:TypeId} {m:Nat} [AggT P ty m] (h:fn.results=#[.cell p ty,.tmp t]) {b off:Nat} {cs:List Value} {v2:Value} (hp:e p=.pointer (some ⟨b,off,none⟩)) (hm:cs.length=m) (hc:∀ j c,cs[j]? = some c→w.cell? ⟨b,off+j,none⟩=some c) (ht:e t=v2) (hR:R (.returned (.tuple #[.agg cs.toArray,v2])) w) :
  Fin P fn n R .ret e w:=by
 refine ⟨_,fun a ha=>?_,hR⟩
 have h1:a.tmps.getD p undef=.pointer (some ⟨b,off,none⟩):=by rw [ha.get,hp]
 have h1':a.tmps[p]?.getD undef=.pointer (some ⟨b,off,none⟩):=by simpa using h1
 have h2:a.tmps.getD t undef=v2:=by rw [ha.get,ht]
 have h2':a.tmps[t]?.getD undef=v2:=by simpa using h2
 simp [results,h,h1',h2',asAddr,d3 (P:=P) (t:=ty) hm hc]
theorem pH {t0:Tmp} {v0:Value} {p1:Tmp} {ty1:TypeId} {m1:Nat} [AggT P ty1 m1] {b1 off1:Nat} {cs1:List Value} (h:fn.results=#[.tmp t0,.cell p1 ty1]) (ht0:e t0=v0) (hp1:e p1=.pointer (some ⟨b1,off1,none⟩)) (hm1:cs1.length=m1) (hc1:∀ j c,cs1[j]? = some c→w.cell? ⟨b1,off1+j,none⟩=some c) (hR:R (.returned (.tuple #[v0,.agg cs1.toArray])) w):Fin P fn n R .ret e w:=by
 refine ⟨_,fun a ha=>?_,hR⟩
 have k0:a.tmps[t0]?.getD undef=v0:=by simpa using (show a.tmps.getD t0 undef=v0 by rw [ha.get,ht0])
 have k1:a.tmps[p1]?.getD undef=.pointer (some ⟨b1,off1,none⟩):=by simpa using (show a.tmps.getD p1 undef=.pointer (some ⟨b1,off1,none⟩) by rw [ha.get,hp1])
 simp [results,h,k0,k1,d3 (P:=P) (t:=ty1) hm1 hc1,asAddr]
end
end Go.Proofs.Ytdapplkijobjoaa
namespace Go.Proofs.Ytdapplkijobjoaa
open Go.RowKit

def og:Rep Bool where
 sz:=1
 rd _ cs b:=cs=[.bool b]
 own _ cs b fp:=cs=[.bool b]∧fp=[]
 rd_len h:=by subst h;rfl
 rd_one h:=by subst h;simp [Value.oneCell']
 rd_ext h _:=h
 own_rd h:=h.1
 own_ext h _:=h
 own_lt h:=by rw [h.2];simp
def u8R:Rep Int where
 sz:=1
 rd _ cs n:=cs=[.int .u8 n]
 own _ cs n fp:=cs=[.int .u8 n]∧fp=[]
 rd_len h:=by subst h;rfl
 rd_one h:=by subst h;simp [Value.oneCell']
 rd_ext h _:=h
 own_rd h:=h.1
 own_ext h _:=h
 own_lt h:=by rw [h.2];simp

def lpS {R V S:Type} (s:Sum R V) (f:R→Option S) (g:V→Option S):Option S:=match s with | .inl r=>f r | .inr v=>g v
def lpB {V S:Type} (s:V) (g:V→Option S):Option S:=g s
theorem exA {R V S:Type} {s:Sum R V} {v:V} {f:R→Option S} {g:V→Option S} {r:S} (h:some (Sum.inr v)=some s) (hK:lpS s f g=some r):g v=some r:=by cases h;exact hK
theorem exL {R V S:Type} {s:Sum R V} {q:R} {f:R→Option S} {g:V→Option S} {r:S} (h:some (Sum.inl q)=some s) (hK:lpS s f g=some r):f q=some r:=by cases h;exact hK
theorem exB {V S:Type} {s v:V} {g:V→Option S} {r:S} (h:some v=some s) (hK:lpB s g=some r):g v=some r:=by cases h;exact hK
theorem ag {α β:Type} {f:α→β} {a:α} {b:β} {l:List α} {m:List β} (h:f a=b) (t:l.map f=m):(a :: l).map f=b :: m:=by rw [List.map_cons,h,t]
theorem am {x:Bool} (h:x=true):(!x)=false:=by rw [h];rfl
theorem aq {x:Bool} (h:x=false):(!x)=true:=by rw [h];rfl

theorem cL {P:Program} {n:Nat} {ops:Array Oper} {K:Env→World→Prop} {rest:List Oper} {e:Env} {w:World} {op:Op} {ty:TypeId} {pos:String} {af:Array Edge} {j:Nat} {b':Bool} {d:Nat} (h:(match (ops[j]?).bind (·.dst) with | some t=>e t | none=>undef)=undef) (hd:d<n) (hK:EL P n ops K rest (upd e d undef) w):EL P n ops K (⟨some d,op,ty,pos,af,some (j,b')⟩ :: rest) e w:=by
 intro a ha
 have hy:yielded ops a.tmps j=none:=iD ha h
 unfold wpList
 rw [if_neg (by simp [Region.wanted,hy])]
 exact hK _ (ha.put hd _)
theorem bD {P:Program} {n:Nat} {ops:Array Oper} {KQ:Env→Prop} {rest:List Oper} {e:Env} {w:World} {op:Op} {ty:TypeId} {pos:String} {af:Array Edge} {j:Nat} {b':Bool} {d:Nat} (h:(match (ops[j]?).bind (·.dst) with | some t=>e t | none=>undef)=undef) (hd:d<n) (hK:QL P n ops w KQ rest (upd e d undef)):QL P n ops w KQ (⟨some d,op,ty,pos,af,some (j,b')⟩ :: rest) e:=by
 intro a ha
 have hy:yielded ops a.tmps j=none:=iD ha h
 unfold wpQuiet
 rw [if_neg (by simp [Region.wanted,hy])]
 exact hK _ (ha.put hd _)
theorem oc {w:World} {α:Type} {R:Rep α} {E:TypeId} {v:Value} {xs:List α} (h:(ar R E).rd w [v] xs):v.oneCell'=true:=(ar R E).rd_one h v (List.mem_singleton.2 rfl)
theorem aJ {e:Env} {x:Operand} {v:Value} (h:ev e x=v) (h1:v.oneCell'=true):(ev e x).cells=[v].toArray:=by rw [h];exact nn h1
theorem all_cons {α:Type} {p:α→Bool} {a:α} {l:List α} (h:p a=true) (t:l.all p=true):(a :: l).all p=true:=by simp [h,t]
section
variable {w w0 wA:World} {Γ rest:List Asn} {α:Type} {R:Rep α} {E:TypeId} {v:Value} {xs:List α}
theorem Sat.top (i:Nat) {A:Asn} (h:Sat w0 w Γ) (hi:Γ[i]? = some A):Sat w0 w (A :: Γ.eraseIdx i):=by
 refine h.perm ?_
 clear h
 induction Γ generalizing i with
 | nil=>simp at hi
 | cons B Γ ih =>
  cases i with
  | zero=>simp at hi;subst hi;exact .refl _
  | succ i =>
   simp at hi
   exact (List.Perm.cons B (ih i hi)).trans (.swap _ _ _)
theorem Sat.rem (i:Nat) {A:Asn} (h:Sat w0 w Γ) (hi:Γ[i]? = some A):Sat w0 w (Γ.eraseIdx i):=(h.top i hi).tail
theorem Sat.rdAt (i:Nat) {cs:List Value} {x:α} {R:Rep α} (h:Sat w0 w Γ) (hi:Γ[i]? = some (Own R cs x)):R.rd w cs x:=(h.top i hi).rd
theorem Sat.nil (R:Rep α) (E:TypeId) (h:Sat w0 w Γ):Sat w0 w (Own (ar R E) [.slice none 0 0] [] :: Γ):=h.add (.inl ⟨rfl,rfl,rfl⟩)
theorem Sat.bool (h:Sat w0 w Γ) (b:Bool):Sat w0 w (Own og [.bool b] b :: Γ):=h.add ⟨rfl,rfl⟩
theorem Sat.u8 (h:Sat w0 w Γ) (n:Int):Sat w0 w (Own u8R [.int .u8 n] n :: Γ):=h.add ⟨rfl,rfl⟩
theorem ax {cs:List Value} (h:(ar R E).rd w cs xs):∃ v,cs=[v]:=List.length_eq_one_iff.1 ((ar R E).rd_len h)
theorem c5 {cs:List Value} {x:α} (h:R.rd w0 cs x) (hx:Ext w0 w):R.rd w cs x:=R.rd_ext h hx
theorem Sat.up {cs:List Value} {x:α} (hS:Sat w0 w Γ) (h:R.rd w0 cs x):R.rd w cs x:=R.rd_ext h hS.below
theorem Sat.boxAt (i:Nat) {b:Nat} {cs:List Value} (h:Sat w0 w Γ) (hi:Γ[i]? = some (Box b E cs)):∀ j c,cs[j]? = some c→w.cell? ⟨b,j,none⟩=some c:=by
 have h2:=h.top i hi
 exact h2.boxCell
theorem aW {b:Nat} {cs:List Value} (h:∀ j c,cs[j]? = some c→w.cell? ⟨b,j,none⟩=some c):∀ j c,cs[j]? = some c→w.cell? ⟨b,0+j,none⟩=some c:=by
 intro j c hj;rw [Nat.zero_add];exact h j c hj
theorem Sat.boxRow (i:Nat) {b:Nat} {cs:List Value} (h:Sat w0 w Γ) (hi:Γ[i]? = some (Box b E cs)):iN w (some ⟨b,0,none⟩) cs :=
 .inr ⟨b,0,rfl,aW (h.boxAt i hi)⟩
theorem Sat.lit1 {b:Nat} {cs:List Value} {y:α} (h:Sat w0 w (Box b E cs :: Own R cs y :: Γ)):Sat w0 w (Own (ar R E) [.slice (some ⟨b,0,none⟩) 1 1] [y] :: Γ):=by
 refine h.join ?_
 rintro f g ⟨rfl,h1⟩ h2
 have hl:=R.rd_len (R.own_rd h2)
 refine .inr ⟨b,1,cs.toArray,cs,g,rfl,h1,by simp,by unfold maxLen;omega,by simp [hl],by simp [← hl],⟨cs,[],g,[],by simp,by simp,h2,rfl,rfl⟩,by simp⟩
theorem nw {ccs:List Value} {ys:List Int} (h:rdL bP w ccs ys):ccs=ys.map (Value.int .i64):=by
 induction ys generalizing ccs with
 | nil=>simpa [rdL] using h
 | cons y ys ih =>
  obtain ⟨ec,r,rfl,h1,h2⟩:=h
  obtain rfl:=ih h2
  have:ec=[.int .i64 y]:=h1
  rw [this];rfl
theorem jj {v:Value} {ys:List Int} (h:(ar bP E).rd w [v] ys):∃ ao c,v=.slice ao ys.length c∧(ao=none→c=0)∧iN w ao (ys.map (Value.int .i64)):=by
 obtain ⟨ao,cap,ccs,hv,h1,h2,h3,h4,h5⟩:=h
 obtain rfl:=nw h4
 exact ⟨ao,cap,by simpa using hv,h3,h5⟩
end
section
variable {P:Program} {n:Nat} {ops:Array Oper} {K:Env→World→Prop} {rest:List Oper} {e:Env} {w w0 wA:World} {v:Value} {d:Nat} {ty:TypeId} {pos:String} {af:Array Edge} {Γ rΓ:List Asn} {x y:Operand} {α:Type} {R:Rep α} {E E':TypeId}
theorem eZ {t:TypeId} {z:List Value} {m bytes:Nat} [ElemT P t z m bytes] (hn:R.sz=m) {ec:List Value} {yv:α} {xs ys:List α} {g ln cap:Nat} (hv:v=.slice (some ⟨g,0,none⟩) ln cap)
  (hS:Sat w0 w (Own R ec yv :: Own (ar R E) [v] xs :: Γ)) {i:Int} (h:sto xs i yv=some ys) (hx:ev e x=.pointer (some ⟨g,i.toNat*m,none⟩)) (hy:(ev e y).cells=ec.toArray)
  (hK:∀ w',Sat w0 w' (Own (ar R E) [v] ys :: Γ)→EL P n ops K rest e w'):EL P n ops K (⟨none,.store t x y,ty,pos,af,none⟩ :: rest) e w:=by
 subst hv
 have h0:0≤i:=by
  unfold sto at h;split at h
  ·rename_i h1;exact h1.1
  ·cases h
 exact nc hn hS i.toNat (i.toNat*m) (by omega) h rfl hx hy hK
end
class BldT (P:Program) (t:TypeId) (pl:outParam (Array (Nat × Nat))):Prop where
 h:∃ fs,P.underlying t=some (.struct fs)∧∀ w,(fs.mapM (fun f=>do pure (f.offset,← sizeOf f.type)):Sem (Array (Nat × Nat))).run P w=.ok pl w
def gY (place:Nat→Option (Nat × Nat)) (cells:List Value):List (Nat × List Value)→Option (List Value)
  | []=>some cells
  | (i,v) :: rest=>match place i with
    | none=>none
    | some (off,size)=>bif Nat.beq v.length size&&Nat.ble (off+v.length) cells.length then gY place (cells.take off++v++cells.drop (off+v.length)) rest else none
theorem ks:∀ (v:List Value) (off k:Nat) (cells:List Value),off+k+v.length≤cells.length →
  ((v.zipIdx k).foldl (fun (cs:Array Value) (c:Value × Nat)=>cs.setIfInBounds (off+c.2) c.1) cells.toArray)=(cells.take (off+k)++v++cells.drop (off+k+v.length)).toArray
 | [],off,k,cells,h=>by simp
 | x :: v,off,k,cells,h=>by
  simp only [List.length_cons] at h
  have hi:off+k<cells.length:=by omega
  simp only [List.zipIdx_cons,List.foldl_cons,List.setIfInBounds_toArray]
  rw [ks v off (k+1) (cells.set (off+k) x) (by simp;omega)]
  have e1:(cells.set (off+k) x).take (off+(k+1))=cells.take (off+k)++[x]:=by
   rw [show off+(k+1)=(off+k)+1 by omega,List.take_set,List.take_succ_eq_append_getElem hi,List.set_append_right _ _ (by simp;omega)]
   simp [show min (off+k) cells.length=off+k by omega]
  have e2:(cells.set (off+k) x).drop (off+(k+1)+v.length)=cells.drop (off+k+(x :: v).length):=by
   rw [List.drop_set_of_lt (by omega)]
   congr 1
   simp only [List.length_cons];omega
  rw [e1,e2];simp
theorem kc (place:Nat→Option (Nat × Nat)):∀ (ps:List (Nat × Value)) (qs:List (Nat × List Value)) (cells:List Value) {r:List Value},ps.map (fun p=>(p.1,p.2.cells))=qs.map (fun q=>(q.1,q.2.toArray))→gY place cells qs=some r→Instr.fill place cells.toArray ps=some r.toArray
  | [],[],cells,r,_,h=>by simp only [gY,Option.some.injEq] at h;subst h;rfl
  | [],_ :: _,_,_,h,_=>by simp at h
  | _ :: _,[],_,_,h,_=>by simp at h
  | (i,v) :: ps,(j,c) :: qs,cells,r,h,hf=>by
    simp only [List.map_cons,List.cons.injEq,Prod.mk.injEq] at h
    obtain ⟨⟨rfl,hc⟩,ht⟩:=h
    unfold gY at hf
    unfold Instr.fill
    cases hp:place i with
    | none=>simp [hp] at hf
    | some os =>
      obtain ⟨off,size⟩:=os
      simp only [hp] at hf ⊢
      cases hb:(Nat.beq c.length size&&Nat.ble (off+c.length) cells.length) with
      | false=>rw [hb] at hf;cases hf
      | true =>
        rw [hb] at hf
        simp only [Bool.and_eq_true] at hb
        have h1:=Nat.eq_of_beq_eq_true hb.1
        have h2:=Nat.le_of_ble_eq_true hb.2
        rw [hc]
        have hn:(decide (c.toArray.size≠size)||decide (off+c.toArray.size > cells.toArray.size))=false:=by simp;omega
        rw [if_neg (by simp only [hn];simp)]
        have:=ks c off 0 cells (by omega)
        simp only [Nat.add_zero] at this
        have e:c.toArray.zipIdx.foldl (fun cs (c,j)=>cs.setIfInBounds (off+j) c) cells.toArray=(cells.take off++c++cells.drop (off+c.length)).toArray:=by
          rw [← this]
          simp
        rw [e]
        exact kc place ps qs _ ht hf
theorem cY {P:Program} {e:Env} {w:World} {d:Option Nat} {ty:TypeId} {pos:String} {af:Array Edge} {t:TypeId} {z:List Value} {n bytes:Nat} {pl:Array (Nat × Nat)} [hz:ElemT P t z n bytes] [hb:BldT P t pl] {parts:Array (Nat × Operand)} (qs:List (Nat × List Value)) (r:List Value)
  (hp:parts.toList.map (fun p=>(p.1,(ev e p.2).cells))=qs.map (fun q=>(q.1,q.2.toArray))) (hf:gY (pl[·]?) z qs=some r):PV P ⟨d,.build t parts,ty,pos,af,none⟩ e w (.agg r.toArray):=fun w' _=>by
 have hz:=hz.h
 obtain ⟨fs,h1,h2⟩:=hb.h
 cases hi:P.info? t with
 | none=>simp [hi] at hz
 | some i =>
 cases hzz:i.zero with
 | none=>simp [hi,hzz] at hz
 | some zv =>
 simp [hi,hzz] at hz
 have hzc:zv.cells=z.toArray:=by rw [← hz.1]
 have hff:=kc (pl[·]?) (parts.toList.map fun p=>(p.1,ev e p.2)) qs z (by rw [List.map_map];exact hp) hf
 unfold execOp
 simp only [Instr.build,zeroValue,typeInfo,hi,hzz,Sem.run_bind,Sem.run_pure,run_program,Result.andThen_ok,run_underlying h1,h2,hzc,Array.toList_map]
 rw [hff]
 simp
theorem f4 {e:Env} {i:Nat} {x:Operand} {c:List Value} {l:List (Nat × Operand)} {m:List (Nat × List Value)} (h:(ev e x).cells=c.toArray) (t:l.map (fun p=>(p.1,(ev e p.2).cells))=m.map (fun q=>(q.1,q.2.toArray))) :
  ((i,x) :: l).map (fun p=>(p.1,(ev e p.2).cells))=((i,c) :: m).map (fun q=>(q.1,q.2.toArray)):=by
 rw [List.map_cons,List.map_cons,t,h]
end Go.Proofs.Ytdapplkijobjoaa
namespace Go.Proofs.Ytdapplkijobjoaa
-- int64
instance:PlainT Try.prog 2:=⟨_,Try.underlying2,trivial⟩
instance:ElemT Try.prog 2 [.int .i64 0] 1 8:=⟨by kernel_rfl⟩
-- int
instance:PlainT Try.prog 3:=⟨_,Try.underlying3,trivial⟩
instance:ElemT Try.prog 3 [.int .i64 0] 1 8:=⟨by kernel_rfl⟩
-- bool
instance:PlainT Try.prog 4:=⟨_,Try.underlying4,trivial⟩
instance:ElemT Try.prog 4 [.bool false] 1 1:=⟨by kernel_rfl⟩
-- uint8
instance:PlainT Try.prog 5:=⟨_,Try.underlying5,trivial⟩
instance:ElemT Try.prog 5 [.int .u8 0] 1 1:=⟨by kernel_rfl⟩
-- string
instance:PlainT Try.prog 9:=⟨_,Try.underlying9,trivial⟩
instance:ElemT Try.prog 9 [.string ByteArray.empty] 1 16:=⟨by kernel_rfl⟩
-- uintptr
instance:PlainT Try.prog 12:=⟨_,Try.underlying12,trivial⟩
instance:ElemT Try.prog 12 [.int .u64 0] 1 8:=⟨by kernel_rfl⟩
-- int32
instance:PlainT Try.prog 21:=⟨_,Try.underlying21,trivial⟩
instance:ElemT Try.prog 21 [.int .i32 0] 1 4:=⟨by kernel_rfl⟩
-- []uint8
instance:PlainT Try.prog 22:=⟨_,Try.underlying22,trivial⟩
instance:SliceT Try.prog 22 5:=⟨Try.underlying22⟩
instance:ElemT Try.prog 22 [.slice none 0 0] 1 24:=⟨by kernel_rfl⟩
-- [][]int
instance:PlainT Try.prog 24:=⟨_,Try.underlying24,trivial⟩
instance:SliceT Try.prog 24 30:=⟨Try.underlying24⟩
instance:ElemT Try.prog 24 [.slice none 0 0] 1 24:=⟨by kernel_rfl⟩
-- struct { Arity int;Rows [][]int }
instance:AggT Try.prog 25 2:=⟨⟨_,Try.underlying25,trivial⟩,by kernel_rfl⟩
instance:FldT Try.prog 25 0 0:=⟨_,_,Try.underlying25,rfl,rfl,by kernel_rfl⟩
instance:FldT Try.prog 25 1 1:=⟨_,_,Try.underlying25,rfl,rfl,by kernel_rfl⟩
instance:BldT Try.prog 25 #[(0,1),(1,1)]:=⟨_,Try.underlying25,fun w=>by kernel_rfl⟩
instance:ElemT Try.prog 25 [.int .i64 0,.slice none 0 0] 2 32:=⟨by kernel_rfl⟩
-- impl.Relation
instance:AggT Try.prog 26 2:=⟨⟨_,Try.underlying26,trivial⟩,by kernel_rfl⟩
instance:FldT Try.prog 26 0 0:=⟨_,_,Try.underlying26,rfl,rfl,by kernel_rfl⟩
instance:FldT Try.prog 26 1 1:=⟨_,_,Try.underlying26,rfl,rfl,by kernel_rfl⟩
instance:BldT Try.prog 26 #[(0,1),(1,1)]:=⟨_,Try.underlying26,fun w=>by kernel_rfl⟩
instance:ElemT Try.prog 26 [.int .i64 0,.slice none 0 0] 2 32:=⟨by kernel_rfl⟩
-- []int
instance:PlainT Try.prog 30:=⟨_,Try.underlying30,trivial⟩
instance:SliceT Try.prog 30 3:=⟨Try.underlying30⟩
instance:ElemT Try.prog 30 [.slice none 0 0] 1 24:=⟨by kernel_rfl⟩
-- []impl.FactorNode
instance:PlainT Try.prog 31:=⟨_,Try.underlying31,trivial⟩
instance:SliceT Try.prog 31 74:=⟨Try.underlying31⟩
instance:ElemT Try.prog 31 [.slice none 0 0] 1 24:=⟨by kernel_rfl⟩
-- struct { Order []int;Nodes []impl.FactorNode }
instance:AggT Try.prog 32 2:=⟨⟨_,Try.underlying32,trivial⟩,by kernel_rfl⟩
instance:FldT Try.prog 32 0 0:=⟨_,_,Try.underlying32,rfl,rfl,by kernel_rfl⟩
instance:FldT Try.prog 32 1 1:=⟨_,_,Try.underlying32,rfl,rfl,by kernel_rfl⟩
instance:BldT Try.prog 32 #[(0,1),(1,1)]:=⟨_,Try.underlying32,fun w=>by kernel_rfl⟩
instance:ElemT Try.prog 32 [.slice none 0 0,.slice none 0 0] 2 48:=⟨by kernel_rfl⟩
-- impl.Factorization
instance:AggT Try.prog 33 2:=⟨⟨_,Try.underlying33,trivial⟩,by kernel_rfl⟩
instance:FldT Try.prog 33 0 0:=⟨_,_,Try.underlying33,rfl,rfl,by kernel_rfl⟩
instance:FldT Try.prog 33 1 1:=⟨_,_,Try.underlying33,rfl,rfl,by kernel_rfl⟩
instance:BldT Try.prog 33 #[(0,1),(1,1)]:=⟨_,Try.underlying33,fun w=>by kernel_rfl⟩
instance:ElemT Try.prog 33 [.slice none 0 0,.slice none 0 0] 2 48:=⟨by kernel_rfl⟩
-- []impl.Atom
instance:PlainT Try.prog 42:=⟨_,Try.underlying42,trivial⟩
instance:SliceT Try.prog 42 112:=⟨Try.underlying42⟩
instance:ElemT Try.prog 42 [.slice none 0 0] 1 24:=⟨by kernel_rfl⟩
-- struct { VariableCount int;Atoms []impl.Atom;Output []int }
instance:AggT Try.prog 43 3:=⟨⟨_,Try.underlying43,trivial⟩,by kernel_rfl⟩
instance:FldT Try.prog 43 0 0:=⟨_,_,Try.underlying43,rfl,rfl,by kernel_rfl⟩
instance:FldT Try.prog 43 1 1:=⟨_,_,Try.underlying43,rfl,rfl,by kernel_rfl⟩
instance:FldT Try.prog 43 2 2:=⟨_,_,Try.underlying43,rfl,rfl,by kernel_rfl⟩
instance:BldT Try.prog 43 #[(0,1),(1,1),(2,1)]:=⟨_,Try.underlying43,fun w=>by kernel_rfl⟩
instance:ElemT Try.prog 43 [.int .i64 0,.slice none 0 0,.slice none 0 0] 3 56:=⟨by kernel_rfl⟩
-- impl.Query
instance:AggT Try.prog 44 3:=⟨⟨_,Try.underlying44,trivial⟩,by kernel_rfl⟩
instance:FldT Try.prog 44 0 0:=⟨_,_,Try.underlying44,rfl,rfl,by kernel_rfl⟩
instance:FldT Try.prog 44 1 1:=⟨_,_,Try.underlying44,rfl,rfl,by kernel_rfl⟩
instance:FldT Try.prog 44 2 2:=⟨_,_,Try.underlying44,rfl,rfl,by kernel_rfl⟩
instance:BldT Try.prog 44 #[(0,1),(1,1),(2,1)]:=⟨_,Try.underlying44,fun w=>by kernel_rfl⟩
instance:ElemT Try.prog 44 [.int .i64 0,.slice none 0 0,.slice none 0 0] 3 56:=⟨by kernel_rfl⟩
-- []impl.Rational
instance:PlainT Try.prog 45:=⟨_,Try.underlying45,trivial⟩
instance:SliceT Try.prog 45 114:=⟨Try.underlying45⟩
instance:ElemT Try.prog 45 [.slice none 0 0] 1 24:=⟨by kernel_rfl⟩
-- struct { Values []int;Children []int }
instance:AggT Try.prog 73 2:=⟨⟨_,Try.underlying73,trivial⟩,by kernel_rfl⟩
instance:FldT Try.prog 73 0 0:=⟨_,_,Try.underlying73,rfl,rfl,by kernel_rfl⟩
instance:FldT Try.prog 73 1 1:=⟨_,_,Try.underlying73,rfl,rfl,by kernel_rfl⟩
instance:BldT Try.prog 73 #[(0,1),(1,1)]:=⟨_,Try.underlying73,fun w=>by kernel_rfl⟩
instance:ElemT Try.prog 73 [.slice none 0 0,.slice none 0 0] 2 48:=⟨by kernel_rfl⟩
-- impl.FactorNode
instance:AggT Try.prog 74 2:=⟨⟨_,Try.underlying74,trivial⟩,by kernel_rfl⟩
instance:FldT Try.prog 74 0 0:=⟨_,_,Try.underlying74,rfl,rfl,by kernel_rfl⟩
instance:FldT Try.prog 74 1 1:=⟨_,_,Try.underlying74,rfl,rfl,by kernel_rfl⟩
instance:BldT Try.prog 74 #[(0,1),(1,1)]:=⟨_,Try.underlying74,fun w=>by kernel_rfl⟩
instance:ElemT Try.prog 74 [.slice none 0 0,.slice none 0 0] 2 48:=⟨by kernel_rfl⟩
-- struct { Digits []int }
instance:AggT Try.prog 87 1:=⟨⟨_,Try.underlying87,trivial⟩,by kernel_rfl⟩
instance:FldT Try.prog 87 0 0:=⟨_,_,Try.underlying87,rfl,rfl,by kernel_rfl⟩
instance:BldT Try.prog 87 #[(0,1)]:=⟨_,Try.underlying87,fun w=>by kernel_rfl⟩
instance:ElemT Try.prog 87 [.slice none 0 0] 1 24:=⟨by kernel_rfl⟩
-- impl.BigInt
instance:AggT Try.prog 88 1:=⟨⟨_,Try.underlying88,trivial⟩,by kernel_rfl⟩
instance:FldT Try.prog 88 0 0:=⟨_,_,Try.underlying88,rfl,rfl,by kernel_rfl⟩
instance:BldT Try.prog 88 #[(0,1)]:=⟨_,Try.underlying88,fun w=>by kernel_rfl⟩
instance:ElemT Try.prog 88 [.slice none 0 0] 1 24:=⟨by kernel_rfl⟩
-- struct { b []uint8;i int;h int }
instance:AggT Try.prog 100 3:=⟨⟨_,Try.underlying100,trivial⟩,by kernel_rfl⟩
instance:FldT Try.prog 100 0 0:=⟨_,_,Try.underlying100,rfl,rfl,by kernel_rfl⟩
instance:FldT Try.prog 100 1 1:=⟨_,_,Try.underlying100,rfl,rfl,by kernel_rfl⟩
instance:FldT Try.prog 100 2 2:=⟨_,_,Try.underlying100,rfl,rfl,by kernel_rfl⟩
instance:BldT Try.prog 100 #[(0,1),(1,1),(2,1)]:=⟨_,Try.underlying100,fun w=>by kernel_rfl⟩
instance:ElemT Try.prog 100 [.slice none 0 0,.int .i64 0,.int .i64 0] 3 40:=⟨by kernel_rfl⟩
-- spec.l1Cur
instance:AggT Try.prog 101 3:=⟨⟨_,Try.underlying101,trivial⟩,by kernel_rfl⟩
instance:FldT Try.prog 101 0 0:=⟨_,_,Try.underlying101,rfl,rfl,by kernel_rfl⟩
instance:FldT Try.prog 101 1 1:=⟨_,_,Try.underlying101,rfl,rfl,by kernel_rfl⟩
instance:FldT Try.prog 101 2 2:=⟨_,_,Try.underlying101,rfl,rfl,by kernel_rfl⟩
instance:BldT Try.prog 101 #[(0,1),(1,1),(2,1)]:=⟨_,Try.underlying101,fun w=>by kernel_rfl⟩
instance:ElemT Try.prog 101 [.slice none 0 0,.int .i64 0,.int .i64 0] 3 40:=⟨by kernel_rfl⟩
-- []string
instance:PlainT Try.prog 110:=⟨_,Try.underlying110,trivial⟩
instance:SliceT Try.prog 110 9:=⟨Try.underlying110⟩
instance:ElemT Try.prog 110 [.slice none 0 0] 1 24:=⟨by kernel_rfl⟩
-- struct { Relation string;Vars []int }
instance:AggT Try.prog 111 2:=⟨⟨_,Try.underlying111,trivial⟩,by kernel_rfl⟩
instance:FldT Try.prog 111 0 0:=⟨_,_,Try.underlying111,rfl,rfl,by kernel_rfl⟩
instance:FldT Try.prog 111 1 1:=⟨_,_,Try.underlying111,rfl,rfl,by kernel_rfl⟩
instance:BldT Try.prog 111 #[(0,1),(1,1)]:=⟨_,Try.underlying111,fun w=>by kernel_rfl⟩
instance:ElemT Try.prog 111 [.string ByteArray.empty,.slice none 0 0] 2 40:=⟨by kernel_rfl⟩
-- impl.Atom
instance:AggT Try.prog 112 2:=⟨⟨_,Try.underlying112,trivial⟩,by kernel_rfl⟩
instance:FldT Try.prog 112 0 0:=⟨_,_,Try.underlying112,rfl,rfl,by kernel_rfl⟩
instance:FldT Try.prog 112 1 1:=⟨_,_,Try.underlying112,rfl,rfl,by kernel_rfl⟩
instance:BldT Try.prog 112 #[(0,1),(1,1)]:=⟨_,Try.underlying112,fun w=>by kernel_rfl⟩
instance:ElemT Try.prog 112 [.string ByteArray.empty,.slice none 0 0] 2 40:=⟨by kernel_rfl⟩
-- struct { Num int;Den int }
instance:AggT Try.prog 113 2:=⟨⟨_,Try.underlying113,trivial⟩,by kernel_rfl⟩
instance:FldT Try.prog 113 0 0:=⟨_,_,Try.underlying113,rfl,rfl,by kernel_rfl⟩
instance:FldT Try.prog 113 1 1:=⟨_,_,Try.underlying113,rfl,rfl,by kernel_rfl⟩
instance:BldT Try.prog 113 #[(0,1),(1,1)]:=⟨_,Try.underlying113,fun w=>by kernel_rfl⟩
instance:ElemT Try.prog 113 [.int .i64 0,.int .i64 0] 2 16:=⟨by kernel_rfl⟩
-- impl.Rational
instance:AggT Try.prog 114 2:=⟨⟨_,Try.underlying114,trivial⟩,by kernel_rfl⟩
instance:FldT Try.prog 114 0 0:=⟨_,_,Try.underlying114,rfl,rfl,by kernel_rfl⟩
instance:FldT Try.prog 114 1 1:=⟨_,_,Try.underlying114,rfl,rfl,by kernel_rfl⟩
instance:BldT Try.prog 114 #[(0,1),(1,1)]:=⟨_,Try.underlying114,fun w=>by kernel_rfl⟩
instance:ElemT Try.prog 114 [.int .i64 0,.int .i64 0] 2 16:=⟨by kernel_rfl⟩
-- []bool
instance:PlainT Try.prog 120:=⟨_,Try.underlying120,trivial⟩
instance:SliceT Try.prog 120 4:=⟨Try.underlying120⟩
instance:ElemT Try.prog 120 [.slice none 0 0] 1 24:=⟨by kernel_rfl⟩
-- []impl.Table
instance:PlainT Try.prog 136:=⟨_,Try.underlying136,trivial⟩
instance:SliceT Try.prog 136 164:=⟨Try.underlying136⟩
instance:ElemT Try.prog 136 [.slice none 0 0] 1 24:=⟨by kernel_rfl⟩
-- struct { Tables []impl.Table }
instance:AggT Try.prog 137 1:=⟨⟨_,Try.underlying137,trivial⟩,by kernel_rfl⟩
instance:FldT Try.prog 137 0 0:=⟨_,_,Try.underlying137,rfl,rfl,by kernel_rfl⟩
instance:BldT Try.prog 137 #[(0,1)]:=⟨_,Try.underlying137,fun w=>by kernel_rfl⟩
instance:ElemT Try.prog 137 [.slice none 0 0] 1 24:=⟨by kernel_rfl⟩
-- impl.Database
instance:AggT Try.prog 138 1:=⟨⟨_,Try.underlying138,trivial⟩,by kernel_rfl⟩
instance:FldT Try.prog 138 0 0:=⟨_,_,Try.underlying138,rfl,rfl,by kernel_rfl⟩
instance:BldT Try.prog 138 #[(0,1)]:=⟨_,Try.underlying138,fun w=>by kernel_rfl⟩
instance:ElemT Try.prog 138 [.slice none 0 0] 1 24:=⟨by kernel_rfl⟩
-- uint
instance:PlainT Try.prog 143:=⟨_,Try.underlying143,trivial⟩
instance:ElemT Try.prog 143 [.int .u64 0] 1 8:=⟨by kernel_rfl⟩
-- []impl.Trie
instance:PlainT Try.prog 157:=⟨_,Try.underlying157,trivial⟩
instance:SliceT Try.prog 157 167:=⟨Try.underlying157⟩
instance:ElemT Try.prog 157 [.slice none 0 0] 1 24:=⟨by kernel_rfl⟩
-- struct { Name string;Relation impl.Relation }
instance:AggT Try.prog 163 3:=⟨⟨_,Try.underlying163,trivial⟩,by kernel_rfl⟩
instance:FldT Try.prog 163 0 0:=⟨_,_,Try.underlying163,rfl,rfl,by kernel_rfl⟩
instance:FldT Try.prog 163 1 1:=⟨_,_,Try.underlying163,rfl,rfl,by kernel_rfl⟩
instance:BldT Try.prog 163 #[(0,1),(1,2)]:=⟨_,Try.underlying163,fun w=>by kernel_rfl⟩
instance:ElemT Try.prog 163 [.string ByteArray.empty,.int .i64 0,.slice none 0 0] 3 48:=⟨by kernel_rfl⟩
-- impl.Table
instance:AggT Try.prog 164 3:=⟨⟨_,Try.underlying164,trivial⟩,by kernel_rfl⟩
instance:FldT Try.prog 164 0 0:=⟨_,_,Try.underlying164,rfl,rfl,by kernel_rfl⟩
instance:FldT Try.prog 164 1 1:=⟨_,_,Try.underlying164,rfl,rfl,by kernel_rfl⟩
instance:BldT Try.prog 164 #[(0,1),(1,2)]:=⟨_,Try.underlying164,fun w=>by kernel_rfl⟩
instance:ElemT Try.prog 164 [.string ByteArray.empty,.int .i64 0,.slice none 0 0] 3 48:=⟨by kernel_rfl⟩
-- impl.Trie
instance:AggT Try.prog 167 2:=⟨⟨_,Try.underlying167,trivial⟩,by kernel_rfl⟩
instance:FldT Try.prog 167 0 0:=⟨_,_,Try.underlying167,rfl,rfl,by kernel_rfl⟩
instance:FldT Try.prog 167 1 1:=⟨_,_,Try.underlying167,rfl,rfl,by kernel_rfl⟩
instance:BldT Try.prog 167 #[(0,1),(1,1)]:=⟨_,Try.underlying167,fun w=>by kernel_rfl⟩
instance:ElemT Try.prog 167 [.int .i64 0,.slice none 0 0] 2 32:=⟨by kernel_rfl⟩
-- uint32
instance:PlainT Try.prog 197:=⟨_,Try.underlying197,trivial⟩
instance:ElemT Try.prog 197 [.int .u32 0] 1 4:=⟨by kernel_rfl⟩
end Go.Proofs.Ytdapplkijobjoaa
namespace Go.Proofs.Ytdapplkijobjoaa
open Go.RowKit

def AL (P:Program) (n:Nat) (ops:Array Oper) (X:List Nat) (C:World→Prop) (K:Env→World→Prop):Nat→Array Bool→Env→World→Prop
 | 0,L,e,w=>Region.ready .any ops L=[]∧K e w
 | f+1,L,e,w=>(Region.ready .any ops L=[]→K e w) ∧
  ∀ i∈Region.ready .any ops L,∃ o,ops[i]? = some o∧EL P n ops (fun e' w'=>(X.contains i=true→C w')∧AL P n ops X C K f (L.setIfInBounds i true) e' w') [o] e w

section
variable {P:Program} {n:Nat} {ops:Array Oper} {X:List Nat} {C:World→Prop} {K:Env→World→Prop}
theorem oY {o:Oper} {a:Act} {w:World} {N N2:Act→World→Prop} {K1 K2:Env→World→Prop} (h:∀ a w,N a w→N2 a w) (hh:o.wp P a w N (nrm n K1)):o.wp P a w N2 (nrm n K2):=by
  unfold Oper.wp at *
  generalize (execOp a.eval o).run P w=r at *
  cases r with
  | ok m w' =>
    cases m <;> simp only [Oper.upon] at hh ⊢ <;>
      first
        | exact h _ _ hh
        | exact Calls.mono hh (fun e w'' he=>by
            cases e with
            | returned v=>exact h _ _ he
            | panicked ch=>exact absurd he.1 (by simp)
            | outgrown=>obtain ⟨_,_,hx,_⟩:=he;exact absurd hx (by simp))
        | exact Rows.mono hh (fun _ _ he=>h _ _ he)
  | halt x w' =>
    cases x <;> simp only [Oper.upon] at hh ⊢
    exact absurd hh.1 (by simp)
theorem mB {K:Env→World→Prop}:¬ LetsOut (nrm n K):=by
 rintro ⟨_,_,h,_⟩;exact absurd h (by simp)
theorem AL.any:∀ (f:Nat) (L:Array Bool) (e:Env) (a:Act) (w:World),Mt n e a→AL P n ops X C K f L e w→wpAny P .any ops (nrm n K) f L a w
 | 0,_,e,a,_,ha,h=>⟨h.1,rfl,e,ha,h.2⟩
 | f+1,L,e,a,w,ha,h=>by
  refine ⟨fun h0=>⟨rfl,e,ha,h.1 h0⟩,fun i hi=>?_⟩
  obtain ⟨o,ho,hE⟩:=h.2 i hi
  have:=hE a ha
  unfold wpOp
  simp only [ho]
  unfold wpList at this
  have key:∀ a w,wpList P ops (nrm n fun e' w'=>(X.contains i=true→C w')∧AL P n ops X C K f (L.setIfInBounds i true) e' w') [] a w→wpAny P .any ops (nrm n K) f (L.setIfInBounds i true) a w:=by
   rintro a w ⟨_,e',ha',_,h2⟩
   exact AL.any f _ e' a w ha' h2
  split
  ·rename_i hw
   rw [if_pos hw] at this
   rcases this with h1 | ⟨_,h1⟩
   ·exact .inl (oY key h1)
   ·exact absurd h1 mB
  ·rename_i hw
   rw [if_neg hw] at this
   exact key _ _ this
theorem dc {id:Nat} {l:List Oper} {Q:Exit→Env→World→Prop} {e:Env} {w:World} (X:List Nat) (C:World→Prop) (hm:P.follows .mixedOrders=true)
  (hx:∀ w',Ext w w'→AL P n l.toArray X C (fun e w=>Q .normal e w) l.length (Array.replicate l.length false) e w'):CW P n (.region id l.toArray true) Q e w:=by
 intro a ha
 have h2:=hx { w with drawn:=w.drawn+1 } ⟨rfl,rfl,rfl,Nat.le_refl _,fun _ _=>rfl⟩
 have:=AL.any _ _ _ a _ ha h2
 refine wp_mono (wp_region_any (Q:=nrm n fun e w=>Q .normal e w) hm (by simpa using this)) ?_
 rintro x a w ⟨rfl,e,he,hk⟩
 exact ⟨e,he,hk⟩

def SV (P:Program) (n:Nat) (ops:Array Oper) (C:World→Prop) (o:Oper) (e:Env) (v:Value):Prop :=
 ∀ a,Mt n e a→(Region.wanted o (yielded ops a.tmps)=true∧∀ w',C w'→(execOp a.eval o).run P w'=.ok (.value v) w')∨(Region.wanted o (yielded ops a.tmps)=false∧v=undef)
def hQ (ops:Array Oper) (X:List Nat) (L:Array Bool) (i:Nat) (o:Oper):Bool :=
 (List.range ops.size).all fun j=>Nat.beq j i||L.getD j true||(match ops[j]? with
  | some oj=>oj.after.any (fun e=>Region.binds .any e&&Nat.beq e.on i)||(o.apart ops oj&&X.contains j)
  | none=>true)
theorem gv {L:Array Bool} {i:Nat}:i∈Region.ready .any ops L↔L.getD i true=false∧∃ o,ops[i]? = some o∧∀ e∈o.after,Region.binds .any e=true→L.getD e.on false=true:=by
 unfold Region.ready
 simp only [List.mem_filter,List.mem_range,Bool.and_eq_true,Bool.not_eq_true']
 constructor
 ·rintro ⟨h1,h2,h3⟩
  refine ⟨h2,ops[i],Array.getElem?_eq_getElem h1,fun e he hb=>?_⟩
  rw [Array.getElem?_eq_getElem h1] at h3
  simp only [Option.map_some,Option.getD_some,Array.all_eq_true_iff_forall_mem] at h3
  have:=h3 e he
  simpa [hb] using this
 ·rintro ⟨h2,o,h1,h3⟩
  obtain ⟨hlt,rfl⟩:=Array.getElem?_eq_some_iff.1 h1
  refine ⟨hlt,h2,?_⟩
  rw [h1]
  simp only [Option.map_some,Option.getD_some,Array.all_eq_true_iff_forall_mem]
  intro e he
  by_cases hb:Region.binds .any e=true
  ·simp [h3 e he hb]
  ·simp [hb]
theorem gH {L:Array Bool} {i j:Nat} {d:Bool} (h:j≠i):(L.setIfInBounds i true).getD j d=L.getD j d:=by
 simp [Array.getElem?_setIfInBounds_ne (Ne.symm h)]
theorem lu {L:Array Bool} {i j:Nat} (h:L.getD j false=true):(L.setIfInBounds i true).getD j false=true:=by
 by_cases hj:j=i
 ·subst hj
  have:j<L.size:=by
   rcases Nat.lt_or_ge j L.size with h1 | h1
   ·exact h1
   ·simp [Array.getElem?_eq_none h1] at h
  simp [this]
 ·rw [gH hj];exact h
theorem iv {L:Array Bool} {i j:Nat} (hij:j≠i) (h:j∈Region.ready .any ops L):j∈Region.ready .any ops (L.setIfInBounds i true):=by
 obtain ⟨h1,o,h2,h3⟩:=gv.1 h
 exact gv.2 ⟨by rw [gH hij];exact h1,o,h2,fun e he hb=>lu (h3 e he hb)⟩
theorem nL (L:Array Bool) (i j:Nat):(L.setIfInBounds i true).setIfInBounds j true=(L.setIfInBounds j true).setIfInBounds i true:=by
 by_cases h:i=j
 ·subst h;rfl
 ·exact Array.setIfInBounds_comm _ _ h
theorem nG {L:Array Bool} {i j:Nat} {o:Oper} (h:hQ ops X L i o=true):hQ ops X (L.setIfInBounds j true) i o=true:=by
 unfold hQ at *
 rw [List.all_eq_true] at *
 intro k hk
 have:=h k hk
 by_cases hkj:k=j
 ·subst hkj
  have:k<ops.size:=by simpa using hk
  by_cases hkl:k<L.size
  ·simp [hkl]
  ·have hn:L[k]? = none:=Array.getElem?_eq_none (by omega)
   simp [hkl]
 ·rw [gH hkj];exact this
def oa (a:Act):Env:=fun t=>a.tmps.getD t undef
theorem pS {a:Act} (h1:a.tmps.size=n) (h2:a.defers=[]):Mt n (oa a) a:=⟨h1,h2,fun _=>rfl⟩
theorem Mt.uniq {a:Act} {e e':Env} (h:Mt n e a) (h':Mt n e' a):e=e':=by funext t;rw [← h.get,← h'.get]
theorem n4 (a:Act) (d:Option Nat) (v:Value):(a.put d v).tmps.size=a.tmps.size:=by cases d <;> simp [Act.put]
theorem oy (a:Act) (d:Option Nat) (v:Value):(a.put d v).defers=a.defers:=by cases d <;> rfl
theorem kX {a b:Act} (h:∀ t,a.tmps.getD t undef=b.tmps.getD t undef) (hs:a.tmps.size=b.tmps.size):a.tmps=b.tmps:=by
 apply Array.ext hs
 intro i h1 h2
 have:=h i
 simpa [Array.getD,h1,h2] using this
theorem nH {o:Oper} {a a':Act} {N N2:Act→World→Prop} {K1 K2:Env→World→Prop} (h:∀ u w,N (a'.put o.dst u) w→N2 (a.put o.dst u) w) (hd:∀ d u w,¬ N (({ a' with defers:=d :: a'.defers }:Act).put o.dst u) w) {r:Result Next}
    (hh:o.upon P a' N (nrm n K1) r):o.upon P a N2 (nrm n K2) r:=by
  cases r with
  | ok m w' =>
    cases m <;> simp only [Oper.upon] at hh ⊢ <;>
      first
        | exact h _ _ hh
        | exact absurd hh (hd _ _ _)
        | exact Calls.mono hh (fun e w'' he=>by
            cases e with
            | returned v=>exact h _ _ he
            | panicked ch=>exact absurd he.1 (by simp)
            | outgrown=>obtain ⟨_,_,hx,_⟩:=he;exact absurd hx (by simp))
        | exact Rows.mono hh (fun _ _ he=>h _ _ he)
  | halt x w' =>
    cases x <;> simp only [Oper.upon] at hh ⊢
    exact absurd hh.1 (by simp)
def hH (ops:Array Oper):Bool:=ops.all fun o=>match o.op with | .select ..=>false | _=>true
theorem kQ (h:hH ops=true) {i:Nat} {o:Oper} (hi:ops[i]? = some o):∀ cs b,o.op≠.select cs b:=by
 intro cs b e
 unfold hH at h
 rw [Array.all_eq_true_iff_forall_mem] at h
 have:=h o (Array.mem_of_getElem? hi)
 simp [e] at this
theorem oM (hsel:hH ops=true) (i:Nat) {o:Oper} {d:Nat} {v:Value} (hi:ops[i]? = some o) (hdst:o.dst=some d) (hdn:d<n) :
  ∀ (f:Nat) (L:Array Bool) (e:Env) (w:World),C w→hQ ops X L i o=true→i∈Region.ready .any ops L→SV P n ops C o e v→AL P n ops X C K f (L.setIfInBounds i true) (upd e d v) w→AL P n ops X C K (f+1) L e w:=by
 intro f
 induction f with
 | zero =>
  intro L e w hC hf hr hy H
  refine ⟨fun h=>(by rw [h] at hr;cases hr),fun j hj=>?_⟩
  by_cases hji:j=i
  ·subst hji
   refine ⟨o,hi,fun a ha=>?_⟩
   unfold wpList
   rcases hy a ha with ⟨hw,hv⟩ | ⟨hw,rfl⟩
   ·rw [if_pos hw]
    refine .inl ?_
    unfold Oper.wp
    rw [hv w hC]
    simp only [Oper.upon,hdst]
    exact ⟨rfl,_,ha.put hdn v,fun _=>hC,H⟩
   ·rw [if_neg (by simp [hw])]
    rw [hdst]
    exact ⟨rfl,_,ha.put hdn _,fun _=>hC,H⟩
  ·have:=iv (i:=i) hji hj
   rw [H.1] at this;cases this
 | succ f ih =>
  intro L e w hC hf hr hy H
  refine ⟨fun h=>(by rw [h] at hr;cases hr),fun j hj=>?_⟩
  by_cases hji:j=i
  ·subst hji
   refine ⟨o,hi,fun a ha=>?_⟩
   unfold wpList
   rcases hy a ha with ⟨hw,hv⟩ | ⟨hw,rfl⟩
   ·rw [if_pos hw]
    refine .inl ?_
    unfold Oper.wp
    rw [hv w hC]
    simp only [Oper.upon,hdst]
    exact ⟨rfl,_,ha.put hdn v,fun _=>hC,H⟩
   ·rw [if_neg (by simp [hw])]
    rw [hdst]
    exact ⟨rfl,_,ha.put hdn _,fun _=>hC,H⟩
  ·obtain ⟨oj,hoj,hE⟩:=H.2 j (iv hji hj)
   have hjL:=(gv.1 hj)
   have hiL:=(gv.1 hr)
   have hap:o.apart ops oj=true∧X.contains j=true:=by
    have h1:=hf
    unfold hQ at h1
    rw [List.all_eq_true] at h1
    have h2:=h1 j (by simp [(Array.getElem?_eq_some_iff.1 hoj).1])
    have hb:Nat.beq j i=false:=iB hji
    simp only [hb,hjL.1,hoj,Bool.false_or,Bool.or_eq_true,Bool.and_eq_true] at h2
    rcases h2 with h2 | h2
    ·exfalso
     obtain ⟨_,h3,h4⟩:=hjL.2
     rw [hoj] at h3;obtain rfl:=Option.some.inj h3
     rw [Array.any_eq_true'] at h2
     obtain ⟨ed,hm,h5⟩:=h2
     simp only [Bool.and_eq_true] at h5
     have h6:=h4 ed hm h5.1
     have h7:ed.on=i:=Nat.eq_of_beq_eq_true h5.2
     rw [h7] at h6
     have:=hiL.1
     cases hx:L[i]? with
     | none=>simp [Array.getD_eq_getD_getElem?,hx] at this
     | some b=>simp [Array.getD_eq_getD_getElem?,hx] at this h6;simp [this] at h6
    ·exact h2
   obtain ⟨h1,h2,h3⟩:=Oper.apart_spec hap.1
   have hso:=kQ hsel hi
   have hsj:=kQ hsel hoj
   refine ⟨oj,hoj,fun a ha=>?_⟩
   have h4:=hE _ (ha.put hdn v)
   have key:∀ u w',nrm n (fun e' w'=>(X.contains j=true→C w')∧AL P n ops X C K f ((L.setIfInBounds i true).setIfInBounds j true) e' w') .normal ((a.put (some d) v).put oj.dst u) w' →
     nrm n (fun e' w'=>(X.contains j=true→C w')∧AL P n ops X C K (f+1) (L.setIfInBounds j true) e' w') .normal (a.put oj.dst u) w':=by
    rintro u w' ⟨_,e1,he1,hc1,hA1⟩
    have hm2:Mt n (oa (a.put oj.dst u)) (a.put oj.dst u):=pS (by rw [n4,ha.size]) (by rw [oy,ha.defers])
    have hcm:(a.put (some d) v).put oj.dst u=(a.put oj.dst u).put (some d) v:=Act.put_comm a v u (fun x hx=>by
     have:=h2 d hdst
     simp only [Option.some.injEq] at hx;subst hx;exact this)
    rw [hcm] at he1
    obtain rfl:=he1.uniq (hm2.put hdn v)
    refine ⟨rfl,_,hm2,hc1,ih _ _ _ (hc1 hap.2) (nG hf) (iv (Ne.symm hji) hr) ?_ (by rw [← nL];exact hA1)⟩
    intro b hb
    have hbt:b.tmps=(a.put oj.dst u).tmps:=kX (fun t=>by rw [hb.get t];rfl) (by rw [hb.size,hm2.size])
    have hbe:b.eval=(a.put oj.dst u).eval:=by rw [hb.eval,hm2.eval]
    rw [hbt,hbe,execOp_put o hso a oj.dst u h3,wanted_put o a oj.dst u h3]
    exact hy a ha
   unfold wpList at h4 ⊢
   have hwe:=wanted_put (ops:=ops) oj a (some d) v (fun x hx=>by simp only [Option.some.injEq] at hx;subst hx;exact h1 d hdst)
   have hxe:=execOp_put oj hsj a (some d) v (fun x hx=>by simp only [Option.some.injEq] at hx;subst hx;exact h1 d hdst)
   rw [hwe] at h4
   split
   ·rename_i hw
    rw [if_pos hw] at h4
    rcases h4 with h5 | ⟨_,h5⟩
    ·refine .inl ?_
     unfold Oper.wp at h5 ⊢
     rw [hxe] at h5
     refine nH key ?_ h5
     rintro dd u w' ⟨_,e1,he1,_⟩
     have:=he1.defers
     cases hdj:oj.dst <;> simp [Act.put,hdj] at this
    ·exact absurd h5 mB
   ·rename_i hw
    rw [if_neg hw] at h4
    exact key _ _ h4
theorem dC {f:Nat} {L:Array Bool} {e:Env} {w:World} (h:Region.ready .any ops L=[]) (hK:K e w):AL P n ops X C K f L e w:=by
 cases f with
 | zero=>exact ⟨h,hK⟩
 | succ f=>exact ⟨fun _=>hK,fun i hi=>by rw [h] at hi;cases hi⟩
theorem pu (i:Nat) {f:Nat} {L:Array Bool} {e:Env} {w:World} {o:Oper} (hr:Region.ready .any ops L=[i]) (ho:ops[i]? = some o)
  (h:EL P n ops (fun e' w'=>(X.contains i=true→C w')∧AL P n ops X C K f (L.setIfInBounds i true) e' w') [o] e w):AL P n ops X C K (f+1) L e w :=
 ⟨fun h0=>(by rw [hr] at h0;cases h0),fun j hj=>by
  rw [hr] at hj
  have e:j=i:=by simpa using hj
  rw [e]
  exact ⟨o,ho,h⟩⟩
theorem aA {o:Oper} {e:Env} {v:Value} (hg:o.guard=none) (h:∀ w',C w'→PV P o e w' v):SV P n ops C o e v:=fun a ha=>.inl ⟨by simp [Region.wanted,hg],fun w' hw'=>by rw [ha.eval];exact h w' hw' w' (Ext.refl _)⟩
theorem nq (hsel:hH ops=true) (i:Nat) {o:Oper} {d:Nat} {v:Value} {f:Nat} {L:Array Bool} {e:Env} {w:World} (hi:ops[i]? = some o) (hdst:o.dst=some d) (hdn:d<n) (hC:C w) (hf:hQ ops X L i o=true) (hr:(Region.ready .any ops L).contains i=true)
  (hy:SV P n ops C o e v) (hK:AL P n ops X C K f (L.setIfInBounds i true) (upd e d v) w):AL P n ops X C K (f+1) L e w :=
 oM hsel i hi hdst hdn f L e w hC hf (by simpa using hr) hy hK
section
variable {wA:World} {v:Value} {d:Nat} {ty:TypeId} {pos:String} {af:Array Edge} {x y:Operand} {α:Type} {R:Rep α} {E E':TypeId} {f:Nat} {L:Array Bool} {e:Env} {w:World}
theorem fA (hsel:hH ops=true) (i:Nat) {t:TypeId} [SliceT P t E'] {zz:List Value} {m bytes:Nat} [ElemT P E' zz m bytes] {xs:List α} (hi':ops[i]? = some ⟨some d,.indexAddr t x y,ty,pos,af,none⟩) (hC:C w) (hf:hQ ops X L i ⟨some d,.indexAddr t x y,ty,pos,af,none⟩=true) (hrd:(Region.ready .any ops L).contains i=true)
  (hs:ev e x=v) (hr:(ar R E).rd wA [v] xs) (hn:R.sz=m) (hpos:0<m) {k:IntKind} {j:Int} (hi:ev e y=.int k j) {u:α} (h:ix xs j=some u) (hd:d<n)
  (hK:∀ b off ec,R.rd wA ec u→(∀ j c,ec[j]? = some c→wA.cell? ⟨b,off+j,none⟩=some c)→AL P n ops X C K f (L.setIfInBounds i true) (upd e d (.pointer (some ⟨b,off,none⟩))) w):AL P n ops X C K (f+1) L e w:=by
 obtain ⟨b,off,ec,h1,h2,h3⟩:=ji (P:=P) (d:=some d) (ty:=ty) (pos:=pos) (af:=af) (t:=t) hs hr hn hpos hi h
 exact nq hsel i hi' rfl hd hC hf hrd (aA rfl fun w' _=>h3 w') (hK b off ec h1 h2)
theorem hD (hsel:hH ops=true) (i:Nat) {t:TypeId} {lo hi:Option Operand} [SliceT P t E'] {z:List Value} {m bytes:Nat} [ElemT P E' z m bytes] (hi':ops[i]? = some ⟨some d,.slice t x lo hi none,ty,pos,af,none⟩) (hC:C w) (hf:hQ ops X L i ⟨some d,.slice t x lo hi none,ty,pos,af,none⟩=true) (hrd:(Region.ready .any ops L).contains i=true) (hn:R.sz=m)
  (hx:ev e x=v) {xs ys:List α} (hr:(ar R E).rd wA [v] xs) {l h:Int} (hlo:(lo.map (ev e)=some (.int .i64 l))∨(lo=none∧l=0)) (hhi:(hi.map (ev e)=some (.int .i64 h))∨(hi=none∧h=xs.length)) (hq:slc xs l h=some ys) (hd:d<n)
  (hK:∀ v',(ar R E).rd wA [v'] ys→AL P n ops X C K f (L.setIfInBounds i true) (upd e d v') w):AL P n ops X C K (f+1) L e w:=by
 obtain ⟨v',h1,h2⟩:=la (P:=P) (d:=some d) (ty:=ty) (pos:=pos) (af:=af) (t:=t) hn hx hr hlo hhi hq
 exact nq hsel i hi' rfl hd hC hf hrd (aA rfl fun w' _=>h2 w') (hK v' h1)
end
end
class FlatR {α:Type} (R:Rep α) (f:outParam (α→Value)):Prop where
 h:∀ {w:World} {cs:List Value} {x:α},R.rd w cs x→cs=[f x]
instance:FlatR bP (Value.int .i64):=⟨fun h=>h⟩
instance:FlatR u8R (Value.int .u8):=⟨fun h=>h⟩
instance:FlatR og Value.bool:=⟨fun h=>h⟩
section
variable {P:Program} {n:Nat} {ops:Array Oper} {K:Env→World→Prop} {KQ:Env→Prop} {rest:List Oper} {e:Env} {w w0:World} {v:Value} {d:Nat} {ty:TypeId} {pos:String} {af:Array Edge} {Γ:List Asn} {x y:Operand} {α:Type} {R:Rep α} {E:TypeId} {f:α→Value}
theorem Sat.ownCell (i:Nat) [hf:FlatR R f] {xs:List α} (hS:Sat w0 w Γ) (hi:Γ[i]? = some (Own (ar R E) [v] xs)) {g cap ln:Nat} (hv:v=.slice (some ⟨g,0,none⟩) ln cap) {j:Int} {u:α} (h:ix xs j=some u):w.cell? ⟨g,j.toNat*1,none⟩=some (f u):=by
 obtain ⟨k,rfl,hk,rfl⟩:=gc h
 obtain ⟨fp,ho,_⟩:=(hS.top i hi).head
 rcases ho with ⟨_,h2,_⟩ | ⟨g',cap',cur,ccs,f2,hv',hg,h1,h2,h3,h4,h5,rfl⟩
 ·subst h2;simp at hk
 subst hv
 simp at hv'
 obtain ⟨rfl,rfl,rfl⟩:=hv'
 obtain ⟨ec,hec,hcc⟩:=jB (ek h5) k hk
 obtain rfl:=hf.h hec
 have hsz:R.sz=1:=by have:=R.rd_len hec;simpa using this.symm
 have h0:=hcc 0 _ rfl
 rw [cell_of_row w g _ cur E (0,0) hg,← Array.getElem?_toList]
 rw [← h4,List.getElem?_take] at h0
 simp only [Int.toNat_natCast]
 rw [hsz] at h0
 split at h0
 ·simpa using h0
 ·cases h0
theorem cy (i:Nat) {xs:List α} (hS:Sat w0 w Γ) (hi:Γ[i]? = some (Own (ar R E) [v] xs)) {j:Int} {u:α} (h:ix xs j=some u):∃ g cap,v=.slice (some ⟨g,0,none⟩) xs.length cap:=by
 obtain ⟨k,rfl,hk,rfl⟩:=gc h
 rcases (hS.top i hi).shape with ⟨_,h2⟩ | ⟨g,cap,h⟩
 ·subst h2;simp at hk
 ·exact ⟨g,cap,h⟩
theorem b6 {d:Option Nat} {t:TypeId} [ht:SliceT P t E] {zz:List Value} {bytes:Nat} [hz:ElemT P E zz 1 bytes] {xs:List α} (hs:ev e x=v) {g cap:Nat} (hv:v=.slice (some ⟨g,0,none⟩) xs.length cap) {k:IntKind} {j:Int} (hi:ev e y=.int k j) {u:α} (h:ix xs j=some u) :
  PV P ⟨d,.indexAddr t x y,ty,pos,af,none⟩ e w (.pointer (some ⟨g,j.toNat*1,none⟩)):=fun w' _=>by
 obtain ⟨k',rfl,hk,rfl⟩:=gc h
 subst hv
 have hz:=hz.h
 cases hq:P.info? E with
 | none=>simp [hq] at hz
 | some inf =>
  simp [hq] at hz
  have hsz:inf.size=1:=hz.2.1
  unfold execOp
  simp [hs,hi,Instr.indexAt,asIntOf,run_underlying ht.h,sizeOf,typeInfo,hq,hk,Addr.add_lit,hsz]
end
end Go.Proofs.Ytdapplkijobjoaa
namespace Go.Proofs.Ytdapplkijobjoaa
theorem pV:Goes Try.prog 6:=⟨_,Try.func6,by kernel_rfl,by kernel_rfl⟩
theorem pJ:Goes Try.prog 7:=⟨_,Try.func7,by kernel_rfl,by kernel_rfl⟩
theorem pR:Goes Try.prog 8:=⟨_,Try.func8,by kernel_rfl,by kernel_rfl⟩
theorem pN:Goes Try.prog 9:=⟨_,Try.func9,by kernel_rfl,by kernel_rfl⟩
theorem pv:Goes Try.prog 10:=⟨_,Try.func10,by kernel_rfl,by kernel_rfl⟩
theorem m7:Goes Try.prog 11:=⟨_,Try.func11,by kernel_rfl,by kernel_rfl⟩
theorem o8:Goes Try.prog 12:=⟨_,Try.func12,by kernel_rfl,by kernel_rfl⟩
theorem pr:Goes Try.prog 13:=⟨_,Try.func13,by kernel_rfl,by kernel_rfl⟩
theorem iG:Goes Try.prog 14:=⟨_,Try.func14,by kernel_rfl,by kernel_rfl⟩
theorem kR:Goes Try.prog 15:=⟨_,Try.func15,by kernel_rfl,by kernel_rfl⟩
theorem jO:Goes Try.prog 16:=⟨_,Try.func16,by kernel_rfl,by kernel_rfl⟩
theorem pq:Goes Try.prog 33:=⟨_,Try.func33,by kernel_rfl,by kernel_rfl⟩
theorem pD:Goes Try.prog 34:=⟨_,Try.func34,by kernel_rfl,by kernel_rfl⟩
theorem pB:Goes Try.prog 35:=⟨_,Try.func35,by kernel_rfl,by kernel_rfl⟩
theorem pG:Goes Try.prog 36:=⟨_,Try.func36,by kernel_rfl,by kernel_rfl⟩
theorem jL:Goes Try.prog 37:=⟨_,Try.func37,by kernel_rfl,by kernel_rfl⟩
theorem pA:Goes Try.prog 38:=⟨_,Try.func38,by kernel_rfl,by kernel_rfl⟩
theorem nk:Goes Try.prog 39:=⟨_,Try.func39,by kernel_rfl,by kernel_rfl⟩
theorem mO:Goes Try.prog 40:=⟨_,Try.func40,by kernel_rfl,by kernel_rfl⟩
theorem mD:Goes Try.prog 41:=⟨_,Try.func41,by kernel_rfl,by kernel_rfl⟩
theorem kP:Goes Try.prog 42:=⟨_,Try.func42,by kernel_rfl,by kernel_rfl⟩
theorem pi:Goes Try.prog 43:=⟨_,Try.func43,by kernel_rfl,by kernel_rfl⟩
theorem pE:Goes Try.prog 44:=⟨_,Try.func44,by kernel_rfl,by kernel_rfl⟩
theorem pF:Goes Try.prog 45:=⟨_,Try.func45,by kernel_rfl,by kernel_rfl⟩
theorem mN:Goes Try.prog 46:=⟨_,Try.func46,by kernel_rfl,by kernel_rfl⟩
theorem my:Goes Try.prog 47:=⟨_,Try.func47,by kernel_rfl,by kernel_rfl⟩
theorem mV:Goes Try.prog 48:=⟨_,Try.func48,by kernel_rfl,by kernel_rfl⟩
theorem pf:Goes Try.prog 49:=⟨_,Try.func49,by kernel_rfl,by kernel_rfl⟩
theorem fG:Goes Try.prog 50:=⟨_,Try.func50,by kernel_rfl,by kernel_rfl⟩
theorem jz:Goes Try.prog 51:=⟨_,Try.func51,by kernel_rfl,by kernel_rfl⟩
theorem it:Goes Try.prog 52:=⟨_,Try.func52,by kernel_rfl,by kernel_rfl⟩
theorem kO:Goes Try.prog 56:=⟨_,Try.func56,by kernel_rfl,by kernel_rfl⟩
theorem fO:Goes Try.prog 65:=⟨_,Try.func65,by kernel_rfl,by kernel_rfl⟩
theorem iI:Goes Try.prog 67:=⟨_,Try.func67,by kernel_rfl,by kernel_rfl⟩
theorem k5:Goes Try.prog 73:=⟨_,Try.func73,by kernel_rfl,by kernel_rfl⟩
theorem o2:Goes Try.prog 74:=⟨_,Try.func74,by kernel_rfl,by kernel_rfl⟩
theorem mJ:Goes Try.prog 75:=⟨_,Try.func75,by kernel_rfl,by kernel_rfl⟩
theorem o7:Goes Try.prog 76:=⟨_,Try.func76,by kernel_rfl,by kernel_rfl⟩
theorem nl:Goes Try.prog 77:=⟨_,Try.func77,by kernel_rfl,by kernel_rfl⟩
theorem dm:Goes Try.prog 78:=⟨_,Try.func78,by kernel_rfl,by kernel_rfl⟩
theorem fH:Goes Try.prog 79:=⟨_,Try.func79,by kernel_rfl,by kernel_rfl⟩
theorem pb:Goes Try.prog 80:=⟨_,Try.func80,by kernel_rfl,by kernel_rfl⟩
theorem pn:Goes Try.prog 81:=⟨_,Try.func81,by kernel_rfl,by kernel_rfl⟩
theorem oX:Goes Try.prog 82:=⟨_,Try.func82,by kernel_rfl,by kernel_rfl⟩
theorem iJ:Goes Try.prog 83:=⟨_,Try.func83,by kernel_rfl,by kernel_rfl⟩
theorem pg:Goes Try.prog 84:=⟨_,Try.func84,by kernel_rfl,by kernel_rfl⟩
theorem pp:Goes Try.prog 85:=⟨_,Try.func85,by kernel_rfl,by kernel_rfl⟩
theorem o5:Goes Try.prog 91:=⟨_,Try.func91,by kernel_rfl,by kernel_rfl⟩
theorem gK:Goes Try.prog 108:=⟨_,Try.func108,by kernel_rfl,by kernel_rfl⟩
theorem ow:Goes Try.prog 111:=⟨_,Try.func111,by kernel_rfl,by kernel_rfl⟩
theorem lP:Goes Try.prog 112:=⟨_,Try.func112,by kernel_rfl,by kernel_rfl⟩
theorem lB:Goes Try.prog 113:=⟨_,Try.func113,by kernel_rfl,by kernel_rfl⟩
theorem oU:Goes Try.prog 114:=⟨_,Try.func114,by kernel_rfl,by kernel_rfl⟩
theorem oI:Goes Try.prog 115:=⟨_,Try.func115,by kernel_rfl,by kernel_rfl⟩
theorem oN:Goes Try.prog 118:=⟨_,Try.func118,by kernel_rfl,by kernel_rfl⟩
theorem oR:Goes Try.prog 128:=⟨_,Try.func128,by kernel_rfl,by kernel_rfl⟩
theorem jT:Goes Try.prog 129:=⟨_,Try.func129,by kernel_rfl,by kernel_rfl⟩
theorem lK:Goes Try.prog 130:=⟨_,Try.func130,by kernel_rfl,by kernel_rfl⟩
theorem oo:Goes Try.prog 135:=⟨_,Try.func135,by kernel_rfl,by kernel_rfl⟩
end Go.Proofs.Ytdapplkijobjoaa
namespace Go.Proofs.Ytdapplkijobjoaa
open Go.RowKit Go.ChangeShapes Go.WideShapes Go.ChangeAt

def kF {α:Type} (P:Program) (R:Rep α) (T:TypeId):Prop :=
 ∀ {H:Type} (enc:TypeId × Value→H) (w:World) (base:Nat) (spare:Nat→Bool) (held:Bool) (fuel:Nat) (cs:List Value) (x:DataW H × List MemPlace),DataW.trod enc P w base spare held fuel T cs=some x→∃ y,R.rd w cs y

theorem lA {α:Type} {P:Program} {R:Rep α} {T e E:TypeId} (ht:P.underlying T=some (.slice e)) (hs:P.cellsOf e=R.sz) (hpos:0<R.sz) (ho:kF P R e):kF P (ar R E) T:=by
 intro H enc w base spare held fuel cs x h
 rcases DataW.trod_slice ht h with ⟨rfl,_⟩ | ⟨a,len,cap,elems,rst,n,_,rfl,_,hb,hlc,hm,hel,hev,_⟩
 ·exact ⟨[],none,0,[],rfl,Nat.le_refl _,Nat.zero_le _,fun _=>rfl,rfl,.inl rfl⟩
 ·have hone:∀ i,i<len→∃ ec y,R.rd w ec y∧∀ j c,ec[j]? = some c→w.cell? (a.add (i*R.sz) |>.add j)=some c:=by
   intro i hi
   have h1:=hev i hi
   rw [List.getElem?_eq_getElem (by omega),hs] at h1
   obtain ⟨ec,h2,h3⟩:=Option.bind_eq_some_iff.1 h1
   obtain ⟨y,hy⟩:=ho enc w base spare held n ec _ h3
   obtain ⟨_,h4,h5⟩:=World.cells?_some h2
   exact ⟨ec,y,hy,fun j c hj=>by rw [h5 j (by have:=(List.getElem?_eq_some_iff.1 hj).1;omega)];exact hj⟩
  by_cases hl0:len=0
  ·subst hl0
   exact ⟨[],some a,cap,[],rfl,hlc,hm,by simp,rfl,.inl rfl⟩
  obtain ⟨b,off,spot⟩:=a
  have hspot:spot=none:=by
   obtain ⟨ec,y,hy,hc⟩:=hone 0 (by omega)
   have hl:=R.rd_len hy
   have h0:=hc 0 ec[0] (by simp)
   simp only [Nat.zero_mul,Addr.add,if_true] at h0
   cases spot with
   | none=>rfl
   | some s =>
    unfold World.cell? at h0
    split at h0 <;> simp at h0
  subst hspot
  have hall:∀ k,k≤len→∃ ys ccs,ys.length=k∧rdL R w ccs ys∧∀ j c,ccs[j]? = some c→w.cell? ⟨b,off+j,none⟩=some c:=by
   intro k
   induction k with
   | zero=>intro _;exact ⟨[],[],rfl,rfl,by simp⟩
   | succ k ih =>
    intro hk
    obtain ⟨ys,ccs,h1,h2,h3⟩:=ih (by omega)
    obtain ⟨ec,y,hy,hc⟩:=hone k (by omega)
    refine ⟨ys++[y],ccs++ec,by simp [h1],jI (ys:=[y]) ⟨ec,[],by simp,hy,rfl⟩ h2,fun j c hj=>?_⟩
    have hcl:=eW h2
    by_cases hj1:j<ccs.length
    ·rw [List.getElem?_append_left hj1] at hj;exact h3 j c hj
    ·rw [List.getElem?_append_right (by omega)] at hj
     have:=hc (j-ccs.length) c hj
     rw [Addr.add_lit,Addr.add_lit] at this
     rw [show off+j=off+k*R.sz+(j-ccs.length) by rw [hcl,h1] at *;omega]
     exact this
  obtain ⟨ys,ccs,h1,h2,h3⟩:=hall len (Nat.le_refl _)
  exact ⟨ys,some ⟨b,off,none⟩,cap,ccs,by rw [h1],by omega,hm,by simp,h2,.inr ⟨b,off,rfl,h3⟩⟩
def lf (n:Int):Prop:=0≤n∧n≤255
def u8F:Rep Int where
 sz:=1
 rd _ cs n:=cs=[.int .u8 n]∧lf n
 own _ cs n fp:=(cs=[.int .u8 n]∧lf n)∧fp=[]
 rd_len h:=by rw [h.1];rfl
 rd_one h:=by rw [h.1];simp [Value.oneCell']
 rd_ext h _:=h
 own_rd h:=h.1
 own_ext h _:=h
 own_lt h:=by rw [h.2];simp
theorem wf8 {n:Int} (h:(Lit.int .u8 n).wf=true):lf n:=by
 unfold Lit.wf at h
 simp only [Bool.and_eq_true,decide_eq_true_eq] at h
 exact ⟨h.1,h.2⟩
theorem mx {P:Program} {T:TypeId} (ht:P.underlying T=some (.int .u8)):kF P u8F T:=by
 intro H enc w base spare held fuel cs x h
 obtain ⟨n,rfl,_,hw⟩:=DataW.trod_int ht h
 exact ⟨n,rfl,wf8 hw⟩
theorem mv {w:World}:∀ {xs:List Int} {ccs:List Value},rdL u8F w ccs xs→rdL u8R w ccs xs∧∀ v∈xs,lf v
 | [],_,h=>⟨h,by simp⟩
 | x :: xs,_,h=>by
  obtain ⟨ec,rest,rfl,h1,h2⟩:=h
  obtain ⟨g1,g2⟩:=mv h2
  refine ⟨⟨ec,rest,rfl,h1.1,g1⟩,fun v hv=>?_⟩
  rcases List.mem_cons.1 hv with rfl | hv
  ·exact h1.2
  ·exact g2 v hv
theorem nE {E:TypeId} {w:World} {cs:List Value} {xs:List Int} (h:(ar u8F E).rd w cs xs):(ar u8R E).rd w cs xs∧∀ v∈xs,lf v:=by
 obtain ⟨ao,cap,ccs,rfl,h1,h2,h3,h4,h5⟩:=h
 obtain ⟨g1,g2⟩:=mv h4
 exact ⟨⟨ao,cap,ccs,rfl,h1,h2,h3,g1,h5⟩,g2⟩
end Go.Proofs.Ytdapplkijobjoaa
namespace Go.Proofs.Ytdapplkijobjoaa
open Go.RowKit

theorem bs {α β:Type} (a:α) (f:α→Option β):(some a).bind f=f a:=rfl
theorem aS {α:Type} {xs:List α} {i:Nat} (h:i<xs.length):ix xs (i:Int)=some xs[i]:=by
 unfold ix;rw [if_pos (by omega)];simp [h]
theorem jp {α:Type} {xs:List α} {i:Int} (h0:0≤i) (h:i<xs.length):ix xs i=some (xs[i.toNat]'(by omega)):=by
 unfold ix;rw [if_pos h0];simp
theorem gP {n:Int} (h:-4611686018427387904≤n) (h2:n≤4611686018427387904):rng n=true:=by
 unfold rng;simp only [Bool.and_eq_true,decide_eq_true_eq];omega
theorem cF {a b:Int} (h:-4611686018427387904≤a+b) (h2:a+b≤4611686018427387904):ad a b=some (a+b):=by unfold ad;rw [if_pos (gP h h2)]
theorem et {a b:Int} (h:-4611686018427387904≤a-b) (h2:a-b≤4611686018427387904):sb a b=some (a-b):=by unfold sb;rw [if_pos (gP h h2)]
theorem gx {a b:Int} (h:-4611686018427387904≤a*b) (h2:a*b≤4611686018427387904):ml a b=some (a*b):=by unfold ml;rw [if_pos (gP h h2)]
theorem ad1 {i:Nat} (h:i<1099511627776):ad (i:Int) 1=some ((i+1:Nat):Int):=by rw [cF (by omega) (by omega)];simp
theorem dlt {i n:Nat} (h:i<n):decide ((i:Int)<(n:Int))=true:=by simp;omega
theorem dge {i n:Nat} (h:¬ i<n):decide ((i:Int)<(n:Int))=false:=by simp;omega
theorem gJ {α:Type} {xs:List α} {i:Nat} {y:α} (h:i<xs.length):sto xs (i:Int) y=some (xs.set i y):=by
 unfold sto;rw [if_pos ⟨by omega,by simpa using h⟩];simp
theorem po {α:Type} {b:Nat} {xs ys:List α} (h:(xs.length+ys.length)*b≤140737488355328):apd b xs ys=some (xs++ys):=by unfold apd;rw [if_pos h]
theorem di {α:Type} {b:Nat} {xs ys:List α} (hb:b≤64) (h:xs.length+ys.length≤2199023255552):apd b xs ys=some (xs++ys):=by
 refine po (Nat.le_trans (Nat.mul_le_mul h hb) (by omega))
theorem n9 {α:Type} {b:Nat} {z:α} {n:Nat} (hb:b≤64) (h:n≤2199023255552):mk b z (n:Int)=some (List.replicate n z):=by
 unfold mk;rw [if_pos ⟨by omega,by simpa using Nat.le_trans (Nat.mul_le_mul h hb) (by omega),by simp;omega⟩];simp
theorem gN {α:Type} {xs:List α} {lo hi:Nat} (h1:lo≤hi) (h2:hi≤xs.length):slc xs (lo:Int) (hi:Int)=some ((xs.take hi).drop lo):=by
 unfold slc;rw [if_pos ⟨by omega,by omega,by omega⟩];simp

def dM {σ R:Type} (st:Nat→σ→Sum R σ):Nat→Nat→σ→Sum R σ
 | 0,_,s=>.inr s
 | n+1,i,s=>match st i s with
  | .inl r=>.inl r
  | .inr s'=>dM st n (i+1) s'
theorem pY {σ R V:Type} (L:Nat→σ→Int→Option (Sum R V)) (n:Nat) (hn:n<1099511627776) (st:Nat→σ→Sum R σ) (fin:σ→V) (I:Nat→σ→Prop)
  (hstep:∀ k i s,i<n→I i s→L (k+1) s (i:Int)=(match st i s with | .inl r=>some (.inl r) | .inr s'=>L k s' ((i+1:Nat):Int))∧∀ s',st i s=.inr s'→I (i+1) s')
  (hend:∀ k s,I n s→L (k+1) s (n:Int)=some (.inr (fin s))) :
  ∀ k i s,i≤n→n-i<k→I i s→L k s (i:Int)=some (match dM st (n-i) i s with | .inl r=>.inl r | .inr s'=>.inr (fin s')):=by
 intro k
 induction k with
 | zero=>intro i s hi hk;omega
 | succ k ih =>
  intro i s hi hk hI
  by_cases h:i<n
  ·obtain ⟨h1,h2⟩:=hstep k i s h hI
   rw [h1,show n-i=(n-(i+1))+1 by omega,dM]
   cases hs:st i s with
   | inl r=>rfl
   | inr s'=>exact ih (i+1) s' (by omega) (by omega) (h2 s' hs)
  ·obtain rfl:i=n:=by omega
   rw [hend k s hI,Nat.sub_self,dM]
theorem kG {σ V:Type} (L:Nat→σ→Int→Option V) (n:Nat) (hn:n<1099511627776) (st:Nat→σ→σ) (fin:σ→V) (I:Nat→σ→Prop)
  (hstep:∀ k i s,i<n→I i s→L (k+1) s (i:Int)=L k (st i s) ((i+1:Nat):Int)∧I (i+1) (st i s))
  (hend:∀ k s,I n s→L (k+1) s (n:Int)=some (fin s)) :
  ∀ k i s,i≤n→n-i<k→I i s→L k s (i:Int)=some (fin ((List.range' i (n-i)).foldl (fun s i=>st i s) s)):=by
 intro k
 induction k with
 | zero=>intro i s hi hk;omega
 | succ k ih =>
  intro i s hi hk hI
  by_cases h:i<n
  ·obtain ⟨h1,h2⟩:=hstep k i s h hI
   rw [h1,show n-i=(n-(i+1))+1 by omega,List.range'_succ,List.foldl_cons]
   exact ih (i+1) _ (by omega) (by omega) h2
  ·obtain rfl:i=n:=by omega
   rw [hend k s hI,Nat.sub_self];rfl
theorem gr {R V:Type} (L:Nat→Int→Option (Sum R V)) (n:Nat) (hn:n<1099511627776) (b:R) (p:Nat→Bool) (v:V)
  (hstep:∀ k i,i<n→L (k+1) (i:Int)=bif p i then L k ((i+1:Nat):Int) else some (.inl b))
  (hend:∀ k,L (k+1) (n:Int)=some (.inr v)) :
  ∀ k i,i≤n→n-i<k→L k (i:Int)=some (bif (List.range' i (n-i)).all p then .inr v else .inl b):=by
 intro k
 induction k with
 | zero=>intro i hi hk;omega
 | succ k ih =>
  intro i hi hk
  by_cases h:i<n
  ·rw [hstep k i h,show n-i=(n-(i+1))+1 by omega,List.range'_succ,List.all_cons]
   cases hp:p i with
   | true=>rw [cond_true,Bool.true_and];exact ih (i+1) (by omega) (by omega)
   | false=>rfl
  ·obtain rfl:i=n:=by omega
   rw [hend k,Nat.sub_self];rfl
theorem gt {α:Type} (xs:List α) (p:α→Bool) (q:Nat→Bool) (h:∀ i (hi:i<xs.length),q i=p xs[i]):(List.range' 0 xs.length).all q=xs.all p:=by
 rw [Bool.eq_iff_iff,List.all_eq_true,List.all_eq_true]
 constructor
 ·intro hq x hx
  obtain ⟨i,hi,rfl⟩:=List.getElem_of_mem hx
  rw [← h i hi];exact hq i (by simp;omega)
 ·intro hp i hi
  have hi':i<xs.length:=by simpa using hi
  rw [h i hi'];exact hp _ (List.getElem_mem hi')
theorem nu {α:Type} [DecidableEq α] {xs ys:List α} (hl:xs.length=ys.length) (q:Nat→Bool) (h:∀ i (hi:i<xs.length),q i=decide (xs[i]=ys[i]'(by omega))):(List.range' 0 xs.length).all q=decide (xs=ys):=by
 rw [Bool.eq_iff_iff,List.all_eq_true,decide_eq_true_iff]
 constructor
 ·intro hq
  refine List.ext_getElem hl fun i h1 h2=>?_
  have:=hq i (by simp;omega)
  rw [h i h1] at this
  exact of_decide_eq_true this
 ·rintro rfl i hi
  have hi':i<xs.length:=by simpa using hi
  rw [h i hi'];simp

section
variable {α:Type}
def hP (p:α→Prop) (m:Nat) (xs:List α):Prop:=xs.length≤m∧∀ x∈xs,p x

end
theorem kH (x y:Int):(x != y)=!decide (x=y):=by by_cases h:x=y <;> simp [h]
theorem e8 (x y:Int):(x == y)=decide (x=y):=by by_cases h:x=y <;> simp [h]
end Go.Proofs.Ytdapplkijobjoaa
namespace Go.Proofs.Ytdapplkijobjoaa
open Go.RowKit Go.ChangeShapes Go.WideShapes Go.ChangeAt
theorem nY:ownKnob Try.prog.godebug=none:=by kernel_rfl
theorem nz:laidOutB Try.prog=true:=by kernel_rfl
theorem m9 {α:Type} {R:Rep α} {E:TypeId} {p:α→Prop} (h:∀ {w:World} {cs:List Value} {x:α},R.rd w cs x→p x) {w:World} {cs:List Value} {xs:List α} (hr:(ar R E).rd w cs xs):hP p 9223372036854775807 xs:=by
 obtain ⟨ao,cap,ccs,rfl,h1,h2,h3,h4,h5⟩:=hr
 refine ⟨by unfold maxLen at h2;omega,fun x hx=>?_⟩
 obtain ⟨j,hj,rfl⟩:=List.getElem_of_mem hx
 obtain ⟨ec,h6,_⟩:=jB h4 j hj
 exact h h6
theorem nS:kF Try.prog (ar u8F 5) 22:=lA Try.underlying22 (by kernel_rfl) (by decide) (mx Try.underlying5)
theorem pO {w:World} {cs:List Value} {x:List Int} (h:((ar u8R 5)).rd w cs x):(hP (fun _=>True) 9223372036854775807) x:=m9 (fun _=>trivial) h
end Go.Proofs.Ytdapplkijobjoaa
namespace Go.Proofs.Ytdapplkijobjoaa
open Go.RowKit

theorem Sat.splitp {w0 w:World} {A B C:Asn} {Γ:List Asn} (h:Sat w0 w (A :: Γ)) (k:∀ f,A.holds w f→∃ p q,(p++q).Perm f∧B.holds w p∧C.holds w q):Sat w0 w (B :: C :: Γ):=by
 obtain ⟨hb,_,⟨f1,f2,rfl,h1,h2⟩,hn,h3⟩:=h
 obtain ⟨p,q,hp,k1,k2⟩:=k f1 h1
 have hpp:(p++(q++f2)).Perm (f1++f2):=by rw [← List.append_assoc];exact List.Perm.append_right _ hp
 exact ⟨hb,p++(q++f2),⟨p,q++f2,rfl,k1,q,f2,rfl,k2,h2⟩,hpp.nodup_iff.2 hn,fun b hb'=>h3 b (hpp.mem_iff.1 hb')⟩
theorem Sat.joinp {w0 w:World} {A B C:Asn} {Γ:List Asn} (h:Sat w0 w (A :: B :: Γ)) (k:∀ f g,A.holds w f→B.holds w g→∃ p,p.Perm (f++g)∧C.holds w p):Sat w0 w (C :: Γ):=by
 obtain ⟨hb,_,⟨f1,_,rfl,h1,f2,f3,rfl,h2,h4⟩,hn,h3⟩:=h
 obtain ⟨p,hp,k1⟩:=k f1 f2 h1 h2
 have hpp:(p++f3).Perm (f1++(f2++f3)):=by rw [← List.append_assoc];exact List.Perm.append_right _ hp
 exact ⟨hb,p++f3,⟨p,f3,rfl,k1,h4⟩,hpp.nodup_iff.2 hn,fun b hb'=>h3 b (hpp.mem_iff.1 hb')⟩
section
variable {α β:Type} {R:Rep α} {S:Rep β} {w0 w:World} {Γ:List Asn} {E:TypeId} {v:Value}
def nR (R:Rep α) (E:TypeId) (v:Value) (xs:List α) (i:Nat) (ec:List Value):Asn where
 holds w fp:=(∀ b∈fp,b<w.heap.size)∧∀ w' y f',(∀ b∈fp,w'.heap[b]? = w.heap[b]?)→R.own w' ec y f'→∃ p,p.Perm (f'++fp)∧(ar R E).own w' [v] (xs.set i y) p
 ext h he:=by
  refine ⟨fun b hb=>?_,fun w'' y f' he' ho=>h.2 w'' y f' (fun b hb=>(he' b hb).trans (he b hb)) ho⟩
  have h1:=h.1 b hb
  have h2:=he b hb
  rw [Array.getElem?_eq_getElem h1] at h2
  exact (Array.getElem?_eq_some_iff.1 h2).1
 lt h:=h.1
theorem j3 {w:World}:∀ {xs:List α} {ccs:List Value} {f:List Nat},dG R w ccs xs f→∀ (k:Nat) (hk:k<xs.length),
  ∃ ec f1 f2 f3,R.own w ec xs[k] f2∧f=f1++(f2++f3)∧(∀ j c,ec[j]? = some c→ccs[k*R.sz+j]? = some c) ∧
   ∀ w' y f',(∀ b∈f1++f3,w'.heap[b]? = w.heap[b]?)→R.own w' ec y f'→dG R w' ccs (xs.set k y) (f1++(f'++f3))
 | [],_,_,_,k,hk=>absurd hk (by simp)
 | x :: xs,_,_,h,k,hk=>by
  obtain ⟨ec,rest,f1,f2,rfl,rfl,h1,h2⟩:=h
  cases k with
  | zero =>
   refine ⟨ec,[],f1,f2,h1,rfl,fun j c hj=>?_,fun w' y f' he ho=>?_⟩
   ·have hlt:j<ec.length:=(List.getElem?_eq_some_iff.1 hj).1
    rw [Nat.zero_mul,Nat.zero_add,List.getElem?_append_left hlt];exact hj
   ·exact ⟨ec,rest,f',f2,rfl,rfl,ho,el h2 fun b hb=>he b (by simpa using hb)⟩
  | succ k =>
   obtain ⟨ec',g1,g2,g3,k1,rfl,k3,k4⟩:=j3 h2 k (by simpa using hk)
   refine ⟨ec',f1++g1,g2,g3,by simpa using k1,by simp,fun j c hj=>?_,fun w' y f' he ho=>?_⟩
   ·have e:(k+1)*R.sz+j=ec.length+(k*R.sz+j):=by rw [R.rd_len (R.own_rd h1),Nat.add_mul];omega
    rw [e,List.getElem?_append_right (by omega),Nat.add_sub_cancel_left]
    exact k3 j c hj
   ·refine ⟨ec,rest,f1,g1++(f'++g3),rfl,by simp,R.own_ext h1 fun b hb=>he b (by simp [hb]),k4 w' y f' (fun b hb=>he b ?_) ho⟩
    rcases List.mem_append.1 hb with h | h
    ·simp [h]
    ·simp [h]
end
end Go.Proofs.Ytdapplkijobjoaa
namespace Go.Proofs.Ytdapplkijobjoaa
open Go.RowKit

theorem Sat.rebase {a b w:World} {Γ:List Asn} (h:Sat b w Γ) (hx:Ext a b):Sat a w Γ:=by
 obtain ⟨hb,fp,h1,h2,h3⟩:=h
 exact ⟨Ext.trans hx hb,fp,h1,h2,fun x hx'=>Nat.le_trans hx.size (h3 x hx')⟩
theorem Sat.drop {w0 w:World} {Γ Δ:List Asn} (h:Sat w0 w (Γ++Δ)):Sat w0 w Δ:=by
 induction Γ with
 | nil=>simpa using h
 | cons A Γ ih=>exact ih h.tail
def roR {α:Type} (W:World) (R:Rep α):Rep α where
 sz:=R.sz
 rd _ cs x:=R.rd W cs x
 own _ cs x fp:=R.rd W cs x∧fp=[]
 rd_len h:=R.rd_len h
 rd_one h:=R.rd_one h
 rd_ext h _:=h
 own_rd h:=h.1
 own_ext h _:=h
 own_lt h:=by rw [h.2];simp
section
variable {α:Type} {R:Rep α} {W w w0 w':World} {E:TypeId} {Γ:List Asn} {v:Value} {xs:List α}
theorem mS (hx:Ext W w):∀ {xs:List α} {ccs:List Value},rdL (roR W R) w ccs xs→rdL R w ccs xs
 | [],_,h=>h
 | x :: xs,_,h=>by
  obtain ⟨ec,rest,rfl,h1,h2⟩:=h
  exact ⟨ec,rest,rfl,R.rd_ext h1 hx,mS hx h2⟩
theorem pQ {cs:List Value} (hx:Ext W w) (h:(ar (roR W R) E).rd w cs xs):(ar R E).rd w cs xs:=by
 obtain ⟨ao,cap,ccs,h1,h2,h3,h4,h5,h6⟩:=h
 exact ⟨ao,cap,ccs,h1,h2,h3,h4,mS hx h5,h6⟩
theorem Sat.roOne {cs:List Value} {x:α} (hS:Sat w0 w Γ) (h:R.rd W cs x):Sat w0 w (Own (roR W R) cs x :: Γ):=hS.add ⟨h,rfl⟩
end

def cU (a b:Int):Int:=IntKind.i64.wrap ((BitVec.ofInt IntKind.i64.bits a &&& BitVec.ofInt IntKind.i64.bits b).toNat)
def eb (a b:Int):Int:=IntKind.i64.wrap ((BitVec.ofInt IntKind.i64.bits a ^^^ BitVec.ofInt IntKind.i64.bits b).toNat)
def sr (a b:Int):Option Int:=if 0≤b then some (a.fdiv (2 ^ (min b.toNat IntKind.i64.bits))) else none
section
variable {P:Program} {e:Env} {w:World} {d:Option Nat} {ty:TypeId} {pos:String} {af:Array Edge} {x y:Operand}
theorem lc {t u:TypeId} {a b:Int} (hx:ev e x=.int .i64 a) (hy:ev e y=.int .i64 b):PV P ⟨d,.binOp .and t x y u,ty,pos,af,none⟩ e w (.int .i64 (cU a b)):=fun w' _=>by
 unfold execOp cU;simp [hx,hy,eqGuard,binOp,Op.intBits]
theorem ph {t u:TypeId} {a b:Int} (hx:ev e x=.int .i64 a) (hy:ev e y=.int .i64 b):PV P ⟨d,.binOp .xor t x y u,ty,pos,af,none⟩ e w (.int .i64 (eb a b)):=fun w' _=>by
 unfold execOp eb;simp [hx,hy,eqGuard,binOp,Op.intBits]
theorem mM {t u:TypeId} {k2:IntKind} {a b c:Int} (hx:ev e x=.int .i64 a) (hy:ev e y=.int k2 b) (h:sr a b=some c):PV P ⟨d,.binOp .shr t x y u,ty,pos,af,none⟩ e w (.int .i64 c):=fun w' _=>by
 unfold sr at h
 split at h
 ·rename_i h0
  obtain rfl:=Option.some.inj h
  have h1:¬ b<0:=by omega
  unfold execOp;simp [hx,hy,eqGuard,binOp,Op.shift,h1]
 ·cases h
instance flat_str:FlatR qn (fun s=>.string s):=⟨fun h=>h.1⟩
end
theorem kg:∀ (vs:List Value) (i:Nat) (cells:List Value),cells.length=i+vs.length→gY (fun i=>some (i*1,1)) cells ((vs.zipIdx i).map fun p=>(p.2,[p.1]))=some (cells.take i++vs)
 | [],i,cells,h=>by
  simp only [List.length_nil,Nat.add_zero] at h
  show some cells=some (cells.take i++[])
  rw [List.append_nil,List.take_of_length_le (by omega)]
 | v :: vs,i,cells,h=>by
  simp only [List.length_cons] at h
  have e1:i*1=i:=Nat.mul_one i
  simp only [List.zipIdx_cons,List.map_cons,gY,List.length_singleton,e1]
  rw [show Nat.beq 1 1=true from rfl,Bool.true_and]
  have hb:Nat.ble (i+1) cells.length=true:=by rw [Nat.ble_eq];omega
  rw [hb,cond_true,kg vs (i+1) _ (by simp;omega)]
  congr 1
  rw [List.take_append_of_le_length (by simp;omega),List.take_of_length_le (by simp;omega)]
  simp
section
variable {P:Program} {n:Nat} {ops:Array Oper} {K:Env→World→Prop} {rest:List Oper} {e:Env} {w w0:World} {d:Nat} {ty:TypeId} {pos:String} {af:Array Edge} {Γ:List Asn} {E:TypeId} {α:Type} {R:Rep α}
theorem fz {t:TypeId} [ht:SliceT P t E] {z:List Value} {bytes:Nat} [hz:ElemT P E z 1 bytes] {parts:Array (Nat × Operand)} {k:Nat} (vs:List Value) {xs:List α} (hsz:R.sz=1) (hk:vs.length=k) (hxl:xs.length=k) (hk1:Nat.ble k 16777216=true)
  (hp:parts.toList.map (fun p=>(p.1,(ev e p.2).cells))=((vs.zipIdx 0).map fun p=>(p.2,[p.1].toArray))) (hown:∀ w,dG R w vs xs []) (hS:Sat w0 w Γ) (hd:d<n)
  (hK:∀ w' v,Sat w0 w' (Own (ar R E) [v] xs :: Γ)→Ext w w'→EL P n ops K rest (upd e d v) w'):EL P n ops K (⟨some d,.buildSlice t k parts,ty,pos,af,none⟩ :: rest) e w:=by
 intro a ha
 refine wpList_plain rfl fun K' hK'=>?_
 have hz:=hz.h
 cases hi:P.info? E with
 | none=>simp [hi] at hz
 | some i =>
 cases hzz:i.zero with
 | none=>simp [hi,hzz] at hz
 | some zv =>
 simp [hi,hzz] at hz
 obtain ⟨hz1,hz2,hz3⟩:=hz
 have hk':¬ (k*1 > 2 ^ 24):=by have:=Nat.le_of_ble_eq_true hk1;omega
 have hfill:∀ A:Array Value,A.size=k→Instr.fill (fun i=>some (i*1,1)) A (parts.toList.map fun p=>(p.1,ev e p.2))=some vs.toArray:=by
  intro A hA
  have:=kc (fun i=>some (i*1,1)) (parts.toList.map fun p=>(p.1,ev e p.2)) ((vs.zipIdx 0).map fun p=>(p.2,[p.1])) A.toList (r:=vs) (by
   rw [List.map_map,List.map_map];exact hp) (by rw [kg vs 0 A.toList (by simp;omega)];simp)
  simpa using this
 have hr:(Instr.buildSlice t k (parts.map fun p=>(p.1,ev e p.2))).run P w=.ok (.slice (some ⟨w.heap.size,0,none⟩) k k) (w.alloc (.cells vs.toArray E)):=by
  unfold Instr.buildSlice
  simp only [run_underlying ht.h,sizeOf,typeInfo,hi,hz2,Sem.run_bind,Sem.run_pure,run_program,Result.andThen_ok,if_neg hk',Sem.run_ite,Array.toList_map]
  by_cases h0:k*1=0
  ·simp only [h0,if_true,Sem.run_pure,Result.andThen_ok]
   have hk0:k=0:=by omega
   rw [hfill _ (by simp;omega)]
   simp [newRow,hk0]
  ·simp only [h0,if_false,zeroValue,typeInfo,hi,hzz,Sem.run_bind,Sem.run_pure,run_program,Result.andThen_ok]
   rw [hfill _ (by simp)]
   simp [newRow]
 unfold Oper.wp execOp
 simp only [ha.eval,hr,Sem.run_bind,Sem.run_pure,Result.andThen_ok,Oper.upon_value]
 refine hK' _ _ (hK _ _ ?_ (d8 _ _) _ (ha.put hd _))
 refine (hS.box E vs).conv fun f hf=>?_
 obtain ⟨rfl,hf⟩:=hf
 have h2:=Nat.le_of_ble_eq_true hk1
 exact .inr ⟨w.heap.size,k,vs.toArray,vs,[],by rw [hxl],hf,by omega,by unfold maxLen;omega,by simp [hsz,hk],by rw [hsz,hxl,Nat.mul_one];exact List.take_of_length_le (by simp;omega),hown _,by simp⟩
theorem jh (xs:List Int) (w:World):dG bP w (xs.map (Value.int .i64)) xs []:=by
 induction xs with
 | nil=>exact ⟨rfl,rfl⟩
 | cons x xs ih=>exact ⟨[.int .i64 x],_,[],[],rfl,rfl,⟨rfl,rfl⟩,ih⟩
end
theorem l5 {w W:World} {b o:Nat} (h:w.heap[b]? = W.heap[b]?):w.cell? ⟨b,o,none⟩=W.cell? ⟨b,o,none⟩:=by
 unfold World.cell?;simp [h]
section
variable {α:Type} {R:Rep α} {w0 w:World} {Γ:List Asn} {E:TypeId} {v:Value}
def iT (R:Rep α) (E:TypeId) (v:Value) (xs:List α) (i:Nat) (ec:List Value) (g m:Nat):Asn where
 holds w fp:=(nR R E v xs i ec).holds w fp∧g∈fp∧∀ j c,ec[j]? = some c→w.cell? ⟨g,i*m+j,none⟩=some c
 ext h he:=⟨(nR R E v xs i ec).ext h.1 he,h.2.1,fun j c hj=>by rw [l5 (he g h.2.1)];exact h.2.2 j c hj⟩
 lt h:=(nR R E v xs i ec).lt h.1
theorem Sat.takeOutC {xs:List α} {m:Nat} {i:Int} {u:α} (hS:Sat w0 w (Own (ar R E) [v] xs :: Γ)) (h:ix xs i=some u) (hn:R.sz=m) :
  ∃ g cap ec,v=.slice (some ⟨g,0,none⟩) xs.length cap∧R.rd w ec u∧Sat w0 w (Own R ec u :: iT R E v xs i.toNat ec g m :: Γ):=by
 obtain ⟨k,rfl,hk,rfl⟩:=gc h
 subst hn
 obtain ⟨fp,ho,_⟩:=hS.head
 rcases ho with ⟨_,h2,_⟩ | ⟨g,cap,cur,ccs,fe,hv,hg,h1,h2,h3,h4,h5,rfl⟩
 ·subst h2;simp at hk
 obtain ⟨ec,f1,f2,f3,k1,rfl,k3,k4⟩:=j3 h5 k hk
 have hv:v=.slice (some ⟨g,0,none⟩) xs.length cap:=by simpa using hv
 have hm:∀ j c,ec[j]? = some c→w.cell? ⟨g,(k:Int).toNat*R.sz+j,none⟩=some c:=fun j c hj=>by
  have e2:=k3 j c hj
  simp only [Int.toNat_natCast]
  rw [cell_of_row w g _ cur E (0,0) hg,← Array.getElem?_toList]
  rw [← h4,List.getElem?_take] at e2
  split at e2
  ·exact e2
  ·cases e2
 refine ⟨g,cap,ec,hv,R.own_rd k1,?_⟩
 have hrl:=R.rd_len (R.own_rd k1)
 clear k1 k3 k4 h5 h4 h3 h2 h1 hg
 subst hv
 refine hS.splitp fun f hf=>?_
 rcases hf with ⟨_,h2,_⟩ | ⟨g',cap',cur,ccs,fe,hv,hg,h1,h2,h3,h4,h5,rfl⟩
 ·subst h2;simp at hk
 obtain ⟨rfl,rfl⟩:g=g'∧cap=cap':=by simpa using hv
 obtain ⟨ec',f1,f2,f3,k1,rfl,k3,k4⟩:=j3 h5 k hk
 have hec:ec=ec':=by
  refine List.ext_getElem (by rw [hrl,R.rd_len (R.own_rd k1)]) fun j hj1 hj2=>?_
  have e1:=hm j ec[j] (List.getElem?_eq_getElem hj1)
  have e2:=k3 j ec'[j] (List.getElem?_eq_getElem hj2)
  simp only [Int.toNat_natCast] at e1
  rw [cell_of_row w g _ cur E (0,0) hg,← Array.getElem?_toList] at e1
  rw [← h4,List.getElem?_take] at e2
  split at e2
  ·rw [e1] at e2;exact Option.some.inj e2
  ·cases e2
 subst hec
 refine ⟨f2,g :: (f1++f3),?_,k1,⟨⟨fun b hb=>?_,fun w' y f' he ho=>⟨g :: (f1++(f'++f3)),?_,.inr ⟨g,cap,cur,ccs,_,by simp,by rw [he g (by simp)];exact hg,by simpa using h1,h2,h3,by simpa using h4,by
  simp only [Int.toNat_natCast]
  exact k4 w' y f' (fun b hb=>he b (List.mem_cons_of_mem _ hb)) ho,rfl⟩⟩⟩,List.mem_cons_self,hm⟩⟩
 ·refine List.perm_middle.trans (.cons _ ?_)
  rw [← List.append_assoc,← List.append_assoc]
  exact List.Perm.append_right _ List.perm_append_comm
 ·rcases List.mem_cons.1 hb with rfl | hb
  ·exact (Array.getElem?_eq_some_iff.1 hg).1
  ·refine fv h5 b ?_
   rcases List.mem_append.1 hb with h | h <;> simp [h]
 ·refine .trans (.cons _ ?_) List.perm_middle.symm
  rw [← List.append_assoc,← List.append_assoc]
  exact List.Perm.append_right _ List.perm_append_comm
theorem Sat.putBackC {xs ys:List α} {i:Int} {y:α} {ec:List Value} {g m:Nat} (hS:Sat w0 w (Own R ec y :: iT R E v xs i.toNat ec g m :: Γ)) (h:sto xs i y=some ys):Sat w0 w (Own (ar R E) [v] ys :: Γ):=by
 have e:ys=xs.set i.toNat y:=by
  unfold sto at h;split at h
  ·exact (Option.some.inj h).symm
  ·cases h
 subst e
 exact hS.joinp fun f g h1 h2=>h2.1.2 w y f (fun _ _=>rfl) h1
theorem Sat.holeCells (a:Nat) {xs:List α} {i g m:Nat} {ec:List Value} (hS:Sat w0 w Γ) (hi:Γ[a]? = some (iT R E v xs i ec g m)):∀ j c,ec[j]? = some c→w.cell? ⟨g,i*m+j,none⟩=some c:=by
 obtain ⟨fp,ho,_⟩:=(hS.top a hi).head
 exact ho.2.2
end
theorem na {P:Program} {e:Env} {w:World} {v:Value} {ty:TypeId} {pos:String} {af:Array Edge} {x y:Operand} {α:Type} {E:TypeId} {d:Option Nat} {t:TypeId} [ht:SliceT P t E] {zz:List Value} {m bytes:Nat} [hz:ElemT P E zz m bytes] {xs:List α} (hs:ev e x=v) {g cap:Nat} (hv:v=.slice (some ⟨g,0,none⟩) xs.length cap) {k:IntKind} {j:Int} (hi:ev e y=.int k j) {u:α} (h:ix xs j=some u) :
  PV P ⟨d,.indexAddr t x y,ty,pos,af,none⟩ e w (.pointer (some ⟨g,j.toNat*m,none⟩)):=fun w' _=>by
 obtain ⟨k',rfl,hk,rfl⟩:=gc h
 subst hv
 have hz:=hz.h
 cases hq:P.info? E with
 | none=>simp [hq] at hz
 | some inf =>
  simp [hq] at hz
  have hsz:inf.size=m:=hz.2.1
  unfold execOp
  simp [hs,hi,Instr.indexAt,asIntOf,run_underlying ht.h,sizeOf,typeInfo,hq,hk,Addr.add_lit,hsz]
theorem kK {e:Env} {i:Nat} {x:Operand} {v:Value} {l:List (Nat × Operand)} {vs:List Value} (h:(ev e x).cells=[v].toArray) (t:l.map (fun p=>(p.1,(ev e p.2).cells))=((vs.zipIdx (i+1)).map fun p=>(p.2,[p.1].toArray))) :
  ((i,x) :: l).map (fun p=>(p.1,(ev e p.2).cells))=(((v :: vs).zipIdx i).map fun p=>(p.2,[p.1].toArray)):=by rw [List.map_cons,List.zipIdx_cons,List.map_cons,h,t]
end Go.Proofs.Ytdapplkijobjoaa
namespace Go.Proofs.Ytdapplkijobjoaa
open Go.RowKit
def gX (N:Nat) (a0:List Int):Option Bool :=
  some (decide (1048576<(a0.length:Int)))
def de (N:Nat):Nat→(List Int)→Int→Int→Option (Int × Int)
 | 0,_,_,_=>none
 | k+1,U,Y,J =>
  (bif decide (J<(U.length:Int)) then
  (bif decide (J<4000) then
  (ml Y 131).bind fun Z =>
  (ix U J).bind fun qp =>
  (ad Z (IntKind.i64.wrap qp)).bind fun qq =>
  (ad qq 7).bind fun qr =>
  (ad J 1).bind fun qu =>
  de N k U (cU qr 1073741823) qu
  else
  some (Y,J))
  else
  some (Y,J))
def fd (N:Nat) (a0:List Int):Option (Int × Int) :=
  (ad 10101 (a0.length:Int)).bind fun J =>
  (de N N a0 J 0).bind fun U =>
  lpB U fun (Y,Z) =>
  some (0,Y)
def c4 (N:Nat) (a0:List Int) (a1:Int) (a2:Int):Option (Int × Int × Int) :=
  (sr (IntKind.i64.wrap ((IntKind.i64.wrap (a2*6364136223846793005))+1442695040888963407)) 33).bind fun J =>
  (sr (IntKind.i64.wrap ((IntKind.i64.wrap (a2*6364136223846793005))+1442695040888963407)) 45).bind fun U =>
  (bif decide (a1<(a0.length:Int)) then
  (ix a0 a1).bind fun Y =>
  some ((cU (IntKind.i64.wrap ((cU (eb J U) 255)+(IntKind.i64.wrap Y))) 255),(IntKind.i64.wrap (a1+1)),(IntKind.i64.wrap ((IntKind.i64.wrap (a2*6364136223846793005))+1442695040888963407)))
  else
  some ((cU (eb J U) 255),a1,(IntKind.i64.wrap ((IntKind.i64.wrap (a2*6364136223846793005))+1442695040888963407))))
def cG (N:Nat) (a0:List Int) (a1:Int) (a2:Int) (a3:Int):Option (Int × Int × Int) :=
  (bif decide (a3≤0) then
  some (0,a1,a2)
  else
  (bif decide (a3≤256) then
  (c4 N a0 a1 a2).bind fun J =>
  (rm J.1 a3).bind fun qq =>
  some (qq,J.2.1,J.2.2)
  else
  (c4 N a0 a1 a2).bind fun U =>
  (c4 N a0 U.2.1 U.2.2).bind fun Y =>
  (c4 N a0 Y.2.1 Y.2.2).bind fun Z =>
  (c4 N a0 Z.2.1 Z.2.2).bind fun qp =>
  (ml U.1 16777216).bind fun qr =>
  (ml Y.1 65536).bind fun qu =>
  (ad qr qu).bind fun qv =>
  (ml Z.1 256).bind fun qw =>
  (ad qv qw).bind fun qx =>
  (ad qx qp.1).bind fun qy =>
  (rm qy a3).bind fun qz =>
  some (qz,qp.2.1,qp.2.2)))
def cX (N:Nat) (a0:List Int) (a1:Int) (a2:Int) (a3:List Int):Option (Int × Int × Int) :=
  (cG N a0 a1 a2 (a3.length:Int)).bind fun J =>
  (ix a3 J.1).bind fun U =>
  some (U,J.2.1,J.2.2)
def fg (N:Nat) (a0:List Int) (a1:Int) (a2:Int):Option (Int × Int × Int) :=
  (cX N a0 a1 a2 ([1,2,3,4,1,2,3,4,0,5]:List Int)).bind fun J =>
  some (J.1,J.2.1,J.2.2)
def dz (N:Nat):Nat→(List Int)→Int→Int→Int→Int→(List Int)→Option (Int × Int × (List Int))
 | 0,_,_,_,_,_,_=>none
 | k+1,Y,Z,qp,qq,qr,J =>
  (bif decide ((J.length:Int)<qq) then
  (cG N Y Z qp qr).bind fun U =>
  (apd 8 J [U.1]).bind fun qu =>
  dz N k Y U.2.1 U.2.2 qq qr qu
  else
  some (Z,qp,J))
def eC (N:Nat) (a0:List Int) (a1:Int) (a2:Int) (a3:Int) (a4:Int):Option ((List Int) × Int × Int) :=
  (dz N N a0 a1 a2 a3 a4 []).bind fun J =>
  lpB J fun (U,Y,Z) =>
  some (Z,U,Y)
def dE (N:Nat) (a0:Int) (a1:Int) (a2:Int):Option Bool :=
  (bif decide (a1≤a0) then
  some (decide (a0≤a2))
  else
  some false)
def bx (N:Nat):Nat→(List Int)→Int→Option (Sum Bool Int)
 | 0,_,_=>none
 | k+1,U,J =>
  (bif decide (J<(U.length:Int)) then
  (ix U J).bind fun Y =>
  (dE N Y 0 99).bind fun Z =>
  (bif Z then
  (ad J 1).bind fun qp =>
  bx N k U qp
  else
  some (.inl false))
  else
  some (.inr J))
def cn (N:Nat) (a0:List Int):Option Bool :=
  (bx N N a0 0).bind fun J =>
  lpS J (fun q=>some q) fun U =>
  some true
def cP (N:Nat):Nat→(List Int)→(List Int)→Int→Option (Sum Int Int)
 | 0,_,_,_=>none
 | k+1,U,Y,J =>
  (bif decide (J<(U.length:Int)) then
  (bif decide (J<(Y.length:Int)) then
  (ix U J).bind fun Z =>
  (ix Y J).bind fun qp =>
  (bif decide (Z<qp) then
  some (.inl (-1))
  else
  (ix U J).bind fun qq =>
  (ix Y J).bind fun qr =>
  (bif decide (qr<qq) then
  some (.inl 1)
  else
  (ad J 1).bind fun qu =>
  cP N k U Y qu))
  else
  some (.inr J))
  else
  some (.inr J))
def aH (N:Nat) (a0:List Int) (a1:List Int):Option Int :=
  (cP N N a0 a1 0).bind fun J =>
  lpS J (fun q=>some q) fun U =>
  (bif decide ((a0.length:Int)<(a1.length:Int)) then
  some (-1)
  else
  (bif decide ((a1.length:Int)<(a0.length:Int)) then
  some 1
  else
  some 0))
def bf (N:Nat):Nat→Int→(List (List Int))→Int→Option (Sum Bool Int)
 | 0,_,_,_=>none
 | k+1,Y,U,J =>
  (bif decide (J<(U.length:Int)) then
  (ix U J).bind fun Z =>
  (bif ((Z.length:Int) != Y) then
  some (.inl false)
  else
  (ix U J).bind fun qp =>
  (cn N qp).bind fun qq =>
  (bif qq then
  (bif decide (0<J) then
  (sb J 1).bind fun qr =>
  (ix U qr).bind fun qu =>
  (ix U J).bind fun qv =>
  (aH N qu qv).bind fun qw =>
  (bif decide (0≤qw) then
  some (.inl false)
  else
  (ad J 1).bind fun qx =>
  bf N k Y U qx)
  else
  (ad J 1).bind fun qy =>
  bf N k Y U qy)
  else
  some (.inl false)))
  else
  some (.inr J))
def bV (N:Nat) (a0:Int) (a1:List (List Int)):Option Bool :=
  (dE N a0 0 5).bind fun J =>
  (bif J then
  (bif decide (4000<(a1.length:Int)) then
  some false
  else
  (bf N N a0 a1 0).bind fun U =>
  lpS U (fun q=>some q) fun Y =>
  some true)
  else
  some false)
def cg (N:Nat):Nat→Int→(List (List Int))→Int→(List (List Int))→Int→(List (List Int))→Int→Option ((List (List Int)) × Int)
 | 0,_,_,_,_,_,_,_=>none
 | k+1,Z,U,qp,qq,qr,Y,J =>
  (bif decide (J<(U.length:Int)) then
  (ix U J).bind fun qu =>
  (apd 8 [] qu).bind fun qv =>
  (apd 24 Y [qv]).bind fun qw =>
  (ad J 1).bind fun qx =>
  cg N k Z U qp qq qr qw qx
  else
  some (Y,J))
def eJ (N:Nat) (a0:Int) (a1:List (List Int)):Option (Int × List (List Int)) :=
  (cg N N a0 a1 0 [] a0 [] 0).bind fun J =>
  lpB J fun (U,Y) =>
  some (a0,U)
end Go.Proofs.Ytdapplkijobjoaa
namespace Go.Proofs.Ytdapplkijobjoaa
open Go.RowKit
def ap (rec:(List (List Int))→Option (List (List Int))) (N:Nat):Nat→(List (List Int))→(List (List Int))→(List (List Int))→Option ((List (List Int)) × (List (List Int)) × (List (List Int)))
 | 0,_,_,_=>none
 | k+1,U,Y,J =>
  (bif decide (0<(U.length:Int)) then
  (bif ((U.length:Int) == 0) then
  (bif decide (0<(1:Int)) then
  (ix Y 0).bind fun Z =>
  (slc Y 1 (Y.length:Int)).bind fun qp =>
  (bif ((J.length:Int) == 0) then
  (apd 24 J [Z]).bind fun qK =>
  ap rec N k U qp qK
  else
  (sb (J.length:Int) 1).bind fun qL =>
  (ix J qL).bind fun qN =>
  (aH N qN Z).bind fun qO =>
  (bif (qO != 0) then
  (apd 24 J [Z]).bind fun qP =>
  ap rec N k U qp qP
  else
  ap rec N k U qp J))
  else
  (ix U 0).bind fun qq =>
  (slc U 1 (U.length:Int)).bind fun qr =>
  (bif ((J.length:Int) == 0) then
  (apd 24 J [qq]).bind fun qQ =>
  ap rec N k qr Y qQ
  else
  (sb (J.length:Int) 1).bind fun qR =>
  (ix J qR).bind fun qS =>
  (aH N qS qq).bind fun qT =>
  (bif (qT != 0) then
  (apd 24 J [qq]).bind fun qU =>
  ap rec N k qr Y qU
  else
  ap rec N k qr Y J)))
  else
  (bif decide (0<(Y.length:Int)) then
  (ix U 0).bind fun qV =>
  (ix Y 0).bind fun qW =>
  (aH N qV qW).bind fun qX =>
  (bif decide (0<qX) then
  (ix Y 0).bind fun qu =>
  (slc Y 1 (Y.length:Int)).bind fun qv =>
  (bif ((J.length:Int) == 0) then
  (apd 24 J [qu]).bind fun qY =>
  ap rec N k U qv qY
  else
  (sb (J.length:Int) 1).bind fun qZ =>
  (ix J qZ).bind fun q5 =>
  (aH N q5 qu).bind fun q6 =>
  (bif (q6 != 0) then
  (apd 24 J [qu]).bind fun q7 =>
  ap rec N k U qv q7
  else
  ap rec N k U qv J))
  else
  (ix U 0).bind fun qw =>
  (slc U 1 (U.length:Int)).bind fun qx =>
  (bif ((J.length:Int) == 0) then
  (apd 24 J [qw]).bind fun q8 =>
  ap rec N k qx Y q8
  else
  (sb (J.length:Int) 1).bind fun q9 =>
  (ix J q9).bind fun ra =>
  (aH N ra qw).bind fun rb =>
  (bif (rb != 0) then
  (apd 24 J [qw]).bind fun rc =>
  ap rec N k qx Y rc
  else
  ap rec N k qx Y J)))
  else
  (bif decide (0<((-1):Int)) then
  (ix Y 0).bind fun qy =>
  (slc Y 1 (Y.length:Int)).bind fun qz =>
  (bif ((J.length:Int) == 0) then
  (apd 24 J [qy]).bind fun re =>
  ap rec N k U qz re
  else
  (sb (J.length:Int) 1).bind fun rf =>
  (ix J rf).bind fun rg =>
  (aH N rg qy).bind fun rh =>
  (bif (rh != 0) then
  (apd 24 J [qy]).bind fun ri =>
  ap rec N k U qz ri
  else
  ap rec N k U qz J))
  else
  (ix U 0).bind fun qA =>
  (slc U 1 (U.length:Int)).bind fun qB =>
  (bif ((J.length:Int) == 0) then
  (apd 24 J [qA]).bind fun rj =>
  ap rec N k qB Y rj
  else
  (sb (J.length:Int) 1).bind fun rk =>
  (ix J rk).bind fun rl =>
  (aH N rl qA).bind fun rn =>
  (bif (rn != 0) then
  (apd 24 J [qA]).bind fun ro =>
  ap rec N k qB Y ro
  else
  ap rec N k qB Y J)))))
  else
  (bif decide (0<(Y.length:Int)) then
  (bif ((U.length:Int) == 0) then
  (bif decide (0<(1:Int)) then
  (ix Y 0).bind fun qC =>
  (slc Y 1 (Y.length:Int)).bind fun qD =>
  (bif ((J.length:Int) == 0) then
  (apd 24 J [qC]).bind fun rp =>
  ap rec N k U qD rp
  else
  (sb (J.length:Int) 1).bind fun rq =>
  (ix J rq).bind fun rr =>
  (aH N rr qC).bind fun rt =>
  (bif (rt != 0) then
  (apd 24 J [qC]).bind fun ru =>
  ap rec N k U qD ru
  else
  ap rec N k U qD J))
  else
  (ix U 0).bind fun qE =>
  (slc U 1 (U.length:Int)).bind fun qF =>
  (bif ((J.length:Int) == 0) then
  (apd 24 J [qE]).bind fun rx =>
  ap rec N k qF Y rx
  else
  (sb (J.length:Int) 1).bind fun ry =>
  (ix J ry).bind fun rz =>
  (aH N rz qE).bind fun rA =>
  (bif (rA != 0) then
  (apd 24 J [qE]).bind fun rC =>
  ap rec N k qF Y rC
  else
  ap rec N k qF Y J)))
  else
  (ix U 0).bind fun rD =>
  (ix Y 0).bind fun rE =>
  (aH N rD rE).bind fun rF =>
  (bif decide (0<rF) then
  (ix Y 0).bind fun qG =>
  (slc Y 1 (Y.length:Int)).bind fun qH =>
  (bif ((J.length:Int) == 0) then
  (apd 24 J [qG]).bind fun rG =>
  ap rec N k U qH rG
  else
  (sb (J.length:Int) 1).bind fun rH =>
  (ix J rH).bind fun rJ =>
  (aH N rJ qG).bind fun rK =>
  (bif (rK != 0) then
  (apd 24 J [qG]).bind fun rL =>
  ap rec N k U qH rL
  else
  ap rec N k U qH J))
  else
  (ix U 0).bind fun qI =>
  (slc U 1 (U.length:Int)).bind fun qJ =>
  (bif ((J.length:Int) == 0) then
  (apd 24 J [qI]).bind fun rM =>
  ap rec N k qJ Y rM
  else
  (sb (J.length:Int) 1).bind fun rN =>
  (ix J rN).bind fun rO =>
  (aH N rO qI).bind fun rP =>
  (bif (rP != 0) then
  (apd 24 J [qI]).bind fun rQ =>
  ap rec N k qJ Y rQ
  else
  ap rec N k qJ Y J))))
  else
  some (U,Y,J)))
def cD:Nat→(List (List Int))→Option (List (List Int))
 | 0,_=>none
 | N+1,a0 =>
  (bif decide ((a0.length:Int)<2) then
  some a0
  else
  (qt (a0.length:Int) 2).bind fun J =>
  (slc a0 0 J).bind fun Z =>
  (cD N Z).bind fun qp =>
  (slc a0 J (a0.length:Int)).bind fun qq =>
  (cD N qq).bind fun qr =>
  (ap (cD N) N N qp qr []).bind fun U =>
  lpB U fun (qu,qv,Y) =>
  some Y)
def bC (N:Nat):Nat→Int→(List (List Int))→Int→(List (List Int))→Int→Option (Sum ((Int × List (List Int)) × Bool) Int)
 | 0,_,_,_,_,_=>none
 | k+1,Y,U,Z,qp,J =>
  (bif decide (J<(U.length:Int)) then
  (ix U J).bind fun qq =>
  (bif ((qq.length:Int) != Y) then
  some (.inl ((0,[]),false))
  else
  (ix U J).bind fun qr =>
  (cn N qr).bind fun qu =>
  (bif qu then
  (ad J 1).bind fun qv =>
  bC N k Y U Z qp qv
  else
  some (.inl ((0,[]),false))))
  else
  some (.inr J))
def dl (N:Nat) (a0:Int) (a1:List (List Int)):Option ((Int × List (List Int)) × Bool) :=
  (bC N N a0 a1 0 [] 0).bind fun U =>
  lpS U (fun q=>some q) fun qp =>
  (cD N a1).bind fun Y =>
  (eJ N a0 Y).bind fun J =>
  (bV N J.1 J.2).bind fun Z =>
  (bif Z then
  some ((J.1,J.2),true)
  else
  some ((0,[]),false))
def dy (N:Nat):Nat→(List Int)→Int→Int→Int→Int→Int→(List (List Int))→(List (List Int))→Int→Option (Int × Int × (List (List Int)) × Int)
 | 0,_,_,_,_,_,_,_,_,_=>none
 | k+1,Y,Z,qp,qq,qr,qv,qw,qu,J =>
  (bif decide (0<J) then
  (eC N Y Z qp qq qr).bind fun U =>
  (apd 24 qu [U.1]).bind fun qx =>
  (sb J 1).bind fun qy =>
  dy N k Y U.2.1 U.2.2 qq qr qv qw qx qy
  else
  some (Z,qp,qu,J))
def fc (N:Nat) (a0:List Int) (a1:Int) (a2:Int) (a3:Int) (a4:Int) (a5:Int):Option ((Int × List (List Int)) × Int × Int) :=
  (ad a4 1).bind fun Y =>
  (cG N a0 a1 a2 Y).bind fun J =>
  (dy N N a0 J.2.1 J.2.2 a3 a5 0 [] [] J.1).bind fun Z =>
  lpB Z fun (qp,qq,qr,qu) =>
  (dl N a3 qr).bind fun U =>
  some ((U.1.1,U.1.2),qp,qq)
def ff (N:Nat) (a0:List Int) (a1:Int) (a2:Int):Option ((Int × List (List Int)) × Int × Int) :=
  (cG N a0 a1 a2 4).bind fun Y =>
  (fc N a0 Y.2.1 Y.2.2 Y.1 6 4).bind fun J =>
  (cG N a0 J.2.1 J.2.2 14).bind fun U =>
  (bif (U.1 == 0) then
  (ad J.1.1 1).bind fun qu =>
  (cX N a0 U.2.1 U.2.2 ([(-1),6,qu]:List Int)).bind fun Z =>
  some ((Z.1,J.1.2),Z.2.1,Z.2.2)
  else
  (bif (U.1 == 1) then
  (eC N a0 U.2.1 U.2.2 (imx 0 J.1.1) 4).bind fun qp =>
  (apd 24 J.1.2 [qp.1]).bind fun qv =>
  some ((J.1.1,qv),qp.2.1,qp.2.2)
  else
  (bif (U.1 == 2) then
  (bif decide (0<(J.1.2.length:Int)) then
  (bif decide (0<J.1.1) then
  (ix J.1.2 0).bind fun qr =>
  (cX N a0 U.2.1 U.2.2 ([(-1),100,99]:List Int)).bind fun qq =>
  (ix qr 0).bind fun qy =>
  (sto qr 0 qq.1).bind fun qw =>
  (sto J.1.2 0 qw).bind fun qx =>
  some ((J.1.1,qx),qq.2.1,qq.2.2)
  else
  some ((J.1.1,J.1.2),U.2.1,U.2.2))
  else
  some ((J.1.1,J.1.2),U.2.1,U.2.2))
  else
  some ((J.1.1,J.1.2),U.2.1,U.2.2))))
def bX (N:Nat) (a0:List Int):Option (Int × Int × List (List Int)) :=
  (fd N a0).bind fun U =>
  (fg N a0 U.1 U.2).bind fun J =>
  (ff N a0 J.2.1 J.2.2).bind fun Y =>
  some (J.1,(Y.1.1,Y.1.2))
def bN (N:Nat) (a0:Int):Option Int :=
  (bif (a0 == 2) then
  some 1000000000
  else
  some 0)
def c7 (N:Nat) (a0:Int):Option Int :=
  some (imx 0 (imn a0 1000000000))
def es (N:Nat) (a0:Bool):Option Int :=
  (bif a0 then
  some 1
  else
  some 0)
def b7 (N:Nat) (a0:Int) (a1:Int) (a2:Int):Option Int :=
  (c7 N a1).bind fun J =>
  (c7 N a2).bind fun U =>
  (bif (a0 == 1) then
  (ad J U).bind fun Y =>
  (c7 N Y).bind fun Z =>
  some Z
  else
  (bif (a0 == 2) then
  some (imn J U)
  else
  (bif (a0 == 3) then
  (bif decide (0<J) then
  (es N true).bind fun qp =>
  some qp
  else
  (es N (decide (0<U))).bind fun qq =>
  some qq)
  else
  (bif (a0 == 4) then
  some (imx J U)
  else
  some 0))))
def b9 (N:Nat) (a0:Int) (a1:Int) (a2:Int):Option Bool :=
  (bif decide (a1≤a0) then
  some (decide (a0≤a2))
  else
  some false)
def bI (N:Nat) (a0:Int):Option Bool :=
  (b9 N a0 1 4).bind fun J =>
  some J
def cx (N:Nat) (a0:Int) (a1:Int):Option Int :=
  (bif decide (a0<a1) then
  some (-1)
  else
  (bif decide (a1<a0) then
  some 1
  else
  some 0))
end Go.Proofs.Ytdapplkijobjoaa
namespace Go.Proofs.Ytdapplkijobjoaa
open Go.RowKit
def cO (N:Nat):Nat→(List Int)→(List Int)→Int→Option (Sum Int Int)
 | 0,_,_,_=>none
 | k+1,U,Y,J =>
  (bif decide (J<(U.length:Int)) then
  (bif decide (J<(Y.length:Int)) then
  (ix U J).bind fun Z =>
  (ix Y J).bind fun qp =>
  (bif (Z != qp) then
  (ix U J).bind fun qq =>
  (ix Y J).bind fun qr =>
  (cx N qq qr).bind fun qu =>
  some (.inl qu)
  else
  (ad J 1).bind fun qv =>
  cO N k U Y qv)
  else
  some (.inr J))
  else
  some (.inr J))
def dr (N:Nat) (a0:List Int) (a1:List Int):Option Int :=
  (cO N N a0 a1 0).bind fun J =>
  lpS J (fun q=>some q) fun Y =>
  (cx N (a0.length:Int) (a1.length:Int)).bind fun U =>
  some U
def bz (N:Nat):Nat→(List Int)→Int→Int→Option (Sum Bool Int)
 | 0,_,_,_=>none
 | k+1,U,Y,J =>
  (bif decide (J<Y) then
  (ix U J).bind fun Z =>
  (b9 N Z 0 99).bind fun qp =>
  (bif qp then
  (ad J 1).bind fun qq =>
  bz N k U Y qq
  else
  some (.inl false))
  else
  some (.inr J))
def cm (N:Nat) (a0:List Int):Option Bool :=
  (bz N N a0 (a0.length:Int) 0).bind fun J =>
  lpS J (fun q=>some q) fun U =>
  some true
def bO (N:Nat):Nat→Int→(List (List Int))→(List (List Int))→Int→Int→Option (Sum Bool Int)
 | 0,_,_,_,_,_=>none
 | k+1,U,Y,Z,qp,J =>
  (bif decide (J<qp) then
  (ix Z J).bind fun qq =>
  (bif ((qq.length:Int) != U) then
  some (.inl false)
  else
  (cm N qq).bind fun qr =>
  (bif qr then
  (bif decide (0<J) then
  (sb J 1).bind fun qu =>
  (ix Y qu).bind fun qv =>
  (dr N qv qq).bind fun qw =>
  (bif decide (0≤qw) then
  some (.inl false)
  else
  (ad J 1).bind fun qx =>
  bO N k U Y Z qp qx)
  else
  (ad J 1).bind fun qy =>
  bO N k U Y Z qp qy)
  else
  some (.inl false)))
  else
  some (.inr J))
def dS (N:Nat) (a0:Int) (a1:List (List Int)):Option Bool :=
  (b9 N a0 0 5).bind fun J =>
  (bif J then
  (bif decide (4000<(a1.length:Int)) then
  some false
  else
  (bO N N a0 a1 a1 (a1.length:Int) 0).bind fun U =>
  lpS U (fun q=>some q) fun Y =>
  some true)
  else
  some false)
def cI (N:Nat) (a0:Int) (a1:List (List Int)):Option Bool :=
  (dS N a0 a1).bind fun J =>
  some J
def cT (N:Nat) (a0:Int):Option Int :=
  (bif (a0 == 1) then
  some 1
  else
  (bif (a0 == 3) then
  some 1
  else
  (bif (a0 == 4) then
  some 1
  else
  some 0)))
def c3 (N:Nat) (a0:Int) (a1:Int) (a2:Int):Option Int :=
  (c7 N a1).bind fun J =>
  (c7 N a2).bind fun U =>
  (bif (a0 == 1) then
  (ml J U).bind fun Y =>
  (c7 N Y).bind fun Z =>
  some Z
  else
  (bif (a0 == 4) then
  (ml J U).bind fun qp =>
  (c7 N qp).bind fun qq =>
  some qq
  else
  (bif (a0 == 2) then
  (ad J U).bind fun qr =>
  (c7 N qr).bind fun qu =>
  some qu
  else
  (bif (a0 == 3) then
  (bif decide (0<J) then
  (es N (decide (0<U))).bind fun qv =>
  some qv
  else
  (es N false).bind fun qw =>
  some qw)
  else
  some 0))))
def cZ (N:Nat) (a0:Int) (a1:Int) (a2:Int):Option Int :=
  (bI N a0).bind fun J =>
  (bif J then
  (b9 N a1 0 4).bind fun U =>
  (bif U then
  (b9 N a2 0 99).bind fun Y =>
  (bif Y then
  (bif (a0 == 1) then
  (ad a2 a1).bind fun Z =>
  (rm Z 2).bind fun qp =>
  (ad 1 qp).bind fun qq =>
  some qq
  else
  (bif (a0 == 3) then
  (ad a2 a1).bind fun qr =>
  (rm qr 4).bind fun qu =>
  some (imn 1 qu)
  else
  (ml 3 a2).bind fun qv =>
  (ad qv a1).bind fun qw =>
  (rm qw 5).bind fun qx =>
  (ad 1 qx).bind fun qy =>
  some qy))
  else
  some 0)
  else
  some 0)
  else
  some 0)
def bi (N:Nat):Nat→Int→Int→Int→(List (List Int))→Int→Int→(List Int)→Int→Int→Option (Int × Int)
 | 0,_,_,_,_,_,_,_,_,_=>none
 | k+1,U,qq,Y,qr,qu,qv,Z,qp,J =>
  (bif decide (J<qp) then
  (ix Z J).bind fun qw =>
  (cZ N U J qw).bind fun qx =>
  (c3 N U Y qx).bind fun qy =>
  (ad J 1).bind fun qz =>
  bi N k U qq qy qr qu qv Z qp qz
  else
  some (Y,J))
def bk (N:Nat):Nat→Int→Int→(List (List Int))→Int→Int→Option (Int × Int)
 | 0,_,_,_,_,_=>none
 | k+1,U,Y,Z,qp,J =>
  (bif decide (J<qp) then
  (ix Z J).bind fun qq =>
  (cT N U).bind fun qr =>
  (bi N N U Y qr Z qp J qq (qq.length:Int) 0).bind fun qu =>
  lpB qu fun (qv,qy) =>
  (b7 N U Y qv).bind fun qw =>
  (ad J 1).bind fun qx =>
  bk N k U qw Z qp qx
  else
  some (Y,J))
def cu (N:Nat) (a0:Int) (a1:Int) (a2:List (List Int)):Option Int :=
  (bN N a0).bind fun J =>
  (bI N a0).bind fun U =>
  (bif U then
  (cI N a1 a2).bind fun Y =>
  (bif Y then
  (bk N N a0 J a2 (a2.length:Int) 0).bind fun Z =>
  lpB Z fun (qp,qq) =>
  some qp
  else
  some J)
  else
  some J)
def cK (N:Nat) (a0:Int):Option Int :=
  (bif (a0 == 2) then
  some 1000000000
  else
  some 0)
def bJ (N:Nat) (a0:Int):Option Bool :=
  (dE N a0 1 4).bind fun J =>
  some J
def bW (N:Nat) (a0:Int):Option Int :=
  some (imx 0 (imn 1000000000 a0))
def dn (N:Nat) (a0:Int) (a1:Int) (a2:Int):Option Int :=
  (bW N a1).bind fun J =>
  (bW N a2).bind fun U =>
  (bif (a0 == 1) then
  (ad J U).bind fun Y =>
  (bW N Y).bind fun Z =>
  some Z
  else
  (bif (a0 == 2) then
  some (imn J U)
  else
  (bif (a0 == 3) then
  (ad J U).bind fun qp =>
  some (imn 1 qp)
  else
  (bif (a0 == 4) then
  some (imx J U)
  else
  some 0))))
end Go.Proofs.Ytdapplkijobjoaa
namespace Go.Proofs.Ytdapplkijobjoaa
open Go.RowKit
def dp (N:Nat) (a0:Int):Option Int :=
  (bif (a0 == 2) then
  some 0
  else
  (bJ N a0).bind fun J =>
  (bif J then
  some 1
  else
  some 0))
def dq (N:Nat) (a0:Int) (a1:Int) (a2:Int):Option Int :=
  (bW N a1).bind fun J =>
  (bW N a2).bind fun U =>
  (bif (a0 == 1) then
  (ml J U).bind fun Y =>
  (bW N Y).bind fun Z =>
  some Z
  else
  (bif (a0 == 4) then
  (ml J U).bind fun qp =>
  (bW N qp).bind fun qq =>
  some qq
  else
  (bif (a0 == 2) then
  (ad J U).bind fun qr =>
  (bW N qr).bind fun qu =>
  some qu
  else
  (bif (a0 == 3) then
  (ml (imn 1 J) (imn 1 U)).bind fun qv =>
  some qv
  else
  some 0))))
def dk (N:Nat) (a0:Int) (a1:Int) (a2:Int):Option Int :=
  (bJ N a0).bind fun J =>
  (bif J then
  (dE N a1 0 4).bind fun U =>
  (bif U then
  (dE N a2 0 99).bind fun Y =>
  (bif Y then
  (bif (a0 == 1) then
  (ad a2 a1).bind fun Z =>
  (rm Z 2).bind fun qp =>
  (ad 1 qp).bind fun qq =>
  some qq
  else
  (bif (a0 == 3) then
  (ad a2 a1).bind fun qr =>
  (rm qr 4).bind fun qu =>
  some (imn 1 qu)
  else
  (ml a2 3).bind fun qv =>
  (ad qv a1).bind fun qw =>
  (rm qw 5).bind fun qx =>
  (ad 1 qx).bind fun qy =>
  some qy))
  else
  some 0)
  else
  some 0)
  else
  some 0)
def cz (N:Nat):Nat→Int→(List Int)→(List Int)→Int→Int→Option (Int × Int)
 | 0,_,_,_,_,_=>none
 | k+1,U,Z,Y,qp,J =>
  (bif decide (J<(Y.length:Int)) then
  (ix Z J).bind fun qq =>
  (ix Y J).bind fun qr =>
  (dk N U qq qr).bind fun qu =>
  (dq N U qp qu).bind fun qv =>
  (ad J 1).bind fun qw =>
  cz N k U Z Y qv qw
  else
  some (qp,J))
def eO (N:Nat) (a0:Int) (a1:List Int) (a2:List Int):Option Int :=
  (dp N a0).bind fun J =>
  (cz N N a0 a1 a2 J 0).bind fun U =>
  lpB U fun (Y,Z) =>
  some Y
def a8 (N:Nat):Nat→Int→Int→(List (List Int))→Int→(List Int)→Option (List Int)
 | 0,_,_,_,_,_=>none
 | k+1,Y,U,Z,qp,J =>
  (bif decide ((J.length:Int)<U) then
  (apd 8 J [(J.length:Int)]).bind fun qq =>
  a8 N k Y U Z qp qq
  else
  some J)
def bj (N:Nat):Nat→Int→Int→(List (List Int))→Int→(List Int)→Int→Option (Int × Int)
 | 0,_,_,_,_,_,_=>none
 | k+1,U,qq,Y,Z,qp,J =>
  (bif decide (J<(Y.length:Int)) then
  (ix Y J).bind fun qr =>
  (eO N U qp qr).bind fun qu =>
  (dn N U Z qu).bind fun qv =>
  (ad J 1).bind fun qw =>
  bj N k U qq Y qv qp qw
  else
  some (Z,J))
def cp (N:Nat) (a0:Int) (a1:Int) (a2:List (List Int)):Option Int :=
  (cK N a0).bind fun J =>
  (bJ N a0).bind fun U =>
  (bif U then
  (bV N a1 a2).bind fun Y =>
  (bif Y then
  (a8 N N a0 a1 a2 J []).bind fun Z =>
  lpB Z fun qp =>
  (bj N N a0 a1 a2 J qp 0).bind fun qq =>
  lpB qq fun (qr,qu) =>
  some qr
  else
  some J)
  else
  some J)
def cW (N:Nat):Nat→(List Int)→(List (List Int × List Int))→(List Int)→(List Int)→Int→Option (Sum (Int × (List Int) × (List (List Int × List Int))) Int)
 | 0,_,_,_,_,_=>none
 | k+1,Y,U,Z,qp,J =>
  (bif decide (J<(U.length:Int)) then
  (ix U J).bind fun qq =>
  (aH N qq.1 Z).bind fun qr =>
  (bif (qr == 0) then
  (ix U J).bind fun qu =>
  (aH N qu.2 qp).bind fun qv =>
  (bif (qv == 0) then
  some (.inl (J,Y,U))
  else
  (ad J 1).bind fun qw =>
  cW N k Y U Z qp qw)
  else
  (ad J 1).bind fun qx =>
  cW N k Y U Z qp qx)
  else
  some (.inr J))
def dK (N:Nat) (a0:List Int) (a1:List (List Int × List Int)) (a2:List Int) (a3:List Int):Option (Int × (List Int) × (List (List Int × List Int))) :=
  (cW N N a0 a1 a2 a3 1).bind fun U =>
  lpS U (fun q=>some q) fun Z =>
  (apd 48 a1 [(a2,a3)]).bind fun J =>
  (sb (J.length:Int) 1).bind fun Y =>
  some (Y,a0,J)
def cw (rec:(List Int)→(List (List Int × List Int))→(List (List Int))→Int→Option (Int × (List Int) × (List (List Int × List Int)))) (N:Nat):Nat→(List Int)→(List (List Int × List Int))→(List (List Int))→Int→(List Int)→(List Int)→Int→Int→Option Int
 | 0,_,_,_,_,_,_,_,_=>none
 | k+1,qp,qq,U,Y,qr,qu,Z,J =>
  (bif decide (J<(U.length:Int)) then
  (ix U J).bind fun qv =>
  (ix qv Y).bind fun qw =>
  (ix U Z).bind fun qx =>
  (ix qx Y).bind fun qy =>
  (bif (qw == qy) then
  (ad J 1).bind fun qz =>
  cw rec N k qp qq U Y qr qu Z qz
  else
  some J)
  else
  some J)
def bT (rec:(List Int)→(List (List Int × List Int))→(List (List Int))→Int→Option (Int × (List Int) × (List (List Int × List Int)))) (N:Nat):Nat→(List Int)→(List (List Int × List Int))→(List (List Int))→Int→(List Int)→(List Int)→Int→Option ((List Int) × (List (List Int × List Int)) × (List Int) × (List Int) × Int)
 | 0,_,_,_,_,_,_,_=>none
 | k+1,Z,qp,U,Y,qq,qr,J =>
  (bif decide (J<(U.length:Int)) then
  (cw rec N N Z qp U Y qq qr J J).bind fun qw =>
  lpB qw fun qv =>
  (ix U J).bind fun qx =>
  (ix qx Y).bind fun qy =>
  (apd 8 qq [qy]).bind fun qz =>
  (slc U J qv).bind fun qA =>
  (ad Y 1).bind fun qB =>
  (rec Z qp qA qB).bind fun qu =>
  (apd 8 qr [qu.1]).bind fun qC =>
  bT rec N k qu.2.1 qu.2.2 U Y qz qC qv
  else
  some (Z,qp,qq,qr,J))
def bp:Nat→(List Int)→(List (List Int × List Int))→(List (List Int))→Int→Option (Int × (List Int) × (List (List Int × List Int)))
 | 0,_,_,_,_=>none
 | N+1,a0,a1,a2,a3 =>
  (bif decide (0<(a2.length:Int)) then
  (ix a2 0).bind fun Y =>
  (bif (a3 == (Y.length:Int)) then
  some (0,a0,a1)
  else
  (bT (bp N) N N a0 a1 a2 a3 [] [] 0).bind fun Z =>
  lpB Z fun (qp,qq,qr,qu,qA) =>
  (dK N qp qq qr qu).bind fun J =>
  some (J.1,J.2.1,J.2.2))
  else
  (bT (bp N) N N a0 a1 a2 a3 [] [] 0).bind fun qv =>
  lpB qv fun (qw,qx,qy,qz,qB) =>
  (dK N qw qx qy qz).bind fun U =>
  some (U.1,U.2.1,U.2.2))
def eu (N:Nat) (a0:Int) (a1:List (List Int)) (a2:List Int):Option (List Int × List (List Int × List Int)) :=
  (apd 8 [] a2).bind fun J =>
  (bif ((a1.length:Int) == 0) then
  (apd 48 ([([],[])]) [([],[])]).bind fun Y =>
  some (J,Y)
  else
  (bp N J ([([],[])]) a1 0).bind fun U =>
  some (U.2.1,U.2.2))
def aZ (N:Nat):Nat→Int→(List (List Int))→(List Int)→(List (List Int × List Int))→(List Int)→Option (List Int)
 | 0,_,_,_,_,_=>none
 | k+1,U,Y,Z,qp,J =>
  (bif decide ((J.length:Int)<U) then
  (apd 8 J [(J.length:Int)]).bind fun qq =>
  aZ N k U Y Z qp qq
  else
  some J)
def co (N:Nat) (a0:Int) (a1:List (List Int)):Option ((List Int × List (List Int × List Int)) × Bool) :=
  (bV N a0 a1).bind fun U =>
  (bif U then
  (aZ N N a0 a1 [] [] []).bind fun Y =>
  lpB Y fun Z =>
  (eu N a0 a1 Z).bind fun J =>
  some ((J.1,J.2),true)
  else
  some (([],[]),false))
def dF (N:Nat):Nat→Int→(List Int)→Int→Int→Option (Sum Int Int)
 | 0,_,_,_,_=>none
 | k+1,U,Y,Z,J =>
  (bif decide (J<Z) then
  (ix Y J).bind fun qp =>
  (bif (qp == U) then
  some (.inl J)
  else
  (ad J 1).bind fun qq =>
  dF N k U Y Z qq)
  else
  some (.inr J))
def d5 (N:Nat) (a0:List Int) (a1:Int):Option Int :=
  (dF N N a1 a0 (a0.length:Int) 0).bind fun J =>
  lpS J (fun q=>some q) fun U =>
  some (-1)
def eL (N:Nat) (a0:List Int) (a1:Int):Option Bool :=
  (d5 N a0 a1).bind fun J =>
  some (decide (0≤J))
def ck (N:Nat):Nat→(List Int)→Int→(List Int)→Int→Int→Option (Sum Bool Int)
 | 0,_,_,_,_,_=>none
 | k+1,U,Y,Z,qp,J =>
  (bif decide (J<qp) then
  (ix Z J).bind fun qq =>
  (sb Y 1).bind fun qr =>
  (b9 N qq 0 qr).bind fun qu =>
  (bif qu then
  (slc U 0 J).bind fun qv =>
  (eL N qv qq).bind fun qw =>
  (bif qw then
  some (.inl false)
  else
  (ad J 1).bind fun qx =>
  ck N k U Y Z qp qx)
  else
  some (.inl false))
  else
  some (.inr J))
def eh (N:Nat) (a0:List Int) (a1:Int):Option Bool :=
  (ck N N a0 a1 a0 (a0.length:Int) 0).bind fun J =>
  lpS J (fun q=>some q) fun U =>
  some true
end Go.Proofs.Ytdapplkijobjoaa
namespace Go.Proofs.Ytdapplkijobjoaa
open Go.RowKit
def c8 (N:Nat) (a0:List Int):Option Bool :=
  (bif decide ((a0.length:Int)≤5) then
  (eh N a0 (a0.length:Int)).bind fun J =>
  some J
  else
  some false)
def bc (N:Nat):Nat→(List Int)→Int→Option (Sum Bool Int)
 | 0,_,_=>none
 | k+1,U,J =>
  (bif decide (J<(U.length:Int)) then
  (sb J 1).bind fun Y =>
  (ix U Y).bind fun Z =>
  (ix U J).bind fun qp =>
  (bif decide (qp≤Z) then
  some (.inl false)
  else
  (ad J 1).bind fun qq =>
  bc N k U qq)
  else
  some (.inr J))
def bZ (N:Nat) (a0:List Int):Option Bool :=
  (bc N N a0 1).bind fun J =>
  lpS J (fun q=>some q) fun U =>
  some true
def b8 (N:Nat):Nat→(List Int)→(List Int)→Int→Int→Option (Sum Bool Int)
 | 0,_,_,_,_=>none
 | k+1,U,Y,Z,J =>
  (bif decide (J<Z) then
  (ix U J).bind fun qp =>
  (ix Y J).bind fun qq =>
  (bif (qp != qq) then
  some (.inl false)
  else
  (ad J 1).bind fun qr =>
  b8 N k U Y Z qr)
  else
  some (.inr J))
def dx (N:Nat) (a0:List Int) (a1:List Int):Option Bool :=
  (bif ((a0.length:Int) != (a1.length:Int)) then
  some false
  else
  (b8 N N a0 a1 (a0.length:Int) 0).bind fun J =>
  lpS J (fun q=>some q) fun U =>
  some true)
def dU (N:Nat) (a0:List Int) (a1:List Int) (a2:List Int) (a3:List Int):Option Bool :=
  (dx N a0 a2).bind fun J =>
  (bif J then
  (dx N a1 a3).bind fun U =>
  some U
  else
  some false)
def cb (N:Nat):Nat→(List Int)→Int→(List Int)→(List (List Int × List Int))→(List Int)→(List Int)→(List Int)→Int→Int→Option (Sum (Int × Bool) Int)
 | 0,_,_,_,_,_,_,_,_,_=>none
 | k+1,U,Y,qu,qv,qw,Z,qp,qq,J =>
  (bif decide (J<qq) then
  (ix qp J).bind fun qr =>
  (sb Y 1).bind fun qx =>
  (b9 N qr 0 qx).bind fun qy =>
  (bif qy then
  (ix U qr).bind fun qz =>
  (ix Z 0).bind fun qA =>
  (ix U qA).bind fun qB =>
  (bif (qz != qB) then
  some (.inl (0,false))
  else
  (ad J 1).bind fun qC =>
  cb N k U Y qu qv qw Z qp qq qC)
  else
  some (.inl (0,false)))
  else
  some (.inr J))
def ci (N:Nat):Nat→(List Int)→(List Int)→(List Int)→(List (List Int × List Int))→Int→Int→Option (Sum (Int × Bool) Int)
 | 0,_,_,_,_,_,_=>none
 | k+1,qr,U,Y,Z,qp,J =>
  (bif decide (J<qp) then
  (ix Z J).bind fun qq =>
  (dU N qq.1 qq.2 U Y).bind fun qu =>
  (bif qu then
  some (.inl (0,false))
  else
  (ad J 1).bind fun qv =>
  ci N k qr U Y Z qp qv)
  else
  some (.inr J))
def eP (N:Nat) (a0:List Int) (a1:List (List Int × List Int)) (a2:List Int) (a3:Int):Option (Int × Bool) :=
  (ix a1 a3).bind fun J =>
  (bif ((J.1.length:Int) != (J.2.length:Int)) then
  some (0,false)
  else
  (cm N J.1).bind fun Y =>
  (bif Y then
  (bZ N J.1).bind fun Z =>
  (bif Z then
  (bif ((J.1.length:Int) == 0) then
  (sb (a1.length:Int) 1).bind fun qp =>
  some ((a0.length:Int),(a3 == qp))
  else
  (cb N N a2 a3 a0 a1 J.1 J.2 J.2 (J.2.length:Int) 0).bind fun qq =>
  lpS qq (fun q=>some q) fun qx =>
  (slc a1 1 a3).bind fun U =>
  (ci N N a2 J.1 J.2 U (U.length:Int) 0).bind fun qr =>
  lpS qr (fun q=>some q) fun qy =>
  (ix J.2 0).bind fun qu =>
  (ix a2 qu).bind fun qv =>
  (ad qv 1).bind fun qw =>
  some (qw,true))
  else
  some (0,false))
  else
  some (0,false)))
def aT (N:Nat):Nat→(List Int)→(List (List Int × List Int))→(List Int)→Int→Option (Sum Bool ((List Int) × Int))
 | 0,_,_,_,_=>none
 | k+1,Z,Y,U,J =>
  (bif decide (J<(Y.length:Int)) then
  (eP N Z Y U J).bind fun qp =>
  (bif qp.2 then
  (ix U J).bind fun qu =>
  (sto U J qp.1).bind fun qq =>
  (ad J 1).bind fun qr =>
  aT N k Z Y qq qr
  else
  some (.inl false))
  else
  some (.inr (U,J)))
def bK (N:Nat) (a0:List Int) (a1:List (List Int × List Int)):Option Bool :=
  (c8 N a0).bind fun U =>
  (bif U then
  (b9 N (a1.length:Int) 1 4000).bind fun Y =>
  (bif Y then
  (ix a1 0).bind fun Z =>
  (bif decide (0<(Z.1.length:Int)) then
  some false
  else
  (ix a1 0).bind fun qp =>
  (bif decide (0<(qp.2.length:Int)) then
  some false
  else
  (mk 8 (0:Int) (a1.length:Int)).bind fun qq =>
  (aT N N a0 a1 qq 1).bind fun qr =>
  lpS qr (fun q=>some q) fun (J,qw) =>
  (sb (J.length:Int) 1).bind fun qu =>
  (ix J qu).bind fun qv =>
  some (qv == (a0.length:Int))))
  else
  some false)
  else
  some false)
def e5 (N:Nat) (a0:Int) (a1:List Int) (a2:List (List Int × List Int)) (a3:Int) (a4:Int) (a5:Int):Option Int :=
  (sb (a1.length:Int) a3).bind fun J =>
  (ix a1 J).bind fun U =>
  (cZ N a0 U a4).bind fun Y =>
  (c3 N a0 Y a5).bind fun Z =>
  some Z
def bY (N:Nat):Nat→Int→(List Int)→(List (List Int × List Int))→(List Int)→(List Int)→Int→(List Int)→(List Int)→(List (List Int × List Int))→Int→Int→(List Int)→Int→Int→Option ((List Int) × (List Int) × Int)
 | 0,_,_,_,_,_,_,_,_,_,_,_,_,_,_=>none
 | k+1,qp,qq,qr,U,Z,J,qu,qz,qA,qB,qC,qv,qw,Y =>
  (bif decide (Y<qw) then
  (ix qv Y).bind fun qx =>
  (ix Z qx).bind fun qD =>
  (ad qD 1).bind fun qE =>
  (ix Z J).bind fun qO =>
  (sto Z J qE).bind fun qy =>
  (ix U J).bind fun qF =>
  (ix qy J).bind fun qG =>
  (ix qu Y).bind fun qH =>
  (ix U qx).bind fun qI =>
  (e5 N qp qq qr qG qH qI).bind fun qJ =>
  (b7 N qp qF qJ).bind fun qK =>
  (ix U J).bind fun qP =>
  (sto U J qK).bind fun qL =>
  (ad Y 1).bind fun qN =>
  bY N k qp qq qr qL qy J qu qz qA qB qC qv qw qN
  else
  some (U,Z,Y))
def bB (N:Nat):Nat→Int→(List Int)→(List (List Int × List Int))→(List Int)→(List Int)→(List (List Int × List Int))→Int→Int→Option ((List Int) × (List Int) × Int)
 | 0,_,_,_,_,_,_,_,_=>none
 | k+1,U,qr,qu,Y,qv,Z,qp,J =>
  (bif decide (J<qp) then
  (ix Z J).bind fun qq =>
  (bif (J == 0) then
  (cT N U).bind fun qw =>
  (ix Y 0).bind fun qF =>
  (sto Y 0 qw).bind fun qx =>
  (ad J 1).bind fun qy =>
  bB N k U qr qu qx qv Z qp qy
  else
  (bN N U).bind fun qz =>
  (ix Y J).bind fun qG =>
  (sto Y J qz).bind fun qA =>
  (bY N N U qr qu qA qv J qq.1 qq.2 Z qp J qq.2 (qq.2.length:Int) 0).bind fun qB =>
  lpB qB fun (qC,qD,qH) =>
  (ad J 1).bind fun qE =>
  bB N k U qr qu qC qD Z qp qE)
  else
  some (Y,qv,J))
def c9 (N:Nat) (a0:Int) (a1:List Int) (a2:List (List Int × List Int)):Option (List Int) :=
  (mk 8 (0:Int) (a2.length:Int)).bind fun J =>
  (mk 8 (0:Int) (a2.length:Int)).bind fun U =>
  (bB N N a0 a1 a2 J U a2 (a2.length:Int) 0).bind fun Y =>
  lpB Y fun (Z,qp,qq) =>
  some Z
def dT (N:Nat) (a0:List Int):Option (List Int) :=
  (apd 8 [] a0).bind fun J =>
  some J
def bH (N:Nat):Nat→Int→(List Int)→(List (List Int × List Int))→(List Int)→(List Int)→(List Int)→(List Int)→(List Int)→Int→Int→Option ((List Int) × Int)
 | 0,_,_,_,_,_,_,_,_,_,_=>none
 | k+1,Y,U,Z,qp,qw,qq,qr,qu,qv,J =>
  (bif decide (J<qv) then
  (ix qu J).bind fun qx =>
  (ix qq J).bind fun qy =>
  (ix qp qy).bind fun qz =>
  (e5 N Y U Z (U.length:Int) qx qz).bind fun qA =>
  (apd 8 qr [qA]).bind fun qB =>
  (ad J 1).bind fun qC =>
  bH N k Y U Z qp qw qq qB qu qv qC
  else
  some (qr,J))
def bU (N:Nat) (a0:Int) (a1:List Int) (a2:List (List Int × List Int)):Option ((List Int) × (List Int)) :=
  (bI N a0).bind fun U =>
  (bif U then
  (bK N a1 a2).bind fun Y =>
  (bif Y then
  (bif ((a1.length:Int) == 0) then
  some ([],[])
  else
  (c9 N a0 a1 a2).bind fun Z =>
  (sb (a2.length:Int) 1).bind fun qp =>
  (ix a2 qp).bind fun J =>
  (bH N N a0 a1 a2 Z J.1 J.2 [] J.1 (J.1.length:Int) 0).bind fun qq =>
  lpB qq fun (qr,qv) =>
  (dT N J.1).bind fun qu =>
  some (qu,qr))
  else
  some ([],[]))
  else
  some ([],[]))
def bo (N:Nat) (a0:Int) (a1:List Int) (a2:List (List Int × List Int)):Option Int :=
  (bI N a0).bind fun U =>
  (bif U then
  (bK N a1 a2).bind fun Y =>
  (bif Y then
  (c9 N a0 a1 a2).bind fun J =>
  (sb (J.length:Int) 1).bind fun Z =>
  (ix J Z).bind fun qp =>
  some qp
  else
  (bN N a0).bind fun qq =>
  some qq)
  else
  (bN N a0).bind fun qr =>
  some qr)
def cc (N:Nat):Nat→Int→Int→(List (List Int))→Int→(List Int)→Int→Int→Option (Int × Int)
 | 0,_,_,_,_,_,_,_=>none
 | k+1,Y,qp,qq,qr,U,Z,J =>
  (bif decide (J<(U.length:Int)) then
  (ix U J).bind fun qu =>
  (b7 N Y Z qu).bind fun qv =>
  (ad J 1).bind fun qw =>
  cc N k Y qp qq qr U qv qw
  else
  some (Z,J))
def dL (N:Nat) (a0:List Int):Option Bool :=
  (gX N a0).bind fun qp =>
  (bif qp then
  some true
  else
  (bX N a0).bind fun J =>
  (cu N J.1 J.2.1 J.2.2).bind fun U =>
  (cp N J.1 J.2.1 J.2.2).bind fun qq =>
  (bif (U != qq) then
  some false
  else
  (co N J.2.1 J.2.2).bind fun Y =>
  (bif Y.2 then
  (bU N J.1 Y.1.1 Y.1.2).bind fun Z =>
  (bo N J.1 Y.1.1 Y.1.2).bind fun qr =>
  (bif (qr != U) then
  some false
  else
  (bif ((Z.1.length:Int) != (Z.2.length:Int)) then
  some false
  else
  (bN N J.1).bind fun qu =>
  (cc N N J.1 J.2.1 J.2.2 U Z.2 qu 0).bind fun qv =>
  lpB qv fun (qw,qz) =>
  (bJ N J.1).bind fun qx =>
  (bif qx then
  (bif (J.2.1 == 0) then
  some true
  else
  some (qw == U))
  else
  some true)))
  else
  (cK N J.1).bind fun qy =>
  some (U == qy))))
end Go.Proofs.Ytdapplkijobjoaa
namespace Go.Proofs.Ytdapplkijobjoaa
open Go.RowKit

def inR (n lo hi:Int):Bool:=decide (lo≤n)&&decide (n≤hi)
theorem eq (N:Nat) (n lo hi:Int):b9 N n lo hi=some (inR n lo hi):=by
 unfold b9 inR;cases decide (lo≤n) <;> rfl
theorem iO (N:Nat) (n lo hi:Int):dE N n lo hi=some (inR n lo hi):=by
 unfold dE inR;cases decide (lo≤n) <;> rfl
theorem cS {n lo hi:Int}:inR n lo hi=true↔lo≤n∧n≤hi:=by unfold inR;simp
def eT (a b:Int):Int:=if a<b then -1 else if b<a then 1 else 0
def aX:List Int→List Int→Int
 | [],[]=>0
 | [],_ :: _=>-1
 | _ :: _,[]=>1
 | a :: xs,b :: ys=>if a<b then -1 else if b<a then 1 else aX xs ys
theorem eg:∀ {xs ys:List Int},aX xs ys=0↔xs=ys
 | [],[]=>by simp [aX]
 | [],_ :: _=>by simp [aX]
 | _ :: _,[]=>by simp [aX]
 | a :: xs,b :: ys=>by
  unfold aX
  by_cases h1:a<b
  ·rw [if_pos h1];simp;omega
  ·rw [if_neg h1]
   by_cases h2:b<a
   ·rw [if_pos h2];simp;omega
   ·rw [if_neg h2,eg,List.cons.injEq]
    constructor
    ·rintro rfl;exact ⟨by omega,rfl⟩
    ·exact fun h=>h.2
theorem kU (xs:List Int):aX xs []=if xs.length=0 then 0 else 1:=by cases xs <;> simp [aX]
theorem k8 (xs:List Int):aX [] xs=if xs.length=0 then 0 else -1:=by cases xs <;> simp [aX]
theorem gL (N:Nat) (a b:Int):cx N a b=some (eT a b):=by
 unfold cx eT
 by_cases h1:a<b
 ·rw [decide_eq_true h1,if_pos h1];rfl
 ·rw [decide_eq_false h1,if_neg h1]
  by_cases h2:b<a
  ·rw [decide_eq_true h2,if_pos h2];rfl
  ·rw [decide_eq_false h2,if_neg h2];rfl
theorem dg {α:Type} {xs:List α} {i:Nat} (h:i<xs.length):xs.drop i=xs[i] :: xs.drop (i+1):=List.drop_eq_getElem_cons h
section
variable {N:Nat} {xs ys:List Int}
theorem nv (hx:xs.length≤1048576) (hy:ys.length≤9223372036854775807):∀ k i,i≤xs.length→i≤ys.length→xs.length-i<k →
  ∃ s,cO N k xs ys (i:Int)=some s∧(match s with | .inl r=>aX (xs.drop i) (ys.drop i)=r | .inr _=>aX (xs.drop i) (ys.drop i)=eT xs.length ys.length):=by
 intro k
 induction k with
 | zero=>intro i h1 h2 h3;omega
 | succ k ih =>
  intro i h1 h2 h3
  rw [cO]
  by_cases h:i<xs.length
  ·by_cases h':i<ys.length
   ·rw [dlt h,cond_true,dlt h',cond_true,aS h,bs,aS h',bs,dg h,dg h',aX]
    by_cases he:xs[i]=ys[i]
    ·rw [show (xs[i] != ys[i])=false by simpa using he,cond_false,ad1 (by omega),bs,if_neg (by omega),if_neg (by omega)]
     exact ih (i+1) (by omega) (by omega) (by omega)
    ·rw [show (xs[i] != ys[i])=true by simpa using he,cond_true,bs,bs,gL,bs]
     refine ⟨_,rfl,?_⟩
     show _=eT xs[i] ys[i]
     unfold eT
     by_cases h1:xs[i]<ys[i]
     ·rw [if_pos h1,if_pos h1]
     ·rw [if_neg h1,if_neg h1,if_pos (by omega),if_pos (by omega)]
   ·rw [dlt h,cond_true,dge h',cond_false]
    refine ⟨_,rfl,?_⟩
    show _=eT _ _
    rw [List.drop_of_length_le (l:=ys) (by omega),kU,if_neg (by simp;omega)]
    unfold eT;rw [if_neg (by omega),if_pos (by omega)]
  ·rw [dge h,cond_false]
   refine ⟨_,rfl,?_⟩
   show _=eT _ _
   rw [List.drop_of_length_le (l:=xs) (by omega),k8]
   unfold eT
   by_cases h':i<ys.length
   ·rw [if_neg (by simp;omega),if_pos (by omega)]
   ·rw [if_pos (by simp;omega),if_neg (by omega),if_neg (by omega)]
theorem ia (hN:1073741824≤N) (hx:xs.length≤1048576) (hy:ys.length≤9223372036854775807):dr N xs ys=some (aX xs ys):=by
 obtain ⟨s,h1,h2⟩:=nv (N:=N) hx hy N 0 (by omega) (by omega) (by omega)
 unfold dr
 rw [show ((0:Int))=((0:Nat):Int) from rfl,h1,bs]
 simp only [List.drop_zero] at h2
 cases s with
 | inl r=>rw [h2];rfl
 | inr v=>show (cx N _ _).bind _=_;rw [gL,bs,h2]
theorem nC (hx:xs.length≤1048576) (hy:ys.length≤9223372036854775807):∀ k i,i≤xs.length→i≤ys.length→xs.length-i<k →
  ∃ s,cP N k xs ys (i:Int)=some s∧(match s with | .inl r=>aX (xs.drop i) (ys.drop i)=r | .inr _=>aX (xs.drop i) (ys.drop i)=eT xs.length ys.length):=by
 intro k
 induction k with
 | zero=>intro i h1 h2 h3;omega
 | succ k ih =>
  intro i h1 h2 h3
  rw [cP]
  by_cases h:i<xs.length
  ·by_cases h':i<ys.length
   ·rw [dlt h,cond_true,dlt h',cond_true,aS h,bs,aS h',bs,dg h,dg h',aX]
    by_cases he:xs[i]<ys[i]
    ·rw [decide_eq_true he,cond_true,if_pos he];exact ⟨_,rfl,rfl⟩
    ·rw [decide_eq_false he,cond_false,if_neg he,bs,bs]
     by_cases he2:ys[i]<xs[i]
     ·rw [decide_eq_true he2,cond_true,if_pos he2];exact ⟨_,rfl,rfl⟩
     ·rw [decide_eq_false he2,cond_false,if_neg he2,ad1 (by omega),bs]
      exact ih (i+1) (by omega) (by omega) (by omega)
   ·rw [dlt h,cond_true,dge h',cond_false]
    refine ⟨_,rfl,?_⟩
    show _=eT _ _
    rw [List.drop_of_length_le (l:=ys) (by omega),kU,if_neg (by simp;omega)]
    unfold eT;rw [if_neg (by omega),if_pos (by omega)]
  ·rw [dge h,cond_false]
   refine ⟨_,rfl,?_⟩
   show _=eT _ _
   rw [List.drop_of_length_le (l:=xs) (by omega),k8]
   unfold eT
   by_cases h':i<ys.length
   ·rw [if_neg (by simp;omega),if_pos (by omega)]
   ·rw [if_pos (by simp;omega),if_neg (by omega),if_neg (by omega)]
theorem cQ (hN:1073741824≤N) (hx:xs.length≤1048576) (hy:ys.length≤9223372036854775807):aH N xs ys=some (aX xs ys):=by
 obtain ⟨s,h1,h2⟩:=nC (N:=N) hx hy N 0 (by omega) (by omega) (by omega)
 unfold aH
 rw [show ((0:Int))=((0:Nat):Int) from rfl,h1,bs]
 simp only [List.drop_zero] at h2
 cases s with
 | inl r=>rw [h2];rfl
 | inr v =>
  rw [h2]
  show (bif decide ((xs.length:Int)<(ys.length:Int)) then _ else _)=_
  unfold eT
  by_cases h1:(xs.length:Int)<ys.length
  ·rw [decide_eq_true h1,if_pos h1];rfl
  ·rw [decide_eq_false h1,if_neg h1,cond_false]
   by_cases h2:(ys.length:Int)<xs.length
   ·rw [decide_eq_true h2,if_pos h2];rfl
   ·rw [decide_eq_false h2,if_neg h2];rfl
theorem ja (hN:1073741824≤N) (hx:xs.length≤1048576):dx N xs ys=some (decide (xs=ys)):=by
 unfold dx
 by_cases hl:xs.length=ys.length
 ·rw [show ((xs.length:Int) != (ys.length:Int))=false by simp [hl],cond_false]
  have:=gr (L:=fun k i=>b8 N k xs ys (xs.length:Int) i) xs.length (by omega) false (fun i=>if h:i<xs.length then decide (xs[i]=ys[i]'(by omega)) else true) (xs.length:Int)
   (fun k i h=>by
    show b8 N (k+1) xs ys _ (i:Int)=_
    rw [b8,dlt h,cond_true,aS h,bs,aS (by omega),bs,ad1 (by omega),bs,kH]
    simp only [dif_pos h]
    cases decide (xs[i]=ys[i]'(by omega)) <;> rfl)
   (fun k=>by
    show b8 N (k+1) xs ys _ (xs.length:Int)=_
    rw [b8,dge (by omega),cond_false]) N 0 (by omega) (by omega)
  rw [show ((0:Int))=((0:Nat):Int) from rfl,this,bs,Nat.sub_zero,nu hl _ (fun i hi=>by rw [dif_pos hi])]
  cases decide (xs=ys) <;> rfl
 ·rw [show ((xs.length:Int) != (ys.length:Int))=true by simp;omega,cond_true,eq_comm]
  congr 1
  simp
  intro e;subst e;exact hl rfl
def fnd (v:Int):List Int→Int→Int
 | [],_=>-1
 | x :: xs,i=>if x=v then i else fnd v xs (i+1)
def gz (xs:List Int) (v:Int):Int:=fnd v xs 0
theorem kI (v:Int):∀ (xs:List Int) (i:Nat),(v∉xs∧fnd v xs i=-1)∨∃ j,∃ h:j<xs.length,xs[j]=v∧fnd v xs i=((i+j:Nat):Int)∧v∉xs.take j
 | [],i=>.inl ⟨by simp,rfl⟩
 | x :: xs,i=>by
  unfold fnd
  by_cases h:x=v
  ·rw [if_pos h];exact .inr ⟨0,by simp,by simpa using h,by simp,by simp⟩
  ·rw [if_neg h]
   rcases kI v xs (i+1) with ⟨h1,h2⟩ | ⟨j,hj,h1,h2,h3⟩
   ·exact .inl ⟨by simp [h1,Ne.symm h],by simpa using h2⟩
   ·exact .inr ⟨j+1,by simpa using hj,by simpa using h1,by rw [show ((i:Int)+1)=((i+1:Nat):Int) by simp,h2];congr 1;omega,by simp [h3,Ne.symm h]⟩
theorem md (xs:List Int) (v:Int):(v∉xs∧gz xs v=-1)∨∃ j,∃ h:j<xs.length,xs[j]=v∧gz xs v=(j:Int)∧v∉xs.take j:=by
 have:=kI v xs 0
 simpa [gz] using this
theorem kW (xs:List Int) (v:Int):decide (0≤gz xs v)=decide (v∈xs):=by
 rcases md xs v with ⟨h1,h2⟩ | ⟨j,hj,h1,h2,_⟩
 ·rw [h2,decide_eq_false (by omega),decide_eq_false h1]
 ·rw [h2,decide_eq_true (by omega),decide_eq_true (h1 ▸ List.getElem_mem hj)]
theorem mt (hN:1073741824≤N) (hx:xs.length≤1048576) (v:Int):d5 N xs v=some (gz xs v):=by
 have key:∀ k i,i≤xs.length→xs.length-i<k→∃ s,dF N k v xs (xs.length:Int) (i:Int)=some s∧(match s with | .inl r=>fnd v (xs.drop i) i=r | .inr _=>fnd v (xs.drop i) i=-1):=by
  intro k
  induction k with
  | zero=>intro i h1 h2;omega
  | succ k ih =>
   intro i h1 h2
   rw [dF]
   by_cases h:i<xs.length
   ·rw [dlt h,cond_true,aS h,bs,dg h,fnd]
    by_cases he:xs[i]=v
    ·rw [show (xs[i] == v)=true by simpa using he,cond_true,if_pos he];exact ⟨_,rfl,rfl⟩
    ·rw [show (xs[i] == v)=false by simpa using he,cond_false,if_neg he,ad1 (by omega),bs]
     have:=ih (i+1) (by omega) (by omega)
     simpa using this
   ·rw [dge h,cond_false,List.drop_of_length_le (by omega)];exact ⟨_,rfl,rfl⟩
 obtain ⟨s,h1,h2⟩:=key N 0 (by omega) (by omega)
 unfold d5 gz
 rw [show ((0:Int))=((0:Nat):Int) from rfl,h1,bs]
 simp only [List.drop_zero] at h2
 cases s with
 | inl r=>rw [h2];rfl
 | inr r=>rw [h2];rfl
theorem nm (hN:1073741824≤N) (hx:xs.length≤1048576) (v:Int):eL N xs v=some (decide (v∈xs)):=by
 unfold eL;rw [mt hN hx,bs,kW]
def aM (xs:List Int):Bool:=xs.all fun x=>inR x 0 99
theorem eK (hN:1073741824≤N) (hx:xs.length≤1048576):cm N xs=some (aM xs):=by
 have:=gr (L:=fun k i=>bz N k xs (xs.length:Int) i) xs.length (by omega) false (fun i=>if h:i<xs.length then inR xs[i] 0 99 else true) (xs.length:Int)
  (fun k i h=>by
   show bz N (k+1) xs _ (i:Int)=_
   rw [bz,dlt h,cond_true,aS h,bs,eq,bs,ad1 (by omega),bs]
   simp only [dif_pos h])
  (fun k=>by
   show bz N (k+1) xs _ (xs.length:Int)=_
   rw [bz,dge (by omega),cond_false]) N 0 (by omega) (by omega)
 unfold cm aM
 rw [show ((0:Int))=((0:Nat):Int) from rfl,this,bs,Nat.sub_zero,gt xs (fun x=>inR x 0 99) _ (fun i hi=>by rw [dif_pos hi])]
 cases xs.all fun x=>inR x 0 99 <;> rfl
theorem eI (hN:1073741824≤N) (hx:xs.length≤1048576):cn N xs=some (aM xs):=by
 have:=gr (L:=fun k i=>bx N k xs i) xs.length (by omega) false (fun i=>if h:i<xs.length then inR xs[i] 0 99 else true) (xs.length:Int)
  (fun k i h=>by
   show bx N (k+1) xs (i:Int)=_
   rw [bx,dlt h,cond_true,aS h,bs,iO,bs,ad1 (by omega),bs]
   simp only [dif_pos h])
  (fun k=>by
   show bx N (k+1) xs (xs.length:Int)=_
   rw [bx,dge (by omega),cond_false]) N 0 (by omega) (by omega)
 unfold cn aM
 rw [show ((0:Int))=((0:Nat):Int) from rfl,this,bs,Nat.sub_zero,gt xs (fun x=>inR x 0 99) _ (fun i hi=>by rw [dif_pos hi])]
 cases xs.all fun x=>inR x 0 99 <;> rfl
def asc:List Int→Bool
 | []=>true
 | [_]=>true
 | x :: y :: t=>decide (x<y)&&asc (y :: t)
theorem qf {L:Nat→Int→Option (Sum Bool Int)} (hx:xs.length≤1048576)
  (hs:∀ k i (h:i+1<xs.length),L (k+1) ((i+1:Nat):Int)=bif decide (xs[i+1]≤xs[i]) then some (.inl false) else L k ((i+2:Nat):Int)) (he:∀ k i,xs.length≤i→L (k+1) (i:Int)=some (.inr (i:Int))) :
  ∀ k i,xs.length-i<k→L k ((i+1:Nat):Int)=some (if asc (xs.drop i) then .inr ((max xs.length (i+1):Nat):Int) else .inl false):=by
 intro k
 induction k with
 | zero=>intro i hk;omega
 | succ k ih =>
  intro i hk
  by_cases h:i+1<xs.length
  ·rw [hs k i h,dg (by omega:i<xs.length),dg h,asc]
   by_cases hle:xs[i+1]≤xs[i]
   ·rw [decide_eq_true hle,cond_true,decide_eq_false (by omega)];rfl
   ·rw [decide_eq_false hle,cond_false,decide_eq_true (by omega:xs[i]<xs[i+1]),Bool.true_and,← dg h]
    have:=ih (i+1) (by omega)
    rw [this]
    congr 2
    rw [Nat.max_eq_left (by omega),Nat.max_eq_left (by omega)]
  ·rw [he k (i+1) (by omega)]
   have ha:asc (xs.drop i)=true:=by
    by_cases h2:i<xs.length
    ·rw [dg h2,List.drop_of_length_le (by omega)];rfl
    ·rw [List.drop_of_length_le (by omega)];rfl
   rw [ha,if_pos rfl,Nat.max_eq_right (by omega)]
theorem fN (hN:1073741824≤N) (hx:xs.length≤1048576):bZ N xs=some (asc xs):=by
 have:=qf (L:=fun k i=>bc N k xs i) hx
  (fun k i h=>by
   show bc N (k+1) xs ((i+1:Nat):Int)=_
   rw [bc,dlt h,cond_true,et (by omega) (by omega),bs,show (((i+1:Nat):Int)-1)=(i:Int) by omega,aS (by omega),bs,aS h,bs,ad1 (by omega),bs])
  (fun k i h=>by
   show bc N (k+1) xs (i:Int)=_
   rw [bc,dge (by omega),cond_false]) N 0 (by omega)
 unfold bZ
 rw [show ((1:Int))=((0+1:Nat):Int) from rfl,this,bs,List.drop_zero]
 cases asc xs <;> rfl
def gh (xs:List Int) (n:Int):Bool:=(List.range' 0 xs.length).all fun i=>inR (xs.getD i 0) 0 (n-1)&&!decide (xs.getD i 0∈xs.take i)
theorem cB {xs:List Int} {i:Nat} (h:i<xs.length):xs.getD i 0=xs[i]:=by simp [h]
theorem me (hN:1073741824≤N) (hx:xs.length≤1048576) {n:Int} (hn:-1099511627776≤n∧n≤1099511627776):eh N xs n=some (gh xs n):=by
 have:=gr (L:=fun k i=>ck N k xs n xs (xs.length:Int) i) xs.length (by omega) false (fun i=>inR (xs.getD i 0) 0 (n-1)&&!decide (xs.getD i 0∈xs.take i)) (xs.length:Int)
  (fun k i h=>by
   show ck N (k+1) xs n xs _ (i:Int)=_
   rw [ck,dlt h,cond_true,aS h,bs,et (by omega) (by omega),bs,eq,bs,show ((0:Int))=((0:Nat):Int) from rfl,gN (Nat.zero_le _) (by omega),bs,List.drop_zero,nm hN (by simp;omega),bs,ad1 (by omega),bs]
   simp only [show ((0:Nat):Int)=0 from rfl,cB h]
   cases inR xs[i] 0 (n-1)
   ·rfl
   ·cases decide (xs[i]∈xs.take i) <;> rfl)
  (fun k=>by
   show ck N (k+1) xs n xs _ (xs.length:Int)=_
   rw [ck,dge (by omega),cond_false]) N 0 (by omega) (by omega)
 unfold eh gh
 rw [show ((0:Int))=((0:Nat):Int) from rfl,this,bs,Nat.sub_zero]
 simp only [show ((0:Nat):Int)=0 from rfl]
 cases (List.range' 0 xs.length).all fun i=>inR (xs.getD i 0) 0 (n-1)&&!decide (xs.getD i 0∈xs.take i) <;> rfl
def eY (xs:List Int):Bool:=decide ((xs.length:Int)≤5)&&gh xs xs.length
theorem gM (hN:1073741824≤N) (hx:xs.length≤1048576):c8 N xs=some (eY xs):=by
 unfold c8 eY
 rw [me hN hx (by omega),bs]
 cases decide ((xs.length:Int)≤5) <;> rfl
end
end Go.Proofs.Ytdapplkijobjoaa
namespace Go.Proofs.Ytdapplkijobjoaa
open Go.RowKit

abbrev okI (xs:List Int):Prop:=hP (fun _=>True) 1048576 xs
abbrev dW (xs:List (List Int)):Prop:=hP (hP (fun _=>True) 1048576) 1048576 xs
abbrev okN (xs:List (List Int × List Int)):Prop:=hP (fun x=>(hP (fun _=>True) 1048576) x.1∧(hP (fun _=>True) 1048576) x.2) 1048576 xs
section
variable {N:Nat}
theorem nT (xs ys:List Int):(aX xs ys != 0)=!decide (xs=ys):=by
 rw [kH];congr 1;rw [decide_eq_decide];exact eg
theorem kV (xs ys:List Int):(aX xs ys == 0)=decide (xs=ys):=by
 rw [e8,decide_eq_decide];exact eg
end
end Go.Proofs.Ytdapplkijobjoaa
namespace Go.Proofs.Ytdapplkijobjoaa
open Go.RowKit

def f9 (n:Int) (rows:List (List Int)) (i:Nat):Bool :=
 decide (((rows.getD i []).length:Int)=n)&&aM (rows.getD i [])&&(Nat.beq i 0||decide (aX (rows.getD (i-1) []) (rows.getD i [])<0))
def bm (n:Int) (rows:List (List Int)):Bool:=inR n 0 5&&decide ((rows.length:Int)≤4000)&&(List.range' 0 rows.length).all (f9 n rows)
theorem db {rows:List (List Int)} {i:Nat} (h:i<rows.length):rows.getD i []=rows[i]:=by simp [h]
section
variable {N:Nat}
theorem kl (a:Int):decide (0≤a)=!decide (a<0):=by by_cases h:a<0 <;> simp [h];omega
theorem lk (hN:1073741824≤N) {n:Int} {rows:List (List Int)} (hx:dW rows):dS N n rows=some (bm n rows):=by
 have hl:=hx.1
 have:=gr (L:=fun k i=>bO N k n rows rows (rows.length:Int) i) rows.length (by omega) false (f9 n rows) (rows.length:Int)
  (fun k i h=>by
   have h1:=(hx.2 _ (List.getElem_mem h)).1
   show bO N (k+1) n rows rows _ (i:Int)=_
   rw [bO,dlt h,cond_true,aS h,bs,kH,eK hN h1,bs]
   unfold f9
   rw [db h]
   cases decide ((rows[i].length:Int)=n)
   ·rfl
   cases aM rows[i]
   ·rfl
   cases i with
   | zero=>rw [ad1 (by omega)];rfl
   | succ j =>
    rw [show decide (0<((j+1:Nat):Int))=true from decide_eq_true (by omega),et (by omega) (by omega),bs,show (((j+1:Nat):Int)-1)=(j:Int) by omega,aS (by omega),bs,ia hN (hx.2 _ (List.getElem_mem (by omega))).1 (by omega),bs,ad1 (by omega),bs,kl,Nat.add_sub_cancel,db (by omega)]
    cases decide (aX rows[j] rows[j+1]<0) <;> rfl)
  (fun k=>by
   show bO N (k+1) n rows rows _ (rows.length:Int)=_
   rw [bO,dge (by omega),cond_false]) N 0 (by omega) (by omega)
 unfold dS bm
 rw [eq,bs,show ((0:Int))=((0:Nat):Int) from rfl,this,bs,Nat.sub_zero]
 by_cases h4:(rows.length:Int)≤4000
 ·rw [decide_eq_true h4,decide_eq_false (by omega:¬ (4000:Int)<rows.length)]
  simp only [show ((0:Nat):Int)=0 from rfl]
  cases inR n 0 5 <;> cases (List.range' 0 rows.length).all (f9 n rows) <;> rfl
 ·rw [decide_eq_false h4,decide_eq_true (by omega:(4000:Int)<rows.length)]
  simp only [show ((0:Nat):Int)=0 from rfl]
  cases inR n 0 5 <;> rfl
theorem go (hN:1073741824≤N) {n:Int} {rows:List (List Int)} (hx:dW rows):cI N n rows=some (bm n rows):=by
 unfold cI;rw [lk hN hx,bs]
theorem dw (hN:1073741824≤N) {n:Int} {rows:List (List Int)} (hx:dW rows):bV N n rows=some (bm n rows):=by
 have hl:=hx.1
 have:=gr (L:=fun k i=>bf N k n rows i) rows.length (by omega) false (f9 n rows) (rows.length:Int)
  (fun k i h=>by
   have h1:=(hx.2 _ (List.getElem_mem h)).1
   show bf N (k+1) n rows (i:Int)=_
   rw [bf,dlt h,cond_true,aS h,bs,kH,bs,eI hN h1,bs]
   unfold f9
   rw [db h]
   cases decide ((rows[i].length:Int)=n)
   ·rfl
   cases aM rows[i]
   ·rfl
   cases i with
   | zero=>rw [ad1 (by omega)];rfl
   | succ j =>
    rw [show decide (0<((j+1:Nat):Int))=true from decide_eq_true (by omega),et (by omega) (by omega),bs,show (((j+1:Nat):Int)-1)=(j:Int) by omega,aS (by omega),bs,bs,cQ hN (hx.2 _ (List.getElem_mem (by omega))).1 (by omega),bs,ad1 (by omega),bs,kl,Nat.add_sub_cancel,db (by omega)]
    cases decide (aX rows[j] rows[j+1]<0) <;> rfl)
  (fun k=>by
   show bf N (k+1) n rows (rows.length:Int)=_
   rw [bf,dge (by omega),cond_false]) N 0 (by omega) (by omega)
 unfold bV bm
 rw [iO,bs,show ((0:Int))=((0:Nat):Int) from rfl,this,bs,Nat.sub_zero]
 by_cases h4:(rows.length:Int)≤4000
 ·rw [decide_eq_true h4,decide_eq_false (by omega:¬ (4000:Int)<rows.length)]
  simp only [show ((0:Nat):Int)=0 from rfl]
  cases inR n 0 5 <;> cases (List.range' 0 rows.length).all (f9 n rows) <;> rfl
 ·rw [decide_eq_false h4,decide_eq_true (by omega:(4000:Int)<rows.length)]
  simp only [show ((0:Nat):Int)=0 from rfl]
  cases inR n 0 5 <;> rfl
theorem dR {n:Int} {rows:List (List Int)} (h:bm n rows=true):0≤n∧n≤5∧rows.length≤4000∧∀ i (hi:i<rows.length),(rows[i].length:Int)=n∧aM rows[i]=true∧(∀ j (hj:j+1=i),aX (rows[j]'(by omega)) rows[i]<0):=by
 unfold bm at h
 simp only [Bool.and_eq_true,cS,decide_eq_true_eq,List.all_eq_true] at h
 refine ⟨h.1.1.1,h.1.1.2,by omega,fun i hi=>?_⟩
 have:=h.2 i (by simp;omega)
 unfold f9 at this
 rw [db hi] at this
 simp only [Bool.and_eq_true,decide_eq_true_eq,Bool.or_eq_true] at this
 refine ⟨this.1.1,this.1.2,?_⟩
 rintro j rfl
 rcases this.2 with h2 | h2
 ·exact absurd (Nat.eq_of_beq_eq_true h2) (by omega)
 ·rw [Nat.add_sub_cancel,db (by omega)] at h2;exact h2

def clp (n:Int):Int:=imx 0 (imn n 1000000000)
theorem be (n:Int):0≤clp n∧clp n≤1000000000:=by unfold clp imx imn;(repeat' split) <;> omega
theorem iK (n:Int):c7 N n=some (clp n):=rfl
theorem io (n:Int):bW N n=some (clp n):=by unfold bW clp imx imn;congr 1;(repeat' split) <;> omega
def aQ (k:Int):Int:=if k=2 then 1000000000 else 0
def cH (k:Int):Int:=if k=1∨k=3∨k=4 then 1 else 0
def bq (k a b:Int):Int :=
 if k=1 then clp (clp a+clp b) else if k=2 then imn (clp a) (clp b) else if k=3 then (if 0<clp a∨0<clp b then 1 else 0) else if k=4 then imx (clp a) (clp b) else 0
def bl (k a b:Int):Int :=
 if k=1∨k=4 then clp (clp a*clp b) else if k=2 then clp (clp a+clp b) else if k=3 then (if 0<clp a∧0<clp b then 1 else 0) else 0
theorem bv (k:Int):bN N k=some (aQ k):=by
 unfold bN aQ;rw [e8];by_cases h:k=2 <;> simp [h]
theorem fb (k:Int):cK N k=some (aQ k):=by
 unfold cK aQ;rw [e8];by_cases h:k=2 <;> simp [h]
theorem bR (k:Int):bI N k=some (inR k 1 4):=by unfold bI;rw [eq,bs]
theorem bF (k:Int):bJ N k=some (inR k 1 4):=by unfold bJ;rw [iO,bs]
theorem dX (k:Int):cT N k=some (cH k):=by
 unfold cT cH;simp only [e8]
 by_cases h1:k=1
 ·simp [h1]
 by_cases h3:k=3
 ·simp [h3]
 by_cases h4:k=4
 ·simp [h4]
 simp [h1,h3,h4]
theorem ib (k:Int):dp N k=some (cH k):=by
 unfold dp cH;simp only [e8,bF,bs]
 by_cases h2:k=2
 ·simp [h2]
 rw [decide_eq_false h2,cond_false]
 by_cases h:k=1∨k=3∨k=4
 ·rw [if_pos h,show inR k 1 4=true from cS.2 (by omega)];rfl
 ·rw [if_neg h,show inR k 1 4=false from by rw [← Bool.not_eq_true,cS];omega];rfl
theorem mK {a b:Int} (ha:0≤a∧a≤1000000000) (hb:0≤b∧b≤1000000000):0≤a*b∧a*b≤1000000000000000000 :=
 ⟨Int.mul_nonneg ha.1 hb.1,Int.le_trans (Int.mul_le_mul ha.2 hb.2 hb.1 (by omega)) (by omega)⟩
theorem fq (k a b:Int):c3 N k a b=some (bl k a b):=by
 unfold c3 bl
 have ha:=be a;have hb:=be b;have hm:=mK ha hb
 simp only [iK,bs,e8,gx (by omega:-4611686018427387904≤clp a*clp b) (by omega),cF (by omega:-4611686018427387904≤clp a+clp b) (by omega)]
 by_cases h1:k=1
 ·simp [h1]
 by_cases h4:k=4
 ·simp [h4]
 by_cases h2:k=2
 ·simp [h2]
 by_cases h3:k=3
 ·subst h3
  unfold es
  by_cases p:0<clp a <;> by_cases q:0<clp b <;> simp [p,q]
 simp [h1,h2,h3,h4]
theorem il (k a b:Int):dq N k a b=some (bl k a b):=by
 unfold dq bl
 have ha:=be a;have hb:=be b;have hm:=mK ha hb
 simp only [io,bs,e8,gx (by omega:-4611686018427387904≤clp a*clp b) (by omega),cF (by omega:-4611686018427387904≤clp a+clp b) (by omega)]
 by_cases h1:k=1
 ·simp [h1]
 by_cases h4:k=4
 ·simp [h4]
 by_cases h2:k=2
 ·simp [h2]
 by_cases h3:k=3
 ·subst h3
  have e:∀ x:Int,0≤x→imn 1 x=if 0<x then 1 else 0:=fun x hx=>by unfold imn;(repeat' split) <;> omega
  rw [e _ ha.1,e _ hb.1]
  by_cases p:0<clp a <;> by_cases q:0<clp b <;> simp [p,q,ml,rng]
 simp [h1,h2,h3,h4]
theorem d2 (k a b:Int):b7 N k a b=some (bq k a b):=by
 unfold b7 bq
 have ha:=be a;have hb:=be b
 simp only [iK,bs,e8,cF (by omega:-4611686018427387904≤clp a+clp b) (by omega)]
 by_cases h1:k=1
 ·simp [h1]
 by_cases h4:k=4
 ·simp [h4]
 by_cases h2:k=2
 ·simp [h2]
 by_cases h3:k=3
 ·subst h3
  unfold es
  by_cases p:0<clp a <;> by_cases q:0<clp b <;> simp [p,q]
 simp [h1,h2,h3,h4]
theorem ie (k a b:Int):dn N k a b=some (bq k a b):=by
 unfold dn bq
 have ha:=be a;have hb:=be b
 simp only [io,bs,e8,cF (by omega:-4611686018427387904≤clp a+clp b) (by omega)]
 by_cases h1:k=1
 ·simp [h1]
 by_cases h4:k=4
 ·simp [h4]
 by_cases h2:k=2
 ·simp [h2]
 by_cases h3:k=3
 ·subst h3
  have e:imn 1 (clp a+clp b)=if 0<clp a∨0<clp b then 1 else 0:=by unfold imn;(repeat' split) <;> omega
  simp [e]
 simp [h1,h2,h3,h4]
def vW (k v x:Int):Int :=
 if inR k 1 4&&(inR v 0 4&&inR x 0 99) then (if k=1 then 1+(x+v).tmod 2 else if k=3 then imn 1 ((x+v).tmod 4) else 1+(3*x+v).tmod 5) else 0
theorem gw {a b:Int} (h:b≠0):rm a b=some (a.tmod b):=by unfold rm;rw [if_pos h]
theorem ga {a b:Int} (ha:0≤a) (hb:0<b):0≤a.tmod b∧a.tmod b<b:=⟨Int.tmod_nonneg _ ha,Int.tmod_lt_of_pos _ hb⟩
theorem fo (k v x:Int):cZ N k v x=some (vW k v x):=by
 unfold cZ vW
 simp only [bR,eq,bs,e8]
 cases hk:inR k 1 4
 ·rfl
 cases hv:inR v 0 4
 ·rfl
 cases hx:inR x 0 99
 ·rfl
 have h1:=cS.1 hv;have h2:=cS.1 hx
 have b2:=ga (by omega:0≤x+v) (by omega:(0:Int)<2)
 have b5:=ga (by omega:0≤3*x+v) (by omega:(0:Int)<5)
 simp only [cond_true,Bool.and_self,if_true,gx (by omega:-4611686018427387904≤3*x) (by omega),cF (by omega:-4611686018427387904≤x+v) (by omega),cF (by omega:-4611686018427387904≤3*x+v) (by omega),bs,gw (by decide:(2:Int)≠0),gw (by decide:(4:Int)≠0),gw (by decide:(5:Int)≠0),cF (by omega:-4611686018427387904≤1+(x+v).tmod 2) (by omega),cF (by omega:-4611686018427387904≤1+(3*x+v).tmod 5) (by omega)]
 by_cases e1:k=1
 ·simp [e1]
 by_cases e3:k=3
 ·simp [e3]
 simp [e1,e3]
theorem ig (k v x:Int):dk N k v x=some (vW k v x):=by
 unfold dk vW
 simp only [bF,iO,bs,e8]
 cases hk:inR k 1 4
 ·rfl
 cases hv:inR v 0 4
 ·rfl
 cases hx:inR x 0 99
 ·rfl
 have h1:=cS.1 hv;have h2:=cS.1 hx
 have b2:=ga (by omega:0≤x+v) (by omega:(0:Int)<2)
 have b5:=ga (by omega:0≤3*x+v) (by omega:(0:Int)<5)
 simp only [cond_true,Bool.and_self,if_true,gx (by omega:-4611686018427387904≤x*3) (by omega),Int.mul_comm x 3,cF (by omega:-4611686018427387904≤x+v) (by omega),cF (by omega:-4611686018427387904≤3*x+v) (by omega),bs,gw (by decide:(2:Int)≠0),gw (by decide:(4:Int)≠0),gw (by decide:(5:Int)≠0),cF (by omega:-4611686018427387904≤1+(x+v).tmod 2) (by omega),cF (by omega:-4611686018427387904≤1+(3*x+v).tmod 5) (by omega)]
 by_cases e1:k=1
 ·simp [e1]
 by_cases e3:k=3
 ·simp [e3]
 simp [e1,e3]
def ir (k:Int) (row:List Int):Int:=(List.range' 0 row.length).foldl (fun s (i:Nat)=>bl k s (vW k (i:Int) (row.getD i 0))) (cH k)
def iM (k:Int) (rows:List (List Int)):Int:=(List.range' 0 rows.length).foldl (fun s i=>bq k s (ir k (rows.getD i []))) (aQ k)
def iy (k n:Int) (rows:List (List Int)):Int:=if inR k 1 4&&bm n rows then iM k rows else aQ k
theorem f8 (hN:1073741824≤N) {k n:Int} {rows:List (List Int)} (hx:dW rows):cu N k n rows=some (iy k n rows):=by
 have hl:=hx.1
 unfold cu iy
 rw [bv,bs,bR,bs]
 cases hk:inR k 1 4
 ·rfl
 rw [go hN hx,bs]
 cases hv:bm n rows
 ·rfl
 simp only [cond_true,Bool.and_self,if_true]
 have:=kG (L:=fun f s i=>bk N f k s rows (rows.length:Int) i) rows.length (by omega) (fun i s=>bq k s (ir k (rows.getD i []))) (fun s=>(s,(rows.length:Int))) (fun _ _=>True)
  (fun f i s h _=>by
   refine ⟨?_,trivial⟩
   have h1:=(hx.2 _ (List.getElem_mem h)).1
   have hr:=kG (L:=fun f t j=>bi N f k s t rows (rows.length:Int) (i:Int) rows[i] (rows[i].length:Int) j) rows[i].length (by omega) (fun j t=>bl k t (vW k (j:Int) (rows[i].getD j 0))) (fun t=>(t,(rows[i].length:Int))) (fun _ _=>True)
    (fun f j t hj _=>by
     refine ⟨?_,trivial⟩
     show bi N (f+1) k s t rows _ _ rows[i] _ (j:Int)=_
     rw [bi,dlt hj,cond_true,aS hj,bs,fo,bs,fq,bs,ad1 (by omega),bs,cB hj])
    (fun f t _=>by
     show bi N (f+1) k s t rows _ _ rows[i] _ (rows[i].length:Int)=_
     rw [bi,dge (by omega),cond_false]) N 0 (cH k) (by omega) (by omega) trivial
   show bk N (f+1) k s rows _ (i:Int)=_
   rw [bk,dlt h,cond_true,aS h,bs,dX,bs,show ((0:Int))=((0:Nat):Int) from rfl,hr,bs,Nat.sub_zero,db h]
   show (b7 N k s _).bind _=_
   rw [d2,bs,ad1 (by omega),bs]
   rfl)
  (fun f s _=>by
   show bk N (f+1) k s rows _ (rows.length:Int)=_
   rw [bk,dge (by omega),cond_false]) N 0 (aQ k) (by omega) (by omega) trivial
 rw [show ((0:Int))=((0:Nat):Int) from rfl,this,bs,Nat.sub_zero]
 rfl
theorem km {L:Nat→List Int→Option (List Int)} {n:Nat} (hn:n≤1048576)
  (hs:∀ k (xs:List Int),xs.length<n→L (k+1) xs=L k (xs++[(xs.length:Int)])) (he:∀ k (xs:List Int),xs.length=n→L (k+1) xs=some xs) :
  ∀ k i,i≤n→n-i<k→L k ((List.range' 0 i).map fun i:Nat=>(i:Int))=some ((List.range' 0 n).map fun i:Nat=>(i:Int)):=by
 intro k
 induction k with
 | zero=>intro i h1 h2;omega
 | succ k ih =>
  intro i h1 h2
  by_cases h:i<n
  ·rw [hs k _ (by simpa using h)]
   have e:((List.range' 0 i).map fun i:Nat=>(i:Int))++[(((List.range' 0 i).map fun i:Nat=>(i:Int)).length:Int)]=(List.range' 0 (i+1)).map fun i:Nat=>(i:Int):=by
    rw [List.range'_concat];simp
   rw [e];exact ih (i+1) (by omega) (by omega)
  ·obtain rfl:i=n:=by omega
   exact he k _ (by simp)
theorem mQ (hN:1073741824≤N) {k:Int} {row:List Int} {n:Nat} (hr:row.length≤n) (hn:n≤1048576):eO N k ((List.range' 0 n).map fun i:Nat=>(i:Int)) row=some (ir k row):=by
 have hr':=kG (L:=fun f t j=>cz N f k ((List.range' 0 n).map fun i:Nat=>(i:Int)) row t j) row.length (by omega) (fun j t=>bl k t (vW k (j:Int) (row.getD j 0))) (fun t=>(t,(row.length:Int))) (fun _ _=>True)
  (fun f j t hj _=>by
   refine ⟨?_,trivial⟩
   have h2:j<((List.range' 0 n).map fun i:Nat=>(i:Int)).length:=by simp;omega
   show cz N (f+1) k _ row t (j:Int)=_
   rw [cz,dlt hj,cond_true,aS h2,bs,aS hj,bs,ig,bs,il,bs,ad1 (by omega),bs,cB hj]
   have e:((List.range' 0 n).map fun i:Nat=>(i:Int))[j]=(j:Int):=by simp
   rw [e])
  (fun f t _=>by
   show cz N (f+1) k _ row t (row.length:Int)=_
   rw [cz,dge (by omega),cond_false]) N 0 (cH k) (by omega) (by omega) trivial
 unfold eO
 rw [ib,bs,show ((0:Int))=((0:Nat):Int) from rfl,hr',bs,Nat.sub_zero]
 rfl
theorem fU (hN:1073741824≤N) {k n:Int} {rows:List (List Int)} (hx:dW rows):cp N k n rows=some (iy k n rows):=by
 have hl:=hx.1
 unfold cp iy
 rw [fb,bs,bF,bs]
 cases hk:inR k 1 4
 ·rfl
 rw [dw hN hx,bs]
 cases hv:bm n rows
 ·rfl
 simp only [cond_true,Bool.and_self,if_true]
 obtain ⟨h0,h5,_,hrow⟩:=dR hv
 obtain ⟨m,rfl⟩:=Int.eq_ofNat_of_zero_le h0
 have ho:=km (L:=fun f xs=>a8 N f k (m:Int) rows (aQ k) xs) (n:=m) (by omega)
  (fun f xs h=>by
   show a8 N (f+1) k (m:Int) rows _ xs=_
   rw [a8,dlt h,cond_true,di (by decide) (by simp;omega),bs])
  (fun f xs h=>by
   show a8 N (f+1) k (m:Int) rows _ xs=_
   rw [a8,dge (by omega),cond_false]) N 0 (by omega) (by omega)
 have ho':a8 N N k (m:Int) rows (aQ k) []=some ((List.range' 0 m).map fun i:Nat=>(i:Int)):=ho
 rw [ho',bs,lpB]
 have:=kG (L:=fun f s i=>bj N f k (m:Int) rows s ((List.range' 0 m).map fun i:Nat=>(i:Int)) i) rows.length (by omega) (fun i s=>bq k s (ir k (rows.getD i []))) (fun s=>(s,(rows.length:Int))) (fun _ _=>True)
  (fun f i s h _=>by
   refine ⟨?_,trivial⟩
   show bj N (f+1) k (m:Int) rows s _ (i:Int)=_
   rw [bj,dlt h,cond_true,aS h,bs,mQ hN (by have:=(hrow i h).1;omega) (by omega),bs,ie,bs,ad1 (by omega),bs,db h])
  (fun f s _=>by
   show bj N (f+1) k (m:Int) rows s _ (rows.length:Int)=_
   rw [bj,dge (by omega),cond_false]) N 0 (aQ k) (by omega) (by omega) trivial
 rw [show ((0:Int))=((0:Nat):Int) from rfl,this,bs,Nat.sub_zero]
 rfl
end
end Go.Proofs.Ytdapplkijobjoaa
namespace Go.Proofs.Ytdapplkijobjoaa
open Go.RowKit

theorem pC {R V:Type} (L:Nat→Int→Option (Sum R V)) (n:Nat) (b:R) (p:Nat→Bool) (v:V) (I:Nat→Prop)
  (hstep:∀ k i,i<n→I i→L (k+1) (i:Int)=(bif p i then L k ((i+1:Nat):Int) else some (.inl b))∧(p i=true→I (i+1)))
  (hend:∀ k,L (k+1) (n:Int)=some (.inr v)) :
  ∀ k i,i≤n→n-i<k→I i→L k (i:Int)=some (bif (List.range' i (n-i)).all p then .inr v else .inl b):=by
 intro k
 induction k with
 | zero=>intro i hi hk;omega
 | succ k ih =>
  intro i hi hk hI
  by_cases h:i<n
  ·obtain ⟨h1,h2⟩:=hstep k i h hI
   rw [h1,show n-i=(n-(i+1))+1 by omega,List.range'_succ,List.all_cons]
   cases hp:p i with
   | true=>rw [cond_true,Bool.true_and];exact ih (i+1) (by omega) (by omega) (h2 hp)
   | false=>rfl
  ·obtain rfl:i=n:=by omega
   rw [hend k,Nat.sub_self];rfl
theorem pj {α β:Type} {xs:List α} {ys:List β} (h:¬ xs.length=ys.length):((xs.length:Int) != (ys.length:Int))=true:=by simp;omega
theorem ix0 {α:Type} {xs:List α} (h:0<xs.length):ix xs 0=some xs[0]:=aS h
theorem qc {α:Type} {xs:List α} {i:Nat} (h1:1≤i) (h2:i≤xs.length):slc xs 1 (i:Int)=some ((xs.take i).drop 1):=gN h1 h2
abbrev av:=List Int × List Int
def fR (far:List Int) (i:Nat) (ch:List Int) (j:Nat):Bool:=inR (ch.getD j 0) 0 ((i:Int)-1)&&decide (far.getD (ch.getD j 0).toNat 0=far.getD (ch.getD 0 0).toNat 0)
def gb (nodes:List av) (i:Nat) (x:av):Bool:=((nodes.take i).drop 1).all fun m=>!decide (m=x)
def f7 (nodes:List av) (olen:Nat) (far:List Int) (i:Nat) (x:av):Option Int :=
 bif decide (x.1.length=x.2.length)&&aM x.1&&asc x.1 then
  bif decide (x.1.length=0) then (bif decide (i+1=nodes.length) then some (olen:Int) else none)
  else bif (List.range' 0 x.2.length).all (fR far i x.2)&&gb nodes i x then some (far.getD (x.2.getD 0 0).toNat 0+1) else none
 else none
def fW (nodes:List av) (olen:Nat) (far:List Int) (i:Nat):Option Int:=f7 nodes olen far i (nodes.getD i ([],[]))
theorem lr {nodes:List av} {olen:Nat} {far:List Int} {i:Nat} {x:av} {d:Int} (h:f7 nodes olen far i x=some d):d=(olen:Int)∨d=far.getD (x.2.getD 0 0).toNat 0+1:=by
 unfold f7 at h
 generalize (decide (x.1.length=x.2.length)&&aM x.1&&asc x.1)=b1 at h
 generalize decide (x.1.length=0)=b2 at h
 generalize decide (i+1=nodes.length)=b3 at h
 generalize ((List.range' 0 x.2.length).all (fR far i x.2)&&gb nodes i x)=b4 at h
 cases b1
 ·cases h
 cases b2
 ·cases b4
  ·cases h
  ·exact .inr (Option.some.inj h).symm
 ·cases b3
  ·cases h
  ·exact .inl (Option.some.inj h).symm
def dj (nodes:List av) (olen:Nat) (i:Nat) (far:List Int):Sum Bool (List Int):=match fW nodes olen far i with | none=>.inl false | some d=>.inr (far++[d])
def eH (order:List Int) (nodes:List av):Bool :=
 eY order&&inR nodes.length 1 4000&&decide ((nodes.getD 0 ([],[])).1=[])&&decide ((nodes.getD 0 ([],[])).2=[]) &&
 (match dM (dj nodes order.length) (nodes.length-1) 1 [0] with | .inl _=>false | .inr far=>decide (far.getD (nodes.length-1) 0=(order.length:Int)))
def gC (i:Nat) (far:List Int):Prop:=far.length=i∧∀ x∈far,0≤x∧x≤1048576+i
theorem iQ {nodes:List av} {i:Nat} (h:i<nodes.length):nodes.getD i ([],[])=nodes[i]:=by simp [h]
theorem kT {i:Nat} {far tl:List Int} (hf:gC i far) {c:Int} (hc:inR c 0 ((i:Int)-1)=true):ix (far++tl) c=some (far.getD c.toNat 0):=by
 have h:=cS.1 hc
 have hl:=hf.1
 rw [jp h.1 (by simp;omega)]
 have h2:c.toNat<far.length:=by omega
 rw [List.getElem_append_left h2]
 simp [h2]
theorem mG {i:Nat} {far:List Int} (hf:gC i far) (k:Nat):0≤far.getD k 0∧far.getD k 0≤1048576+i:=by
 by_cases h:k<far.length
 ·rw [show far.getD k 0=far[k] by simp [h]];exact hf.2 _ (List.getElem_mem h)
 ·rw [show far.getD k 0=0 by simp [h]];omega
theorem kr {nodes:List av} {olen i:Nat} (ho:olen≤1048576) {far far':List Int} (hf:gC i far) (h:dj nodes olen i far=.inr far'):gC (i+1) far':=by
 unfold dj at h
 cases hd:fW nodes olen far i with
 | none=>simp [hd] at h
 | some d =>
  simp [hd] at h
  subst h
  have hb:0≤d∧d≤1048576+(i+1):=by
   have:=mG hf ((nodes.getD i ([],[])).2.getD 0 0).toNat
   unfold fW at hd
   rcases lr hd with h1 | h1 <;> omega
  refine ⟨by simp [hf.1],fun x hx=>?_⟩
  rcases List.mem_append.1 hx with h1 | h1
  ·have:=hf.2 x h1;omega
  ·simp at h1;subst h1;omega
section
variable {N:Nat}
theorem ip {nodes:List av} (hn:okN nodes) {i:Nat} (h:i<nodes.length):okI nodes[i].1∧okI nodes[i].2:=hn.2 _ (List.getElem_mem h)
theorem oD (x y:av):decide (x=y)=(decide (x.1=y.1)&&decide (x.2=y.2)):=by
 rw [Bool.eq_iff_iff];simp [Prod.ext_iff]
theorem lz (hN:1073741824≤N) {x y:av} (h1:okI x.1) (h2:okI x.2):dU N x.1 x.2 y.1 y.2=some (decide (x=y)):=by
 unfold dU
 rw [ja hN h1.1,bs,ja hN h2.1,bs,oD]
 cases decide (x.1=y.1) <;> rfl
theorem o6 {far:List Int} {i:Nat} {ch:List Int} {j:Nat} (h:fR far i ch j=true):inR (ch.getD j 0) 0 ((i:Int)-1)=true:=by
 unfold fR at h;exact (Bool.and_eq_true _ _ ▸ h).1
theorem mu (hN:1073741824≤N) {order:List Int} {nodes:List av} (ho:order.length≤1048576) (hn:okN nodes) {far tl:List Int} {i:Nat} (hi:i<nodes.length) (h0:1≤i) (hf:gC i far) :
  ∃ r,eP N order nodes (far++tl) (i:Int)=some r∧(match fW nodes order.length far i with | some d=>r=(d,true) | none=>r.2=false):=by
 obtain ⟨k1,k2⟩:=ip hn hi
 have hl:=hn.1
 unfold eP fW
 rw [aS hi,bs,iQ hi]
 unfold f7
 generalize hx:nodes[i]=x at *
 by_cases h1:x.1.length=x.2.length
 case neg=>rw [pj h1,cond_true,decide_eq_false h1];exact ⟨_,rfl,rfl⟩
 rw [show ((x.1.length:Int) != (x.2.length:Int))=false by simp [h1],cond_false,decide_eq_true h1,eK hN k1.1,bs,fN hN k1.1,bs]
 cases aM x.1
 ·exact ⟨_,rfl,rfl⟩
 cases asc x.1
 ·exact ⟨_,rfl,rfl⟩
 simp only [cond_true,Bool.and_self]
 by_cases h2:x.1.length=0
 ·rw [show ((x.1.length:Int) == 0)=true by simp [h2],cond_true,decide_eq_true h2,cond_true,et (by omega) (by omega),bs,e8]
  by_cases h3:i+1=nodes.length
  ·rw [decide_eq_true h3,decide_eq_true (by omega:(i:Int)=(nodes.length:Int)-1)];exact ⟨_,rfl,rfl⟩
  ·rw [decide_eq_false h3,decide_eq_false (by omega:¬ (i:Int)=(nodes.length:Int)-1)];exact ⟨_,rfl,rfl⟩
 rw [show ((x.1.length:Int) == 0)=false by simp;exact fun h=>h2 (by simp [h]),cond_false,decide_eq_false h2,cond_false]
 have hc0:0<x.2.length:=by omega
 have hcl:=k2.1
 have hL:=pC (fun k j=>cb N k (far++tl) (i:Int) order nodes x.1 x.2 x.2 (x.2.length:Int) j) x.2.length ((0:Int),false) (fR far i x.2) (x.2.length:Int) (fun j=>j=0∨fR far i x.2 0=true)
  (fun k j h hI=>by
   refine ⟨?_,fun hp=>?_⟩
   ·show cb N (k+1) (far++tl) (i:Int) order nodes x.1 x.2 x.2 _ (j:Int)=_
    rw [cb,dlt h,cond_true,aS h,bs,et (by omega) (by omega),bs,eq,bs]
    unfold fR
    rw [show x.2.getD j 0=x.2[j] from cB h]
    cases hw:inR x.2[j] 0 ((i:Int)-1)
    ·rfl
    rw [cond_true,kT hf hw,bs,ix0 hc0,bs]
    have h00:inR (x.2.getD 0 0) 0 ((i:Int)-1)=true:=by
     rcases hI with rfl | hI
     ·rw [cB h];exact hw
     ·exact o6 hI
    rw [cB hc0] at h00
    rw [kT hf h00,bs,kH,ad1 (by omega),bs,Bool.true_and,cB hc0]
    cases decide (far.getD (x.2[j]).toNat 0=far.getD (x.2[0]).toNat 0) <;> rfl
   ·rcases hI with rfl | hI
    ·exact .inr hp
    ·exact .inr hI)
  (fun k=>by
   show cb N (k+1) (far++tl) (i:Int) order nodes x.1 x.2 x.2 _ (x.2.length:Int)=_
   rw [cb,dge (by omega),cond_false]) N 0 (by omega) (by omega) (.inl rfl)
 have hL':cb N N (far++tl) (i:Int) order nodes x.1 x.2 x.2 (x.2.length:Int) 0=_:=hL
 rw [hL',bs,Nat.sub_zero]
 cases hall:(List.range' 0 x.2.length).all (fR far i x.2)
 ·exact ⟨_,rfl,rfl⟩
 have h00:inR (x.2[0]) 0 ((i:Int)-1)=true:=by
  rw [List.all_eq_true] at hall
  have:=o6 (hall 0 (by simp;omega))
  rw [cB hc0] at this;exact this
 rw [cond_true,Bool.true_and]
 show ∃ r,((slc nodes 1 (i:Int)).bind _)=some r∧_
 rw [qc h0 (by omega),bs]
 have hL2:=gr (fun k j=>ci N k (far++tl) x.1 x.2 ((nodes.take i).drop 1) (((nodes.take i).drop 1).length:Int) j) ((nodes.take i).drop 1).length (by simp;omega) ((0:Int),false) (fun j=>if h:j<((nodes.take i).drop 1).length then !decide (((nodes.take i).drop 1)[j]=x) else true) (((nodes.take i).drop 1).length:Int)
  (fun k j h=>by
   have hm:((nodes.take i).drop 1)[j]∈nodes:=List.mem_of_mem_take (List.mem_of_mem_drop (List.getElem_mem h))
   obtain ⟨q1,q2⟩:=hn.2 _ hm
   have hjl:j<1099511627776:=by simp at h;omega
   show ci N (k+1) (far++tl) x.1 x.2 _ _ (j:Int)=_
   rw [ci,dlt h,cond_true,aS h,bs,lz hN q1 q2,bs,ad1 hjl,bs]
   simp only [dif_pos h]
   cases decide (((nodes.take i).drop 1)[j]=x) <;> rfl)
  (fun k=>by
   show ci N (k+1) (far++tl) x.1 x.2 _ _ (((nodes.take i).drop 1).length:Int)=_
   rw [ci,dge (by omega),cond_false]) N 0 (by omega) (by simp;omega)
 have hL2':ci N N (far++tl) x.1 x.2 ((nodes.take i).drop 1) (((nodes.take i).drop 1).length:Int) 0=_:=hL2
 rw [hL2',bs,Nat.sub_zero,gt ((nodes.take i).drop 1) (fun m=>!decide (m=x)) _ (fun j hj=>by rw [dif_pos hj])]
 unfold gb
 cases ((nodes.take i).drop 1).all fun m=>!decide (m=x)
 ·exact ⟨_,rfl,rfl⟩
 show ∃ r,((ix x.2 0).bind _)=some r∧_
 have hb:=mG hf (x.2[0]).toNat
 rw [ix0 hc0,bs,kT hf h00,bs,cF (by omega) (by omega),bs,cB hc0]
 exact ⟨_,rfl,rfl⟩
theorem oW {far:List Int} {n i:Nat} {d:Int} (hl:far.length=i) (hi:i<n):sto (far++List.replicate (n-i) 0) (i:Int) d=some ((far++[d])++List.replicate (n-(i+1)) 0):=by
 rw [gJ (by simp;omega),List.set_append_right _ _ (by omega),show n-i=(n-(i+1))+1 by omega,List.replicate_succ,show i-far.length=0 by omega,List.set_cons_zero]
 simp
theorem oP {xs:List Int}:decide (0<(xs.length:Int))=!decide (xs=[]):=by
 cases xs with
 | nil=>rfl
 | cons x xs=>rw [decide_eq_true (by simp only [List.length_cons];omega),decide_eq_false (by simp)];rfl
theorem ce (hN:1073741824≤N) {order:List Int} {nodes:List av} (ho:okI order) (hn:okN nodes):bK N order nodes=some (eH order nodes):=by
 have hl:=hn.1
 have hol:=ho.1
 unfold bK eH
 rw [gM hN ho.1,bs,eq,bs]
 cases eY order
 ·rfl
 cases hr:inR (nodes.length:Int) 1 4000
 ·rfl
 have hr':=cS.1 hr
 have hp:0<nodes.length:=by omega
 simp only [cond_true,Bool.true_and]
 rw [ix0 hp,bs,bs,iQ hp]
 simp only [oP]
 cases decide (nodes[0].1=[])
 ·rfl
 cases decide (nodes[0].2=[])
 ·rfl
 simp only [Bool.not_true,cond_false,Bool.true_and]
 rw [n9 (by decide) (by omega),bs]
 have hL:=pY (fun k (s:List Int) i=>aT N k order nodes (s++List.replicate (nodes.length-s.length) 0) i) nodes.length (by omega) (dj nodes order.length) (fun s=>((s++List.replicate (nodes.length-s.length) 0,(nodes.length:Int)):List Int × Int)) (fun i s=>1≤i∧gC i s)
  (fun k i s h hI=>by
   refine ⟨?_,fun s' hs=>⟨by omega,kr hol hI.2 hs⟩⟩
   obtain ⟨r,e1,e2⟩:=mu hN (order:=order) hol hn (tl:=List.replicate (nodes.length-s.length) 0) h hI.1 hI.2
   show aT N (k+1) order nodes _ (i:Int)=_
   rw [aT,dlt h,cond_true,e1,bs]
   unfold dj
   cases hd:fW nodes order.length s i with
   | none =>
    rw [hd] at e2
    rw [show r.2=false from e2];rfl
   | some d =>
    rw [hd] at e2
    obtain rfl:r=(d,true):=e2
    have hsl:=hI.2.1
    rw [cond_true,aS (by simp;omega),bs]
    rw [hsl,oW hsl h,bs,ad1 (by omega),bs]
    simp only [List.length_append,List.length_singleton,hsl])
  (fun k s hI=>by
   show aT N (k+1) order nodes _ (nodes.length:Int)=_
   rw [aT,dge (by omega),cond_false]) N 1 [0] (by omega) (by omega) ⟨Nat.le_refl _,rfl,by simp⟩
 have he:List.replicate nodes.length (0:Int)=[0]++List.replicate (nodes.length - [(0:Int)].length) 0:=by
  obtain ⟨m,hm⟩:∃ m,nodes.length=m+1:=⟨nodes.length-1,by omega⟩
  rw [hm];rfl
 have hL':aT N N order nodes ([0]++List.replicate (nodes.length - [(0:Int)].length) 0) 1=_:=hL
 rw [he,hL',bs]
 have hI':∀ (m i:Nat) (s s':List Int),i+m=nodes.length→gC i s→dM (dj nodes order.length) m i s=.inr s'→gC nodes.length s':=by
  intro m
  induction m with
  | zero=>intro i s s' h1 h2 h3;simp [dM] at h3;subst h3;simp at h1;subst h1;exact h2
  | succ m ih =>
   intro i s s' h1 h2 h3
   unfold dM at h3
   cases hs:dj nodes order.length i s with
   | inl r=>simp [hs] at h3
   | inr s2=>simp only [hs] at h3;exact ih (i+1) s2 s' (by omega) (kr hol h2 hs) h3
 cases hs:dM (dj nodes order.length) (nodes.length-1) 1 [0] with
 | inl r =>
  have hrf:r=false:=by
   have:∀ (m i:Nat) (s:List Int),dM (dj nodes order.length) m i s=.inl r→r=false:=by
    intro m
    induction m with
    | zero=>intro i s h;simp [dM] at h
    | succ m ih =>
     intro i s h
     unfold dM at h
     cases hq:dj nodes order.length i s with
     | inl r2 =>
      rw [hq] at h
      have e:r2=r:=Sum.inl.inj h
      subst e
      unfold dj at hq
      cases hd:fW nodes order.length s i with
      | none=>rw [hd] at hq;exact (Sum.inl.inj hq).symm
      | some d=>rw [hd] at hq;cases hq
     | inr s2=>rw [hq] at h;exact ih _ _ h
   exact this _ _ _ hs
  rw [hrf];rfl
 | inr far =>
  have hf:=hI' (nodes.length-1) 1 [0] far (by omega) ⟨rfl,by simp⟩ hs
  have hfl:=hf.1
  show ((sb _ 1).bind _)=_
  simp only [hfl,Nat.sub_self,List.replicate_zero,List.append_nil]
  rw [et (by omega) (by omega),bs,show ((nodes.length:Int)-1)=((nodes.length-1:Nat):Int) by omega,aS (by omega),bs,e8]
  have:far.getD (nodes.length-1) 0=far[nodes.length-1]'(by omega):=by rw [List.getD_eq_getElem?_getD,List.getElem?_eq_getElem (by omega)];rfl
  rw [this]
end
end Go.Proofs.Ytdapplkijobjoaa
namespace Go.Proofs.Ytdapplkijobjoaa
open Go.RowKit

structure VF (olen:Nat) (nodes:List av) (far:List Int):Prop where
 pos:1≤nodes.length
 le:nodes.length≤4000
 z1:(nodes.getD 0 ([],[])).1=[]
 z2:(nodes.getD 0 ([],[])).2=[]
 len:far.length=nodes.length
 f0:far.getD 0 0=0
 last:far.getD (nodes.length-1) 0=(olen:Int)
 nd:∀ i,1≤i→i<nodes.length→f7 nodes olen (far.take i) i (nodes.getD i ([],[]))=some (far.getD i 0)
theorem m8 {xs:List Int} {i j:Nat} (h:j<i):(xs.take i).getD j 0=xs.getD j 0:=by
 rw [List.getD_eq_getElem?_getD,List.getD_eq_getElem?_getD,List.getElem?_take,if_pos h]
theorem VF.node {olen:Nat} {nodes:List av} {far:List Int} (V:VF olen nodes far) {i:Nat} (h1:1≤i) (h2:i<nodes.length) :
    (nodes.getD i ([],[])).1.length=(nodes.getD i ([],[])).2.length∧asc (nodes.getD i ([],[])).1=true ∧
    ((nodes.getD i ([],[])).1=[]∧i+1=nodes.length∧far.getD i 0=olen ∨
     (nodes.getD i ([],[])).1≠[]∧∀ j,j<(nodes.getD i ([],[])).2.length→0≤(nodes.getD i ([],[])).2.getD j 0∧(nodes.getD i ([],[])).2.getD j 0<i∧far.getD ((nodes.getD i ([],[])).2.getD j 0).toNat 0+1=far.getD i 0):=by
  have h:=V.nd i h1 h2
  generalize nodes.getD i ([],[])=x at *
  unfold f7 at h
  cases e1:(decide (x.1.length=x.2.length)&&aM x.1&&asc x.1) with
  | false=>rw [e1] at h;cases h
  | true =>
    rw [e1,cond_true] at h
    simp only [Bool.and_eq_true,decide_eq_true_eq] at e1
    refine ⟨e1.1.1,e1.2,?_⟩
    by_cases hz:x.1.length=0
    · rw [decide_eq_true hz,cond_true] at h
      by_cases hi:i+1=nodes.length
      · rw [decide_eq_true hi,cond_true] at h
        exact .inl ⟨List.length_eq_zero_iff.1 hz,hi,(Option.some.inj h).symm⟩
      · rw [decide_eq_false hi] at h;cases h
    · rw [decide_eq_false hz,cond_false] at h
      cases ha:(List.range' 0 x.2.length).all (fR (far.take i) i x.2) with
      | false=>rw [ha] at h;cases h
      | true =>
        rw [ha,Bool.true_and] at h
        cases hb:gb nodes i x with
        | false=>rw [hb] at h;cases h
        | true =>
          rw [hb,cond_true] at h
          refine .inr ⟨fun e=>hz (by simp [e]),fun j hj=>?_⟩
          have hc:∀ j,j<x.2.length→0≤x.2.getD j 0∧x.2.getD j 0<i∧far.getD (x.2.getD j 0).toNat 0=(far.take i).getD (x.2.getD 0 0).toNat 0:=by
            intro j hj
            have:=(List.all_eq_true.1 ha) j (by simp;omega)
            unfold fR at this
            simp only [Bool.and_eq_true,decide_eq_true_eq] at this
            have g:=cS.1 this.1
            refine ⟨g.1,by omega,?_⟩
            rw [← this.2,m8 (by omega)]
          obtain ⟨q1,q2,q3⟩:=hc j hj
          exact ⟨q1,q2,by rw [q3];exact Option.some.inj h⟩
theorem lv {α σ:Type} (f:σ→α→σ) (d:α) (xs:List α):∀ (n:Nat),n≤xs.length→∀ s,(List.range' (xs.length-n) n).foldl (fun s j=>f s (xs.getD j d)) s=(xs.drop (xs.length-n)).foldl f s:=by
 intro n
 induction n with
 | zero=>intro _ s;simp
 | succ n ih =>
  intro h s
  have hg:xs.getD (xs.length-(n+1)) d=xs[xs.length-(n+1)]'(by omega):=by
   rw [List.getD_eq_getElem?_getD,List.getElem?_eq_getElem (by omega)];rfl
  rw [List.range'_succ,List.foldl_cons,show xs.length-(n+1)+1=xs.length-n by omega,ih (by omega),hg,List.drop_eq_getElem_cons (by omega:xs.length-(n+1)<xs.length),List.foldl_cons,show xs.length-(n+1)+1=xs.length-n by omega]
theorem lj {α σ:Type} (f:σ→α→σ) (d:α) (xs:List α) (s:σ):(List.range' 0 xs.length).foldl (fun s j=>f s (xs.getD j d)) s=xs.foldl f s:=by
 have:=lv f d xs xs.length (Nat.le_refl _) s
 simpa using this
end Go.Proofs.Ytdapplkijobjoaa
namespace Go.Proofs.Ytdapplkijobjoaa
open Go.RowKit

theorem pL {σ V:Type} (L:Nat→σ→Int→Option V) (n:Nat) (A:Nat→σ) (v:V)
  (hstep:∀ k i,i<n→L (k+1) (A i) (i:Int)=L k (A (i+1)) ((i+1:Nat):Int)) (hend:∀ k,L (k+1) (A n) (n:Int)=some v) :
  ∀ k i,i≤n→n-i<k→L k (A i) (i:Int)=some v:=by
 intro k
 induction k with
 | zero=>intro i hi hk;omega
 | succ k ih =>
  intro i hi hk
  by_cases h:i<n
  ·rw [hstep k i h];exact ih (i+1) (by omega) (by omega)
  ·obtain rfl:i=n:=by omega
   exact hend k
section
variable {N:Nat}
theorem jv {c z:List Int} {s:Int} {i:Nat} (h:c.length=i):ix (c++s :: z) (i:Int)=some s:=by
 rw [aS (by simp;omega)];subst h;simp
theorem ka {c z:List Int} {s y:Int} {i:Nat} (h:c.length=i):sto (c++s :: z) (i:Int) y=some (c++y :: z):=by
 rw [gJ (by simp;omega)];subst h;simp
theorem j9 {c z:List Int} {j:Int} (h0:0≤j) (h:j<c.length):ix (c++z) j=some (c.getD j.toNat 0):=by
 rw [jp h0 (by simp;omega),List.getElem_append_left (by omega),cB (by omega)]
end
end Go.Proofs.Ytdapplkijobjoaa
namespace Go.Proofs.Ytdapplkijobjoaa
open Go.RowKit

theorem VF.lens {olen:Nat} {nodes:List av} {far:List Int} (V:VF olen nodes far) {i:Nat} (h2:i<nodes.length):(nodes.getD i ([],[])).1.length=(nodes.getD i ([],[])).2.length:=by
 by_cases h1:1≤i
 ·exact (V.node h1 h2).1
 ·obtain rfl:i=0:=by omega
  rw [V.z1,V.z2]
theorem VF.asc {olen:Nat} {nodes:List av} {far:List Int} (V:VF olen nodes far) {i:Nat} (h2:i<nodes.length):Go.Proofs.Ytdapplkijobjoaa.asc (nodes.getD i ([],[])).1=true:=by
 by_cases h1:1≤i
 ·exact (V.node h1 h2).2.1
 ·obtain rfl:i=0:=by omega
  rw [V.z1];rfl
end Go.Proofs.Ytdapplkijobjoaa
namespace Go.Proofs.Ytdapplkijobjoaa
open Go.RowKit

section
variable {N:Nat}
theorem lH {b:Nat} {α:Type} {xs:List α} (hb:b≤64) (h:xs.length≤1048576):apd b [] xs=some xs:=by
 rw [di hb (by simp;omega)];rfl
theorem nr {b:Nat} {α:Type} {xs:List α} {i:Nat} (hb:b≤64) (h:i<xs.length) (hl:xs.length≤1048576):apd b (xs.take i) [xs[i]]=some (xs.take (i+1)):=by
 rw [di hb (by simp;omega),List.take_succ_eq_append_getElem h]
theorem oV {rows:List (List Int)} (h:dW rows) {i:Nat} (hi:i<rows.length):rows[i].length≤1048576:=(h.2 _ (List.getElem_mem hi)).1
theorem mX (hN:1073741824≤N) {a:Int} {rows:List (List Int)} (h:dW rows):eJ N a rows=some (a,rows):=by
 have hl:=h.1
 unfold eJ
 have hL:=pL (fun k (s:List (List Int)) i=>cg N k a rows 0 [] a s i) rows.length (fun i=>rows.take i) (rows,(rows.length:Int))
  (fun k i hi=>by
   show cg N (k+1) a rows 0 [] a (rows.take i) (i:Int)=_
   rw [cg,dlt hi,cond_true,aS hi,bs,lH (by decide) (oV h hi),bs,nr (by decide) hi hl,bs,ad1 (by omega),bs])
  (fun k=>by
   show cg N (k+1) a rows 0 [] a (rows.take rows.length) (rows.length:Int)=_
   rw [cg,dge (by omega),cond_false,List.take_length]) N 0 (by omega) (by omega)
 have hL':cg N N a rows 0 [] a [] 0=_:=hL
 rw [hL',bs,lpB]
end
end Go.Proofs.Ytdapplkijobjoaa
namespace Go.Proofs.Ytdapplkijobjoaa
open Go.RowKit

abbrev gg:=ByteArray × (Int × List (List Int))
def mH (s:ByteArray) (i:Nat):Int:=match s[i]? with | some b=>(b.toNat:Int) | none=>0
def nF (s:ByteArray) (i:Nat):Bool:=!decide (mH s i<97)&&!decide (122<mH s i)
def pw (s:ByteArray):Bool:=inR s.size 1 4&&(List.range' 0 s.size).all (nF s)
def pZ (ts:List gg) (i:Nat):Bool :=
 let t:=ts.getD i (ByteArray.empty,0,[])
 pw t.1&&(Nat.beq i 0||ltS (ts.getD (i-1) (ByteArray.empty,0,[])).1 t.1)&&bm t.2.1 t.2.2&&!decide (t.2.1<1)&&!decide (16<(t.2.2.length:Int))
def qh (ts:List gg):Bool:=decide ((ts.length:Int)≤6)&&(List.range' 0 ts.length).all (pZ ts)
def iR (ts:List gg) (s:ByteArray):(Int × List (List Int)) × Bool :=
 bif qh ts then (match ts.find? (fun t=>decide (t.1=s)) with | some t=>(t.2,true) | none=>((0,[]),false)) else ((0,[]),false)
theorem hO:∀ (a b:List Int),aX b a=- aX a b
 | [],[]=>by simp [aX]
 | [],_ :: _=>by simp [aX]
 | _ :: _,[]=>by simp [aX]
 | x :: a,y :: b=>by
  unfold aX
  have:=hO a b
  (repeat' split) <;> omega
theorem ew:∀ {a b c:List Int},aX a b<0→aX b c<0→aX a c<0
 | [],[],_,h,_=>by simp [aX] at h
 | [],_ :: _,[],_,h=>by simp [aX] at h
 | [],_ :: _,_ :: _,_,_=>by simp [aX]
 | _ :: _,[],_,h,_=>by simp [aX] at h
 | _ :: _,_ :: _,[],_,h=>by simp [aX] at h
 | x :: a,y :: b,z :: c,h1,h2=>by
  unfold aX at h1 h2 ⊢
  have:=@ew a b c
  split at h1
  ·split at h2
   ·rw [if_pos (by omega)];omega
   ·split at h2
    ·omega
    ·rw [if_pos (by omega)];omega
  ·split at h1
   ·omega
   ·split at h2
    ·rw [if_pos (by omega)];omega
    ·split at h2
     ·omega
     ·rw [if_neg (by omega),if_neg (by omega)];exact this h1 h2
def pc (rows:List (List Int)):Prop:=∀ i j (_:i<j) (hj:j<rows.length),aX (rows[i]'(by omega)) rows[j]<0
theorem oH {rows:List (List Int)} (h:∀ i (hi:i<rows.length) j (hj:j+1=i),aX (rows[j]'(by omega)) rows[i]<0):pc rows:=by
 intro i j hij hj
 induction j with
 | zero=>omega
 | succ j ih =>
  have h1:=h (j+1) hj j rfl
  by_cases e:i=j
  ·subst e;exact h1
  ·exact ew (ih (by omega) (by omega)) h1
theorem kz {n:Int} {rows:List (List Int)} (h:bm n rows=true):pc rows:=by
 obtain ⟨_,_,_,h4⟩:=dR h
 exact oH fun i hi j hj=>(h4 i hi).2.2 j hj
end Go.Proofs.Ytdapplkijobjoaa
namespace Go.Proofs.Ytdapplkijobjoaa
open Go.RowKit

theorem qd {R V S:Type} {v:V} {f:R→Option S} {g:V→Option S}:lpS (.inr v) f g=g v:=rfl
theorem qk {R V S:Type} {v:R} {f:R→Option S} {g:V→Option S}:lpS (.inl v) f g=f v:=rfl
abbrev l6:=ByteArray × List Int
theorem lq:∀ (n:Nat) (xs:List Int),xs.Nodup→(∀ x∈xs,0≤x∧x<n)→xs.length≤n:=by
 intro n
 induction n with
 | zero =>
  intro xs _ h
  cases xs with
  | nil=>simp
  | cons x xs=>have:=h x (by simp);omega
 | succ n ih =>
  intro xs hn h
  by_cases hm:(n:Int)∈xs
  ·have h1:=ih (xs.erase (n:Int)) (hn.erase _) (fun x hx=>by
    have h2:=h x (List.mem_of_mem_erase hx)
    have h3:x≠n:=by rintro rfl;exact (hn.mem_erase_iff.1 hx).1 rfl
    omega)
   rw [List.length_erase_of_mem hm] at h1
   omega
  ·have:=ih xs hn (fun x hx=>by
    have h2:=h x hx
    have h3:x≠n:=by rintro rfl;exact hm hx
    omega)
   omega
end Go.Proofs.Ytdapplkijobjoaa
namespace Go.Proofs.Ytdapplkijobjoaa
open Go.RowKit

def fC (nodes:List av) (x:av):Nat→Nat→Option Nat
 | 0,_=>none
 | f+1,i=>if nodes.getD i ([],[])=x then some i else fC nodes x f (i+1)
def df (nodes:List av) (x:av):Int × List av :=
 match fC nodes x (nodes.length-1) 1 with
 | some i=>((i:Int),nodes)
 | none=>((nodes.length:Int),nodes++[x])
def ea (rows:List (List Int)) (d:Nat) (v:Int):Nat→Nat→Nat
 | 0,k=>k
 | f+1,k=>if (rows.getD k []).getD d 0=v then ea rows d v f (k+1) else k
def cC (rows:List (List Int)) (d:Nat) (i:Nat):Nat:=ea rows d ((rows.getD i []).getD d 0) (rows.length-i) i
def bw (rec:List av→List (List Int)→Int × List av) (rows:List (List Int)) (d:Nat):Nat→List av→List Int→List Int→Nat→List av × List Int × List Int
 | 0,nodes,vals,chs,_=>(nodes,vals,chs)
 | f+1,nodes,vals,chs,i=>if i<rows.length then
   bw rec rows d f (rec nodes ((rows.take (cC rows d i)).drop i)).2 (vals++[(rows.getD i []).getD d 0]) (chs++[(rec nodes ((rows.take (cC rows d i)).drop i)).1]) (cC rows d i)
  else (nodes,vals,chs)
def bh:Nat→List av→List (List Int)→Nat→Int × List av
 | 0,nodes,_,_=>(0,nodes)
 | e+1,nodes,rows,d=>df (bw (fun ns rs=>bh e ns rs (d+1)) rows d rows.length nodes [] [] 0).1 (bw (fun ns rs=>bh e ns rs (d+1)) rows d rows.length nodes [] [] 0).2
def a7 (n:Nat) (rows:List (List Int)):List av:=if rows=[] then [([],[]),([],[])] else (bh n [([],[])] rows 0).2
theorem lM (rows:List (List Int)) (d:Nat) (v:Int):∀ f k,k≤ea rows d v f k∧ea rows d v f k≤k+f
 | 0,k=>by unfold ea;omega
 | f+1,k=>by
  unfold ea
  have:=lM rows d v f (k+1)
  split <;> omega
theorem ge {rows:List (List Int)} {d i:Nat} (h:i<rows.length):i<cC rows d i∧cC rows d i≤rows.length:=by
 unfold cC
 obtain ⟨m,hm⟩:∃ m,rows.length-i=m+1:=⟨rows.length-i-1,by omega⟩
 rw [hm,ea,if_pos rfl]
 have:=lM rows d ((rows.getD i []).getD d 0) m (i+1)
 omega
theorem jc (nodes:List av) (x:av):(df nodes x).2.length≤nodes.length+1:=by
 unfold df;split <;> simp
theorem ox {nodes:List av} {x:av} (h:okN nodes) (hl:nodes.length+1≤1048576) (h1:okI x.1) (h2:okI x.2):okN (df nodes x).2:=by
 refine ⟨by have:=jc nodes x;omega,?_⟩
 unfold df
 split
 ·exact h.2
 ·intro y hy
  rcases List.mem_append.1 hy with hy | hy
  ·exact h.2 y hy
  ·simp only [List.mem_singleton] at hy;subst hy;exact ⟨h1,h2⟩
def fw (n:Nat) (rows:List (List Int)):Prop:=rows.length≤4000∧∀ i,i<rows.length→(rows.getD i []).length=n
theorem jd {n:Nat} {rows:List (List Int)} (h:fw n rows) {i k:Nat} (hk:k≤rows.length):fw n ((rows.take k).drop i):=by
 refine ⟨by simp;have:=h.1;omega,fun j hj=>?_⟩
 rw [List.length_drop,List.length_take,Nat.min_eq_left hk] at hj
 have e:((rows.take k).drop i).getD j []=rows.getD (i+j) []:=by
  rw [List.getD_eq_getElem?_getD,List.getElem?_drop,List.getElem?_take,if_pos (by omega),← List.getD_eq_getElem?_getD]
 rw [e];exact h.2 (i+j) (by omega)
theorem lE {rows:List (List Int)} {i k:Nat} (hk:k≤rows.length):((rows.take k).drop i).length=k-i:=by
 rw [List.length_drop,List.length_take,Nat.min_eq_left hk]
def mj (rec:List av→List (List Int)→Int × List av) (n e:Nat):Prop :=
 ∀ ns rs,okN ns→fw n rs→rs≠[]→ns.length+rs.length*e+1≤1048576→okN (rec ns rs).2∧(rec ns rs).2.length≤ns.length+rs.length*e+1
theorem py {i k e:Nat} (h:i<k):i*(e+1)+((k-i)*e+1)≤k*(e+1):=by
 obtain ⟨t,rfl⟩:∃ t,k=i+(t+1):=⟨k-i-1,by omega⟩
 have e1:(i+(t+1))*(e+1)=i*(e+1)+(t+1)*(e+1):=Nat.add_mul _ _ _
 have e2:(t+1)*(e+1)=(t+1)*e+(t+1):=Nat.mul_succ _ _
 rw [show i+(t+1)-i=t+1 by omega,e1,e2]
 omega
theorem jN {i k e:Nat} (h:i≤k):i*e≤k*e:=Nat.mul_le_mul_right e h
theorem kN {rec:List av→List (List Int)→Int × List av} {n e:Nat} (hr:mj rec n e) {rows:List (List Int)} {d:Nat} (ha:fw n rows) {b0:Nat} (hb:b0+rows.length*(e+1)+1≤1048576) :
  ∀ f i nodes vals chs,okN nodes→nodes.length≤b0+i*(e+1)→i≤rows.length→vals.length≤i→chs.length≤i →
   okN (bw rec rows d f nodes vals chs i).1∧(bw rec rows d f nodes vals chs i).1.length≤b0+rows.length*(e+1)∧(bw rec rows d f nodes vals chs i).2.1.length≤rows.length∧(bw rec rows d f nodes vals chs i).2.2.length≤rows.length:=by
 intro f
 induction f with
 | zero =>
  intro i nodes vals chs h1 h2 h3 h4 h5
  have:=jN (e:=e+1) h3
  exact ⟨h1,by show nodes.length≤_;omega,by show vals.length≤_;omega,by show chs.length≤_;omega⟩
 | succ f ih =>
  intro i nodes vals chs h1 h2 h3 h4 h5
  have:=jN (e:=e+1) h3
  unfold bw
  by_cases h:i<rows.length
  ·rw [if_pos h]
   obtain ⟨g1,g2⟩:=ge (d:=d) h
   have g3:=py (e:=e) g1
   have g4:=jN (e:=e+1) g2
   have g5:=lE (i:=i) g2
   obtain ⟨q1,q2⟩:=hr nodes ((rows.take (cC rows d i)).drop i) h1 (jd ha g2) (by intro e0;rw [e0] at g5;simp at g5;omega) (by rw [g5];omega)
   rw [g5] at q2
   exact ih _ _ _ _ q1 (by omega) g2 (by rw [List.length_append,List.length_singleton];omega) (by rw [List.length_append,List.length_singleton];omega)
  ·rw [if_neg h]
   exact ⟨h1,by show nodes.length≤_;omega,by show vals.length≤_;omega,by show chs.length≤_;omega⟩
theorem iF {n:Nat}:∀ (e d:Nat),mj (fun ns rs=>bh e ns rs d) n e:=by
 intro e
 induction e with
 | zero=>intro d ns rs h1 h2 h3 h4;exact ⟨h1,by show ns.length≤_;omega⟩
 | succ e ih =>
  intro d ns rs h1 h2 h3 h4
  obtain ⟨q1,q2,q3,q4⟩:=kN (ih (d+1)) (d:=d) h2 (b0:=ns.length) h4 rs.length 0 ns [] [] h1 (by omega) (by omega) (by simp) (by simp)
  have hl:=h2.1
  show okN (bh (e+1) ns rs d).2∧(bh (e+1) ns rs d).2.length≤_
  unfold bh
  refine ⟨ox q1 (by omega) ⟨by omega,fun _ _=>trivial⟩ ⟨by omega,fun _ _=>trivial⟩,?_⟩
  have:=jc (bw (fun ns rs=>bh e ns rs (d+1)) rs d rs.length ns [] [] 0).1 (bw (fun ns rs=>bh e ns rs (d+1)) rs d rs.length ns [] [] 0).2
  omega
section
variable {N:Nat}
theorem mT (hN:1073741824≤N) {o:List Int} {nodes:List av} {x:av} (hn:okN nodes) (hx1:x.1.length≤1048576) (hx2:x.2.length≤1048576):∀ m i k,i+m=nodes.length→m<k→cW N k o nodes x.1 x.2 (i:Int)=some (match fC nodes x m i with | some j=>.inl ((j:Int),o,nodes) | none=>.inr (nodes.length:Int)):=by
 have hl:=hn.1
 intro m
 induction m with
 | zero =>
  intro i k hi hk
  obtain ⟨k,rfl⟩:∃ k',k=k'+1:=⟨k-1,by omega⟩
  obtain rfl:i=nodes.length:=by omega
  rw [cW,dge (by omega),cond_false];rfl
 | succ m ih =>
  intro i k hi hk
  obtain ⟨k,rfl⟩:∃ k',k=k'+1:=⟨k-1,by omega⟩
  have h:i<nodes.length:=by omega
  obtain ⟨g1,g2⟩:=ip hn h
  rw [cW,dlt h,cond_true,aS h,bs,cQ hN g1.1 (by omega),bs,kV,fC,iQ h]
  by_cases e1:nodes[i].1=x.1
  ·rw [decide_eq_true e1,cond_true,bs,cQ hN g2.1 (by omega),bs,kV]
   by_cases e2:nodes[i].2=x.2
   ·rw [decide_eq_true e2,cond_true,if_pos (Prod.ext e1 e2)]
   ·rw [decide_eq_false e2,cond_false,if_neg (fun e=>e2 (by rw [e])),ad1 (by omega),bs,ih (i+1) k (by omega) (by omega)]
  ·rw [decide_eq_false e1,cond_false,if_neg (fun e=>e1 (by rw [e])),ad1 (by omega),bs,ih (i+1) k (by omega) (by omega)]
theorem pk (hN:1073741824≤N) {o:List Int} {nodes:List av} {x:av} (hn:okN nodes) (hx1:x.1.length≤1048576) (hx2:x.2.length≤1048576) (h1:1≤nodes.length):dK N o nodes x.1 x.2=some ((df nodes x).1,o,(df nodes x).2):=by
 have hl:=hn.1
 unfold dK df
 rw [show (1:Int)=((1:Nat):Int) from rfl,mT hN hn hx1 hx2 (nodes.length-1) 1 N (by omega) (by omega),bs]
 cases fC nodes x (nodes.length-1) 1 with
 | some j=>rfl
 | none =>
  show (apd 48 nodes [(x.1,x.2)]).bind _=_
  rw [di (by decide) (by simp;omega),bs,et (by simp <;> omega) (by simp <;> omega),bs]
  simp
theorem ke {n:Nat} {rows:List (List Int)} (ha:fw n rows) {i d:Nat} (h:i<rows.length) (hd:d<n):ix rows (i:Int)=some (rows.getD i [])∧ix (rows.getD i []) (d:Int)=some ((rows.getD i []).getD d 0):=by
 have hl:=ha.2 i h
 refine ⟨by rw [aS h,db h],by rw [aS (by omega),cB (by omega)]⟩
theorem oT {rec:(List Int)→(List (List Int × List Int))→(List (List Int))→Int→Option (Int × (List Int) × (List (List Int × List Int)))} {n d:Nat} {rows:List (List Int)} (ha:fw n rows) (hd:d<n) {o:List Int} {nodes:List av} {vals chs:List Int} {i:Nat} (hi:i<rows.length) :
  ∀ m k f,k+m=rows.length→m<f→cw rec N f o nodes rows (d:Int) vals chs (i:Int) (k:Int)=some ((ea rows d ((rows.getD i []).getD d 0) m k:Nat):Int):=by
 have hl:=ha.1
 obtain ⟨i1,i2⟩:=ke ha hi hd
 intro m
 induction m with
 | zero =>
  intro k f hk hf
  obtain ⟨f,rfl⟩:∃ f',f=f'+1:=⟨f-1,by omega⟩
  rw [cw,dge (by omega),cond_false];rfl
 | succ m ih =>
  intro k f hk hf
  obtain ⟨f,rfl⟩:∃ f',f=f'+1:=⟨f-1,by omega⟩
  obtain ⟨k1,k2⟩:=ke ha (i:=k) (by omega) hd
  rw [cw,dlt (by omega),cond_true,k1,bs,k2,bs,i1,bs,i2,bs,ea,e8]
  by_cases e:(rows.getD k []).getD d 0=(rows.getD i []).getD d 0
  ·rw [decide_eq_true e,cond_true,if_pos e,ad1 (by omega),bs,ih (k+1) f (by omega) (by omega)]
  ·rw [decide_eq_false e,cond_false,if_neg e]
theorem nM {rec:(List Int)→(List (List Int × List Int))→(List (List Int))→Int→Option (Int × (List Int) × (List (List Int × List Int)))} {o:List Int} {rv:List av→List (List Int)→Int × List av} {n e d:Nat} (hr:mj rv n e) {rows:List (List Int)} (ha:fw n rows) (hd:d<n) (hn5:n≤1000) {b0:Nat} (hb:b0+rows.length*(e+1)+1≤1048576)
  (hrec:∀ ns rs,okN ns→1≤ns.length→fw n rs→rs≠[]→ns.length+rs.length*e+1≤1048576→rec o ns rs ((d+1:Nat):Int)=some ((rv ns rs).1,o,(rv ns rs).2)∧1≤(rv ns rs).2.length) {M:Nat} (hM:4001≤M) :
  ∀ m i k nodes vals chs,rows.length-i≤m→m<k→i≤rows.length→okN nodes→1≤nodes.length→nodes.length≤b0+i*(e+1)→vals.length≤i→chs.length≤i →
   bT rec M k o nodes rows (d:Int) vals chs (i:Int)=some (o,(bw rv rows d m nodes vals chs i).1,(bw rv rows d m nodes vals chs i).2.1,(bw rv rows d m nodes vals chs i).2.2,(rows.length:Int))∧1≤(bw rv rows d m nodes vals chs i).1.length:=by
 have hl:=ha.1
 intro m
 induction m with
 | zero =>
  intro i k nodes vals chs hi hk h3 h1 hp h2 h4 h5
  obtain ⟨k,rfl⟩:∃ k',k=k'+1:=⟨k-1,by omega⟩
  obtain rfl:i=rows.length:=by omega
  rw [bT,dge (by omega),cond_false]
  exact ⟨rfl,hp⟩
 | succ m ih =>
  intro i k nodes vals chs hi hk h3 h1 hp h2 h4 h5
  obtain ⟨k,rfl⟩:∃ k',k=k'+1:=⟨k-1,by omega⟩
  rw [bT]
  unfold bw
  by_cases h:i<rows.length
  ·obtain ⟨g1,g2⟩:=ge (d:=d) h
   have g3:=py (e:=e) g1
   have g4:=jN (e:=e+1) g2
   have g5:=lE (i:=i) g2
   have hne:(rows.take (cC rows d i)).drop i≠[]:=by intro e0;rw [e0] at g5;simp at g5;omega
   have hroom:nodes.length+((rows.take (cC rows d i)).drop i).length*e+1≤1048576:=by rw [g5];omega
   obtain ⟨q1,q2⟩:=hr nodes _ h1 (jd ha g2) hne hroom
   obtain ⟨q3,q4⟩:=hrec nodes _ h1 hp (jd ha g2) hne hroom
   rw [g5] at q2
   obtain ⟨i1,i2⟩:=ke ha h hd
   have hend:=oT (N:=M) (rec:=rec) ha hd (o:=o) (nodes:=nodes) (vals:=vals) (chs:=chs) h (rows.length-i) i M (by omega) (by omega)
   have hg:((ea rows d ((rows.getD i []).getD d 0) (rows.length-i) i:Nat):Int)=(cC rows d i:Nat):=rfl
   rw [hg] at hend
   rw [dlt h,cond_true,if_pos h,hend,bs,lpB,i1,bs,i2,bs,di (by decide) (by simp;omega),bs,gN (by omega) g2,bs,ad1 (by omega),bs,q3,bs,di (by decide) (by simp;omega),bs]
   exact ih (cC rows d i) k (rv nodes ((rows.take (cC rows d i)).drop i)).2 (vals++[(rows.getD i []).getD d 0]) (chs++[(rv nodes ((rows.take (cC rows d i)).drop i)).1]) (by omega) (by omega) g2 q1 q4 (by omega) (by rw [List.length_append,List.length_singleton];omega) (by rw [List.length_append,List.length_singleton];omega)
  ·obtain rfl:i=rows.length:=by omega
   rw [dge (by omega),cond_false,if_neg h]
   exact ⟨rfl,hp⟩
theorem jk {rows:List (List Int)} (h:rows≠[]):0<rows.length:=List.length_pos_iff.2 h
theorem lx {n:Nat} (hn5:n≤1000) {o:List Int}:∀ (e d M:Nat),d+e=n→1073741825+e≤M→∀ ns rs,okN ns→1≤ns.length→fw n rs→rs≠[]→ns.length+rs.length*e+1≤1048576 →
  bp M o ns rs (d:Int)=some ((bh e ns rs d).1,o,(bh e ns rs d).2)∧1≤(bh e ns rs d).2.length:=by
 intro e
 induction e with
 | zero =>
  intro d M hd hM ns rs h1 hp h2 h3 h4
  obtain ⟨M,rfl⟩:∃ M',M=M'+1:=⟨M-1,by omega⟩
  have h0:=jk h3
  have hl:=h2.2 0 h0
  rw [db h0] at hl
  rw [bp,decide_eq_true (by omega),cond_true,ix0 h0,bs,show ((d:Int) == (rs[0].length:Int))=true by simp;omega,cond_true]
  exact ⟨rfl,hp⟩
 | succ e ih =>
  intro d M hd hM ns rs h1 hp h2 h3 h4
  obtain ⟨M,rfl⟩:∃ M',M=M'+1:=⟨M-1,by omega⟩
  have h0:=jk h3
  have hl:=h2.2 0 h0
  rw [db h0] at hl
  have hok:=iF (n:=n) e (d+1)
  obtain ⟨q1,q2⟩:=nM (rec:=bp M) (o:=o) hok h2 (d:=d) (by omega) hn5 (b0:=ns.length) h4 (fun ns' rs' a1 a2 a3 a4 a5=>ih (d+1) M (by omega) (by omega) ns' rs' a1 a2 a3 a4 a5) (M:=M) (by omega) rs.length 0 M ns [] [] (by omega) (by have:=h2.1;omega) (by omega) h1 hp (by omega) (by simp) (by simp)
  obtain ⟨g1,g2,g3,g4⟩:=kN hok (d:=d) h2 (b0:=ns.length) h4 rs.length 0 ns [] [] h1 (by omega) (by omega) (by simp) (by simp)
  have hl4:=h2.1
  rw [bp,decide_eq_true (by omega),cond_true,ix0 h0,bs,show ((d:Int) == (rs[0].length:Int))=false by simp;omega,cond_false]
  have q1':bT (bp M) M M o ns rs (d:Int) [] [] 0=_:=q1
  rw [q1',bs,lpB]
  show (dK M _ _ _ _).bind _=_∧_
  rw [pk (by omega) (x:=(bw (fun ns rs=>bh e ns rs (d+1)) rs d rs.length ns [] [] 0).2) g1 (by omega) (by omega) q2,bs]
  refine ⟨rfl,?_⟩
  unfold bh df
  split
  ·exact q2
  ·simp
def cV (n:Nat):List Int:=(List.range' 0 n).map fun i:Nat=>(i:Int)
theorem dJ (n:Nat):(cV n).length=n:=by simp [cV]
def zN:List av:=[([],[])]
theorem lS:okN zN:=⟨by decide,by intro x hx;simp only [zN,List.mem_singleton] at hx;subst hx;exact ⟨⟨by decide,fun _ _=>trivial⟩,⟨by decide,fun _ _=>trivial⟩⟩⟩
theorem jW {n:Int} {rows:List (List Int)} (h:bm n rows=true):0≤n∧n≤5∧fw n.toNat rows:=by
 obtain ⟨h0,h1,h2,h3⟩:=dR h
 refine ⟨h0,h1,h2,fun i hi=>?_⟩
 have:=(h3 i hi).1
 rw [db hi];omega
theorem nW (hM:1073742848≤N) {n:Nat} {rows:List (List Int)} (hn5:n≤5) (ha:fw n rows) {a:Int} {o:List Int} (ho:o.length≤1048576):eu N a rows o=some (o,a7 n rows):=by
 have hl:=ha.1
 unfold eu a7
 rw [lH (by decide) ho,bs]
 by_cases h:rows=[]
 ·subst h
  rfl
 ·have hmul:rows.length*n≤4000*5:=Nat.mul_le_mul hl hn5
  have hz:zN.length=1:=rfl
  have h0:=jk h
  obtain ⟨q1,q2⟩:=lx (n:=n) (o:=o) (by omega) n 0 N (by omega) (by omega) zN rows lS (by decide) ha h (by omega)
  have q1':bp N o [([],[])] rows 0=_:=q1
  rw [if_neg h,show ((rows.length:Int) == 0)=false by simp;omega,cond_false,q1',bs]
  rfl
def fx (n:Int) (rows:List (List Int)):(List Int × List av) × Bool:=bif bm n rows then ((cV n.toNat,a7 n.toNat rows),true) else (([],[]),false)
theorem nJ {n:Nat} {rows:List (List Int)} (hn5:n≤5) (ha:fw n rows):okN (a7 n rows):=by
 have hl:=ha.1
 unfold a7
 by_cases h:rows=[]
 ·rw [if_pos h]
  refine ⟨by decide,fun x hx=>?_⟩
  simp only [List.mem_cons,List.not_mem_nil,or_false,or_self] at hx
  subst hx;exact ⟨⟨by decide,fun _ _=>trivial⟩,⟨by decide,fun _ _=>trivial⟩⟩
 ·have hmul:rows.length*n≤4000*5:=Nat.mul_le_mul hl hn5
  have hz:zN.length=1:=rfl
  rw [if_neg h]
  exact (iF (n:=n) n 0 zN rows lS ha h (by omega)).1
theorem mh {n:Int} {rows:List (List Int)}:okI (fx n rows).1.1∧okN (fx n rows).1.2:=by
 unfold fx
 cases hv:bm n rows with
 | false=>exact ⟨⟨Nat.zero_le _,fun _ _=>trivial⟩,⟨Nat.zero_le _,fun x hx=>by simp at hx⟩⟩
 | true =>
  obtain ⟨h0,h1,h2⟩:=jW hv
  exact ⟨⟨by show (cV n.toNat).length≤1048576;rw [dJ];omega,fun _ _=>trivial⟩,nJ (by omega) h2⟩
theorem f5 (hM:1073742848≤N) {n:Int} {rows:List (List Int)} (hx:dW rows):co N n rows=some (fx n rows):=by
 unfold co fx
 rw [dw (by omega) hx,bs]
 cases hv:bm n rows with
 | false=>rfl
 | true =>
  obtain ⟨h0,h1,h2⟩:=jW hv
  obtain ⟨m,rfl⟩:=Int.eq_ofNat_of_zero_le h0
  have hL:=km (L:=fun k s=>aZ N k (m:Int) rows [] [] s) (n:=m) (by omega)
   (fun k xs h=>by
    show aZ N (k+1) (m:Int) rows [] [] xs=_
    rw [aZ,dlt h,cond_true,di (by decide) (by simp;omega),bs])
   (fun k xs h=>by
    show aZ N (k+1) (m:Int) rows [] [] xs=_
    rw [aZ,dge (by omega),cond_false]) N 0 (by omega) (by omega)
  have hL':aZ N N (m:Int) rows [] [] []=some (cV m):=hL
  rw [cond_true,hL',bs,lpB]
  show (eu N (m:Int) rows (cV m)).bind _=_
  rw [nW hM (n:=m) (by omega) h2 (by rw [dJ];omega),bs]
  rfl
end
end Go.Proofs.Ytdapplkijobjoaa
namespace Go.Proofs.Ytdapplkijobjoaa
open Go.RowKit

abbrev bb:=List (List Int)
def a9:Nat→bb→bb→bb
 | 0,_,_=>[]
 | _+1,[],[]=>[]
 | m+1,[],y :: b=>y :: a9 m [] b
 | m+1,x :: a,[]=>x :: a9 m a []
 | m+1,x :: a,y :: b=>if aX x y<0 then x :: a9 m a (y :: b) else if aX x y=0 then x :: a9 m a b else y :: a9 m (x :: a) b
theorem i7:∀ (m m':Nat) (a b:bb),a.length+b.length≤m→a.length+b.length≤m'→a9 m a b=a9 m' a b:=by
 intro m
 induction m with
 | zero =>
  intro m' a b h1 h2
  obtain rfl:a=[]:=List.length_eq_zero_iff.1 (by omega)
  obtain rfl:b=[]:=List.length_eq_zero_iff.1 (by simpa using h1)
  cases m' <;> rfl
 | succ m ih =>
  intro m' a b h1 h2
  cases m' with
  | zero =>
   obtain rfl:a=[]:=List.length_eq_zero_iff.1 (by omega)
   obtain rfl:b=[]:=List.length_eq_zero_iff.1 (by simpa using h2)
   rfl
  | succ m' =>
   match a,b with
   | [],[]=>rfl
   | [],y :: b=>rw [a9,a9,ih m' [] b (by simp at h1 ⊢;omega) (by simp at h2 ⊢;omega)]
   | x :: a,[]=>rw [a9,a9,ih m' a [] (by simp at h1 ⊢;omega) (by simp at h2 ⊢;omega)]
   | x :: a,y :: b =>
    simp only [List.length_cons] at h1 h2
    rw [a9,a9,ih m' a (y :: b) (by simp only [List.length_cons];omega) (by simp only [List.length_cons];omega),ih m' a b (by omega) (by omega),ih m' (x :: a) b (by simp only [List.length_cons];omega) (by simp only [List.length_cons];omega)]
theorem eD:∀ (m:Nat) (a b:bb) (r:List Int),r∈a9 m a b→r∈a∨r∈b:=by
 intro m
 induction m with
 | zero=>intro a b r h;simp [a9] at h
 | succ m ih =>
  intro a b r h
  match a,b with
  | [],[]=>simp [a9] at h
  | [],y :: b =>
   rw [a9,List.mem_cons] at h
   rcases h with rfl | h
   ·simp
   ·rcases ih _ _ _ h with h | h
    ·simp at h
    ·simp [h]
  | x :: a,[] =>
   rw [a9,List.mem_cons] at h
   rcases h with rfl | h
   ·simp
   ·rcases ih _ _ _ h with h | h
    ·simp [h]
    ·simp at h
  | x :: a,y :: b =>
   rw [a9] at h
   split at h
   ·rcases List.mem_cons.1 h with rfl | h
    ·simp
    ·rcases ih _ _ _ h with h | h
     ·simp [h]
     ·exact .inr h
   ·split at h
    ·rcases List.mem_cons.1 h with rfl | h
     ·simp
     ·rcases ih _ _ _ h with h | h
      ·simp [h]
      ·simp [h]
    ·rcases List.mem_cons.1 h with rfl | h
     ·simp
     ·rcases ih _ _ _ h with h | h
      ·exact .inl h
      ·simp [h]
theorem mo:∀ (m:Nat) (a b:bb),(a9 m a b).length≤a.length+b.length:=by
 intro m
 induction m with
 | zero=>intro a b;simp [a9]
 | succ m ih =>
  intro a b
  match a,b with
  | [],[]=>simp [a9]
  | [],y :: b=>have:=ih [] b;rw [a9];simp only [List.length_cons,List.length_nil] at *;omega
  | x :: a,[]=>have:=ih a [];rw [a9];simp only [List.length_cons,List.length_nil] at *;omega
  | x :: a,y :: b =>
   have h1:=ih a (y :: b);have h2:=ih a b;have h3:=ih (x :: a) b
   rw [a9]
   simp only [List.length_cons] at *
   split
   ·simp only [List.length_cons];omega
   ·split <;> (simp only [List.length_cons];omega)
def d7 (rows:bb):Prop:=rows.Pairwise fun a b=>aX a b<0
theorem oE {a b:List Int} (h1:¬ aX a b<0) (h2:¬ aX a b=0):aX b a<0:=by
 have:=hO a b;omega
theorem mb:∀ (m:Nat) (a b:bb),d7 a→d7 b→d7 (a9 m a b):=by
 intro m
 induction m with
 | zero=>intro a b _ _;exact List.Pairwise.nil
 | succ m ih =>
  intro a b ha hb
  match a,b with
  | [],[]=>exact List.Pairwise.nil
  | [],y :: b =>
   rw [a9]
   obtain ⟨h1,h2⟩:=List.pairwise_cons.1 hb
   refine List.pairwise_cons.2 ⟨fun r hr=>?_,ih [] b ha h2⟩
   rcases eD _ _ _ _ hr with h | h
   ·simp at h
   ·exact h1 r h
  | x :: a,[] =>
   rw [a9]
   obtain ⟨h1,h2⟩:=List.pairwise_cons.1 ha
   refine List.pairwise_cons.2 ⟨fun r hr=>?_,ih a [] h2 hb⟩
   rcases eD _ _ _ _ hr with h | h
   ·exact h1 r h
   ·simp at h
  | x :: a,y :: b =>
   obtain ⟨h1,h2⟩:=List.pairwise_cons.1 ha
   obtain ⟨g1,g2⟩:=List.pairwise_cons.1 hb
   rw [a9]
   by_cases hlt:aX x y<0
   ·rw [if_pos hlt]
    refine List.pairwise_cons.2 ⟨fun r hr=>?_,ih a (y :: b) h2 hb⟩
    rcases eD _ _ _ _ hr with h | h
    ·exact h1 r h
    ·rcases List.mem_cons.1 h with rfl | h
     ·exact hlt
     ·exact ew hlt (g1 r h)
   ·rw [if_neg hlt]
    by_cases heq:aX x y=0
    ·rw [if_pos heq]
     have e:=eg.1 heq
     refine List.pairwise_cons.2 ⟨fun r hr=>?_,ih a b h2 g2⟩
     rcases eD _ _ _ _ hr with h | h
     ·exact h1 r h
     ·rw [e];exact g1 r h
    ·rw [if_neg heq]
     have hgt:=oE hlt heq
     refine List.pairwise_cons.2 ⟨fun r hr=>?_,ih (x :: a) b ha g2⟩
     rcases eD _ _ _ _ hr with h | h
     ·rcases List.mem_cons.1 h with rfl | h
      ·exact hgt
      ·exact ew hgt (h1 r h)
     ·exact g1 r h
def cv:Nat→bb→bb
 | 0,rows=>rows
 | f+1,rows=>if rows.length<2 then rows else a9 rows.length (cv f (rows.take (rows.length / 2))) (cv f (rows.drop (rows.length / 2)))
theorem fL:∀ (f:Nat) (rows:bb),(cv f rows).length≤rows.length:=by
 intro f
 induction f with
 | zero=>intro rows;exact Nat.le_refl _
 | succ f ih =>
  intro rows
  unfold cv
  split
  ·exact Nat.le_refl _
  ·have h1:=mo rows.length (cv f (rows.take (rows.length / 2))) (cv f (rows.drop (rows.length / 2)))
   have h2:=ih (rows.take (rows.length / 2))
   have h3:=ih (rows.drop (rows.length / 2))
   rw [List.length_take] at h2
   rw [List.length_drop] at h3
   omega
theorem fK:∀ (f:Nat) (rows:bb) (r:List Int),r∈cv f rows→r∈rows:=by
 intro f
 induction f with
 | zero=>intro rows r h;exact h
 | succ f ih =>
  intro rows r h
  unfold cv at h
  split at h
  ·exact h
  ·rcases eD _ _ _ _ h with h | h
   ·exact List.mem_of_mem_take (ih _ _ h)
   ·exact List.mem_of_mem_drop (ih _ _ h)
theorem iA:∀ (f:Nat) (rows:bb),rows.length≤2 ^ f→d7 (cv f rows):=by
 intro f
 induction f with
 | zero =>
  intro rows h
  match rows,h with
  | [],_=>exact List.Pairwise.nil
  | [x],_=>exact List.pairwise_singleton _ _
  | _ :: _ :: _,h=>simp at h
 | succ f ih =>
  intro rows h
  rw [Nat.pow_succ] at h
  unfold cv
  by_cases h2:rows.length<2
  ·rw [if_pos h2]
   match rows,h2 with
   | [],_=>exact List.Pairwise.nil
   | [x],_=>exact List.pairwise_singleton _ _
   | _ :: _ :: _,h2=>simp at h2;omega
  ·rw [if_neg h2]
   exact mb _ _ _ (ih _ (by rw [List.length_take];omega)) (ih _ (by rw [List.length_drop];omega))
section
variable {N:Nat}
theorem ixc {α:Type} (x:α) (a:List α):ix (x :: a) 0=some x:=by unfold ix;rw [if_pos (by omega)];rfl
theorem lZ {α:Type} (x:α) (a:List α):slc (x :: a) 1 ((x :: a).length:Int)=some a:=by
 have h:=gN (xs:=x :: a) (lo:=1) (hi:=(x :: a).length) (by simp) (Nat.le_refl _)
 rw [List.take_length] at h
 exact h
theorem lY {α:Type} (x:α) (a:List α):decide ((0:Int)<((x :: a).length:Int))=true:=decide_eq_true (by rw [List.length_cons];omega)
theorem l7 {α:Type}:decide ((0:Int)<(([]:List α).length:Int))=false:=rfl
theorem pt {α:Type} (x:α) (a:List α):(((x :: a).length:Int) == 0)=false:=by simp;omega
def iH (z:Option (List Int)):bb→bb
 | []=>[]
 | y :: b=>if z=some y then b else y :: b
def qg (z:Option (List Int)) (a b:bb):Prop:=d7 a∧d7 b∧∀ w,z=some w→(∀ x∈a,aX w x<0)∧∀ y∈b,aX w y≤0
theorem fD (x:List Int):aX x x=0:=eg.2 rfl
theorem gq {x:List Int} {b:bb} (h:∀ y∈b,aX x y<0):iH (some x) b=b:=by
 match b with
 | []=>rfl
 | y :: b =>
  show (if some x=some y then b else y :: b)=y :: b
  rw [if_neg]
  intro e
  have:=h y (by simp)
  rw [Option.some.inj e,fD] at this;omega
theorem iE {z:Option (List Int)} {y:List Int} {b:bb} (h:z=some y):iH z (y :: b)=b:=if_pos h
theorem fJ {z:Option (List Int)} {y:List Int} {b:bb} (h:¬ z=some y):iH z (y :: b)=y :: b:=if_neg h
theorem kM {out r:bb} {x:List Int}:(out++[x])++r=out++x :: r:=by simp
theorem gW {out:bb} {x:List Int}:(out++[x]).getLast? = some x:=by simp
theorem kD (hN:1073741824≤N) {α:Type} {out:bb} {x:List Int} {F G:Option α} (hl:∀ r∈out,r.length≤1048576) (hx:x.length≤1048576) (ho:out.length≤4194304) (f:bb→Option α) (hF:F=(apd 24 out [x]).bind f) (hG:G=(sb (out.length:Int) 1).bind fun i=>(ix out i).bind fun w=>(aH N w x).bind fun r=>bif (r != 0) then (apd 24 out [x]).bind f else f out) :
  (bif ((out.length:Int) == 0) then F else G)=f (if out.getLast? = some x then out else out++[x]):=by
 have hap:apd 24 out [x]=some (out++[x]):=di (by decide) (by simp;omega)
 by_cases h0:out=[]
 ·subst h0
  rw [show ((([]:bb).length:Int) == 0)=true from rfl,cond_true,hF,hap,bs]
  rfl
 ·have hp:0<out.length:=List.length_pos_iff.2 h0
  have hlast:out.getLast? = some out[out.length-1]:=by rw [List.getLast?_eq_getElem?,List.getElem?_eq_getElem (by omega)]
  rw [show ((out.length:Int) == 0)=false by simp;omega,cond_false,hG,et (by omega) (by omega),bs,show (out.length:Int)-1=((out.length-1:Nat):Int) by omega,aS (by omega),bs,cQ hN (hl _ (List.getElem_mem _)) (by omega),bs,hap,bs,nT,hlast]
  by_cases e:out[out.length-1]=x
  ·rw [decide_eq_true e,Bool.not_true,cond_false,if_pos (by rw [e])]
  ·rw [decide_eq_false e,Bool.not_false,cond_true,if_neg (fun h=>e (Option.some.inj h))]
def jg (rows:bb):Prop:=∀ r∈rows,r.length≤1048576
theorem eX {x:List Int} {a:bb} (h:jg (x :: a)):jg a:=fun r hr=>h r (by simp [hr])
theorem g7 {out:bb} {x:List Int} (h:jg out) (hx:x.length≤1048576):jg (out++[x]):=by
 intro r hr
 rcases List.mem_append.1 hr with hr | hr
 ·exact h r hr
 ·simp only [List.mem_singleton] at hr;subst hr;exact hx
theorem g6 {x:List Int} {a:bb} (h:d7 (x :: a)):(∀ y∈a,aX x y<0)∧d7 a:=List.pairwise_cons.1 h
theorem nU (hN:1073741824≤N) {rec:bb→Option bb}:∀ (m k:Nat) (a b out:bb),a.length+b.length≤m→m<k→jg a→jg b→jg out→out.length+m≤4194304→qg out.getLast? a b →
  ap rec N k a b out=some ([],[],out++a9 m a (iH out.getLast? b)):=by
 intro m
 induction m with
 | zero =>
  intro k a b out h hk ha hb hl ho hI
  obtain ⟨k,rfl⟩:∃ k',k=k'+1:=⟨k-1,by omega⟩
  obtain rfl:a=[]:=List.length_eq_zero_iff.1 (by omega)
  obtain rfl:b=[]:=List.length_eq_zero_iff.1 (by simpa using h)
  rw [ap,l7,cond_false,cond_false,a9,List.append_nil]
 | succ m ih =>
  intro k a b out h hk ha hb hl ho hI
  obtain ⟨k,rfl⟩:∃ k',k=k'+1:=⟨k-1,by omega⟩
  obtain ⟨aa,ab,iz⟩:=hI
  match a,b with
  | [],[] =>
   rw [ap,l7,cond_false,cond_false]
   show _=some ([],[],out++a9 (m+1) [] [])
   rw [a9,List.append_nil]
  | [],y :: b =>
   simp only [List.length_cons,List.length_nil] at h
   have hy:=hb y (by simp)
   obtain ⟨b1,b2⟩:=g6 ab
   rw [ap,l7,cond_false,lY,cond_true,show ((([]:bb).length:Int) == 0)=true from rfl,cond_true,show decide ((0:Int)<1)=true from rfl,cond_true,ixc,bs,lZ,bs]
   refine Eq.trans (kD (f:=fun o=>ap rec N k [] b o) hN hl hy (by omega) rfl rfl) ?_
   by_cases e:out.getLast? = some y
   ·rw [if_pos e]
    show ap rec N k [] b out=_
    rw [ih k [] b out (by simp;omega) (by omega) ha (eX hb) hl (by omega) ⟨aa,b2,fun w hw=>⟨by simp,fun y' hy'=>(iz w hw).2 y' (by simp [hy'])⟩⟩,iE e,e,gq b1,i7 m (m+1) [] b (by simp;omega) (by simp;omega)]
   ·rw [if_neg e]
    show ap rec N k [] b (out++[y])=_
    rw [ih k [] b (out++[y]) (by simp;omega) (by omega) ha (eX hb) (g7 hl hy) (by rw [List.length_append,List.length_singleton];omega) ⟨aa,b2,fun w hw=>by
      rw [gW] at hw;cases hw;exact ⟨by simp,fun y' hy'=>Int.le_of_lt (b1 y' hy')⟩⟩,gW,gq b1,fJ e,a9,kM]
  | x :: a,[] =>
   simp only [List.length_cons,List.length_nil] at h
   have hx:=ha x (by simp)
   obtain ⟨a1,a2⟩:=g6 aa
   have e:¬ out.getLast? = some x:=fun e=>by have:=(iz x e).1 x (by simp);rw [fD] at this;omega
   rw [ap,lY,cond_true,pt,cond_false,l7,cond_false,show decide ((0:Int) < -1)=false from rfl,cond_false,ixc,bs,lZ,bs]
   refine Eq.trans (kD (f:=fun o=>ap rec N k a [] o) hN hl hx (by omega) rfl rfl) ?_
   rw [if_neg e]
   show ap rec N k a [] (out++[x])=_
   rw [ih k a [] (out++[x]) (by simp;omega) (by omega) (eX ha) hb (g7 hl hx) (by rw [List.length_append,List.length_singleton];omega) ⟨a2,ab,fun w hw=>by
     rw [gW] at hw;cases hw;exact ⟨a1,by simp⟩⟩]
   show some ([],[],(out++[x])++a9 m a [])=some ([],[],out++a9 (m+1) (x :: a) [])
   rw [a9,kM]
  | x :: a,y :: b =>
   simp only [List.length_cons] at h
   have hx:=ha x (by simp);have hy:=hb y (by simp)
   obtain ⟨a1,a2⟩:=g6 aa
   obtain ⟨b1,b2⟩:=g6 ab
   have ex:¬ out.getLast? = some x:=fun e=>by have:=(iz x e).1 x (by simp);rw [fD] at this;omega
   rw [ap,lY,cond_true,pt,cond_false,lY,cond_true,ixc,bs,ixc,bs,cQ hN hx (by omega),bs]
   by_cases hgt:0<aX x y
   ·have hyx:aX y x<0:=by have:=hO x y;omega
    rw [decide_eq_true hgt,cond_true,bs,lZ,bs]
    refine Eq.trans (kD (f:=fun o=>ap rec N k (x :: a) b o) hN hl hy (by omega) rfl rfl) ?_
    by_cases e:out.getLast? = some y
    ·rw [if_pos e]
     show ap rec N k (x :: a) b out=_
     rw [ih k (x :: a) b out (by simp only [List.length_cons];omega) (by omega) ha (eX hb) hl (by omega) ⟨aa,b2,fun w hw=>⟨(iz w hw).1,fun y' hy'=>(iz w hw).2 y' (by simp [hy'])⟩⟩,iE e,e,gq b1,i7 m (m+1) (x :: a) b (by simp only [List.length_cons];omega) (by simp only [List.length_cons];omega)]
    ·rw [if_neg e]
     show ap rec N k (x :: a) b (out++[y])=_
     rw [ih k (x :: a) b (out++[y]) (by simp only [List.length_cons];omega) (by omega) ha (eX hb) (g7 hl hy) (by rw [List.length_append,List.length_singleton];omega) ⟨aa,b2,fun w hw=>by
       rw [gW] at hw;cases hw
       refine ⟨fun x' hx'=>?_,fun y' hy'=>Int.le_of_lt (b1 y' hy')⟩
       rcases List.mem_cons.1 hx' with rfl | hx'
       ·exact hyx
       ·exact ew hyx (a1 x' hx')⟩,gW,gq b1,fJ e,a9,if_neg (by omega),if_neg (by omega),kM]
   ·rw [decide_eq_false hgt,cond_false,bs,lZ,bs]
    refine Eq.trans (kD (f:=fun o=>ap rec N k a (y :: b) o) hN hl hx (by omega) rfl rfl) ?_
    rw [if_neg ex]
    show ap rec N k a (y :: b) (out++[x])=_
    have ey:¬ out.getLast? = some y:=fun e=>by
     have h1:=(iz y e).1 x (by simp)
     have:=hO x y
     omega
    have hb':∀ y'∈b,aX x y'<0:=fun y' hy'=>by
     by_cases h0:aX x y=0
     ·rw [eg.1 h0];exact b1 y' hy'
     ·exact ew (by omega) (b1 y' hy')
    rw [ih k a (y :: b) (out++[x]) (by simp only [List.length_cons];omega) (by omega) (eX ha) hb (g7 hl hx) (by rw [List.length_append,List.length_singleton];omega) ⟨a2,ab,fun w hw=>by
      rw [gW] at hw;cases hw
      refine ⟨a1,fun y' hy'=>?_⟩
      rcases List.mem_cons.1 hy' with rfl | hy'
      ·omega
      ·exact Int.le_of_lt (hb' y' hy')⟩,gW,fJ ey,a9]
    by_cases h0:aX x y=0
    ·rw [iE (by rw [eg.1 h0]),if_neg (by omega),if_pos h0,kM]
    ·rw [fJ (fun e=>h0 (by rw [Option.some.inj e,fD])),if_pos (by omega),kM]
theorem qt2 {n:Nat} (h:n≤1048576):qt (n:Int) 2=some ((n / 2:Nat):Int):=by
 have e:(n:Int).tdiv 2=((n / 2:Nat):Int):=rfl
 unfold qt
 rw [e,if_pos ⟨by decide,by unfold rng;simp only [Bool.and_eq_true,decide_eq_true_eq];omega⟩]
theorem mW:∀ (d M:Nat) (rows:bb),rows.length≤2 ^ d→1073741825+d≤M→dW rows→cD M rows=some (cv d rows):=by
 intro d
 induction d with
 | zero =>
  intro M rows h hM hr
  obtain ⟨M,rfl⟩:∃ M',M=M'+1:=⟨M-1,by omega⟩
  rw [cD,decide_eq_true (by simp at h;omega),cond_true];rfl
 | succ d ih =>
  intro M rows h hM hr
  obtain ⟨M,rfl⟩:∃ M',M=M'+1:=⟨M-1,by omega⟩
  rw [Nat.pow_succ] at h
  have hl:=hr.1
  rw [cD,cv]
  by_cases h2:rows.length<2
  ·rw [decide_eq_true (by omega),cond_true,if_pos h2]
  ·have ht:dW (rows.take (rows.length / 2)):=⟨by rw [List.length_take];omega,fun r h=>hr.2 r (List.mem_of_mem_take h)⟩
   have hd:dW (rows.drop (rows.length / 2)):=⟨by rw [List.length_drop];omega,fun r h=>hr.2 r (List.mem_of_mem_drop h)⟩
   have l1:=fL d (rows.take (rows.length / 2))
   have l2:=fL d (rows.drop (rows.length / 2))
   have ha1:=iA d (rows.take (rows.length / 2)) (by rw [List.length_take];omega)
   have ha2:=iA d (rows.drop (rows.length / 2)) (by rw [List.length_drop];omega)
   rw [List.length_take] at l1
   rw [List.length_drop] at l2
   rw [decide_eq_false (by omega),cond_false,if_neg h2,qt2 hl,bs,show (0:Int)=((0:Nat):Int) from rfl,gN (Nat.zero_le _) (by omega),bs,List.drop_zero,
    ih M _ (by rw [List.length_take];omega) (by omega) ht,bs,gN (by omega) (Nat.le_refl _),bs,List.take_length,ih M _ (by rw [List.length_drop];omega) (by omega) hd,bs,
    nU (by omega) rows.length M _ _ [] (by omega) (by omega) (fun r h=>(ht.2 r (fK _ _ _ h)).1) (fun r h=>(hd.2 r (fK _ _ _ h)).1) (fun r h=>by simp at h) (by rw [List.length_nil];omega) ⟨ha1,ha2,fun w hw=>by simp at hw⟩,bs,lpB]
   have hdz:iH (([]:bb).getLast?) (cv d (rows.drop (rows.length / 2)))=cv d (rows.drop (rows.length / 2)):=by
    cases cv d (rows.drop (rows.length / 2)) with
    | nil=>rfl
    | cons y b=>exact fJ (by simp)
   rw [hdz]
   rfl
end
end Go.Proofs.Ytdapplkijobjoaa
namespace Go.Proofs.Ytdapplkijobjoaa
open Go.RowKit

def gU (n:Int) (rows:bb):Bool:=rows.all fun r=>decide ((r.length:Int)=n)&&aM r
def lR:(Int × bb) × Bool:=((0,[]),false)
def iU (n:Int) (rows:bb):(Int × bb) × Bool:=bif gU n rows&&bm n (cv 20 rows) then ((n,cv 20 rows),true) else lR
theorem k9 {rows:bb} (d:Nat) (h:dW rows):dW (cv d rows):=⟨Nat.le_trans (fL d rows) h.1,fun r hr=>h.2 r (fK _ _ _ hr)⟩
section
variable {N:Nat}
theorem oQ (hN:1073741824≤N) {n:Int} {rows:bb} (hr:dW rows):bC N N n rows 0 [] 0=some (bif gU n rows then .inr (rows.length:Int) else .inl lR):=by
 have hl:=hr.1
 have h:=gr (fun k i=>bC N k n rows 0 [] i) rows.length (by omega) lR (fun i=>if h:i<rows.length then decide ((rows[i].length:Int)=n)&&aM rows[i] else true) (rows.length:Int)
  (fun k i h=>by
   have hx:=(hr.2 _ (List.getElem_mem h)).1
   show bC N (k+1) n rows 0 [] (i:Int)=_
   rw [bC,dlt h,cond_true,aS h,bs,bs,eI hN hx,bs,ad1 (by omega),bs,dif_pos h]
   by_cases e:(rows[i].length:Int)=n
   ·rw [show ((rows[i].length:Int) != n)=false by simpa using e,cond_false,decide_eq_true e,Bool.true_and];rfl
   ·rw [show ((rows[i].length:Int) != n)=true by simpa using e,cond_true,decide_eq_false e,Bool.false_and,cond_false];rfl)
  (fun k=>by
   show bC N (k+1) n rows 0 [] (rows.length:Int)=_
   rw [bC,dge (by omega),cond_false]) N 0 (by omega) (by omega)
 rw [Nat.sub_zero,gt rows (fun r=>decide ((r.length:Int)=n)&&aM r) _ (fun i hi=>by rw [dif_pos hi])] at h
 exact h
theorem ij (hM:1073742848≤N) {n:Int} {rows:bb} (hr:dW rows):dl N n rows=some (iU n rows):=by
 unfold dl iU
 rw [oQ (by omega) hr,bs]
 cases gU n rows with
 | false=>rw [cond_false,qk];rfl
 | true =>
  rw [cond_true,qd,mW 20 N rows (by have:=hr.1;omega) (by omega) hr,bs,mX (by omega) (k9 20 hr),bs,dw (by omega) (k9 20 hr),bs,Bool.true_and]
  cases bm n (cv 20 rows) <;> rfl
end
end Go.Proofs.Ytdapplkijobjoaa
namespace Go.Proofs.Ytdapplkijobjoaa
open Go.RowKit

def jy (xs:List Int):List Int:=(cV 5).filter fun v=>decide (v∈xs)
end Go.Proofs.Ytdapplkijobjoaa
namespace Go.Proofs.Ytdapplkijobjoaa
open Go.RowKit

def pP (vs row:List Int) (i:Nat):Bool:=decide (row.getD (gz vs (vs.getD i 0)).toNat 0=row.getD i 0)
def qj (vs row:List Int) (i:Nat):Bool:=(List.range' 0 i).all (pP vs row)
def oz (vs row:List Int):Bool:=qj vs row vs.length
def oA (vs row:List Int):List Int:=(jy vs).map fun v=>row.getD (gz vs v).toNat 0
end Go.Proofs.Ytdapplkijobjoaa
namespace Go.Proofs.Ytdapplkijobjoaa
open Go.RowKit

theorem nZ {n:Nat} {v:Int}:v∈cV n↔0≤v∧v<n:=by
 unfold cV
 rw [List.mem_map]
 constructor
 ·rintro ⟨i,hi,rfl⟩
  simp at hi;omega
 ·rintro ⟨h0,h1⟩
  exact ⟨v.toNat,by simp;omega,by omega⟩
end Go.Proofs.Ytdapplkijobjoaa
namespace Go.Proofs.Ytdapplkijobjoaa
open Go.RowKit

def li (vs:List Int) (rows:bb):bb:=(rows.filter (oz vs)).map (oA vs)
end Go.Proofs.Ytdapplkijobjoaa
namespace Go.Proofs.Ytdapplkijobjoaa
open Go.RowKit

theorem lh {n:Int} {rows:bb} (h0:0≤n∧n≤5) (hl:rows.length≤4000) (hf:∀ r∈rows,(r.length:Int)=n∧aM r=true):iU n rows=((n,cv 20 rows),true):=by
 have hfit:gU n rows=true:=by
  unfold gU
  rw [List.all_eq_true]
  intro r hr
  rw [decide_eq_true (hf r hr).1,(hf r hr).2];rfl
 have hlen:=fL 20 rows
 have hasc:=iA 20 rows (by omega)
 have hv:bm n (cv 20 rows)=true:=by
  unfold bm
  rw [Bool.and_eq_true,Bool.and_eq_true,decide_eq_true_eq,List.all_eq_true]
  refine ⟨⟨cS.2 h0,by omega⟩,fun i hi=>?_⟩
  have hi':i<(cv 20 rows).length:=by simp at hi;omega
  obtain ⟨g1,g2⟩:=hf _ (fK 20 rows _ (List.getElem_mem hi'))
  unfold f9
  rw [db hi',decide_eq_true g1,g2,Bool.true_and,Bool.true_and]
  cases i with
  | zero=>rfl
  | succ i =>
   rw [Nat.add_sub_cancel,db (by omega)]
   have:=List.pairwise_iff_getElem.1 hasc i (i+1) (by omega) hi' (by omega)
   rw [decide_eq_true this,Bool.or_true]
 unfold iU
 rw [hfit,hv];rfl
end Go.Proofs.Ytdapplkijobjoaa
namespace Go.Proofs.Ytdapplkijobjoaa
open Go.RowKit

def pX (ts:List gg) (s:ByteArray) (vs:List Int):Int × bb :=
 bif (iR ts s).2&&decide ((iR ts s).1.1=(vs.length:Int)) then (((jy vs).length:Int),cv 20 (li vs (iR ts s).1.2)) else (((jy vs).length:Int),[])
end Go.Proofs.Ytdapplkijobjoaa
namespace Go.Proofs.Ytdapplkijobjoaa
open Go.RowKit

theorem mI {xs:List Int} (h:xs.Nodup) {i j:Nat} (hi:i<xs.length) (hj:j<xs.length) (e:xs[i]=xs[j]):i=j:=by
 rw [List.Nodup,List.pairwise_iff_getElem] at h
 rcases Nat.lt_trichotomy i j with hl | hl | hl
 ·exact absurd e (h i j hi hj hl)
 ·exact hl
 ·exact absurd e.symm (h j i hj hi hl)
theorem mE {xs:List Int} {n:Int} (hn:xs.Nodup) (hb:∀ x∈xs,0≤x∧x≤n-1):gh xs n=true:=by
 unfold gh
 rw [List.all_eq_true]
 intro i hi
 have hi':i<xs.length:=by simpa using hi
 rw [cB hi',Bool.and_eq_true,Bool.not_eq_true',decide_eq_false_iff_not]
 refine ⟨cS.2 (hb _ (List.getElem_mem hi')),fun hm=>?_⟩
 obtain ⟨j,hj,e⟩:=List.mem_iff_getElem.1 hm
 rw [List.getElem_take] at e
 have:=mI hn (by rw [List.length_take] at hj;omega) hi' e
 rw [List.length_take] at hj;omega
theorem ma (n:Nat):(cV n).Nodup:=by
 unfold cV
 rw [List.Nodup,List.pairwise_map]
 exact List.Pairwise.imp (fun h=>by omega) (List.pairwise_lt_range' (s:=0) (n:=n))
structure QFor (ts:List gg) (n:Nat) (atoms:List l6) (order:List Int):Prop where
 n1:1≤n
 n5:n≤5
 ol:order.length=n
 os:gh order n=true
 a1:1≤atoms.length
 a4:atoms.length≤4
 al:∀ a∈atoms,a.2.length≤5∧1≤a.2.length∧∀ v∈a.2,0≤v∧v<n
 af:∀ a∈atoms,(iR ts a.1).2=true∧(iR ts a.1).1.1=(a.2.length:Int)
 cov:∀ v:Int,0≤v→v<n→∃ a∈atoms,v∈a.2
end Go.Proofs.Ytdapplkijobjoaa
namespace Go.Proofs.Ytdapplkijobjoaa
open Go.RowKit

theorem nI (x:List Int):¬ aX x x<0:=by rw [fD];decide
theorem eB {rows:bb} (h:d7 rows):rows.Nodup:=List.Pairwise.imp (fun {a b} (hab:aX a b<0) (e:a=b)=>nI b (by rw [e] at hab;exact hab)) h
theorem jY {n:Int} {rows:bb} (h:bm n rows=true):d7 rows:=by
 rw [d7,List.pairwise_iff_getElem]
 exact fun i j hi hj hij=>kz h i j hij hj
end Go.Proofs.Ytdapplkijobjoaa
