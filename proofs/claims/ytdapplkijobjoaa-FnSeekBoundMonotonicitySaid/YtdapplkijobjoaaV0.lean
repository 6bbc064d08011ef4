/- A small separation logic over the model: how lists, rows and structs of Go read in memory ('Rep'), what a call owns ('Sat'), and the laws of the walk for them. Program-independent. -/
import Derived.WalkKit
import Derived.ProofKit
import Derived.WalkLawsBesides
import Derived.Outline
import Derived.Lib.Hide
import Derived.Deep.Quiet
import Derived.Deep.LoopGhost
import Derived.IntWalk
import Derived.Test.YtdapplkijobjoaaRows
import Derived.OpenShut
import Derived.Lib.SmallJoins
import Derived.Laws.BytesString
namespace Go.Proofs.Ytdapplkijobjoaa
open Go.RowKit
abbrev Ext (w w':World):Prop:=Below w.heap.size w w'

theorem Ext.refl (w:World):Ext w w:=Below.refl _ _
theorem Ext.trans {a b c:World} (h:Ext a b) (k:Ext b c):Ext a c:=Below.trans h (k.mono h.size)
theorem Below.andExt {B:Nat} {a b c:World} (h:Below B a b) (hB:B≤b.heap.size) (k:Ext b c):Below B a c:=Below.trans h (k.mono hB)

structure Chg (fp:List Nat) (w w':World):Prop where
 os:w'.os=w.os
 tape:w'.tape=w.tape
 output:w'.output=w.output
 size:w.heap.size≤w'.heap.size
 block:∀ k,k<w.heap.size→k∉fp→w'.heap[k]? = w.heap[k]?

theorem Chg.of_ext {w w':World} (h:Ext w w') (fp:List Nat):Chg fp w w':=⟨h.os,h.tape,h.output,h.size,fun k hk _=>h.block k hk⟩
theorem Chg.trans {fp:List Nat} {a b c:World} (h:Chg fp a b) (k:Chg fp b c):Chg fp a c :=
 ⟨k.os.trans h.os,k.tape.trans h.tape,k.output.trans h.output,Nat.le_trans h.size k.size,fun i hi hn=>(k.block i (Nat.lt_of_lt_of_le hi h.size) hn).trans (h.block i hi hn)⟩
theorem Chg.mono {fp fp':List Nat} {a b:World} (h:Chg fp a b) (hs:∀ x∈fp,x∈fp'):Chg fp' a b :=
 ⟨h.os,h.tape,h.output,h.size,fun k hk hn=>h.block k hk (fun hm=>hn (hs k hm))⟩
theorem Chg.ext {a b:World} (h:Chg [] a b):Ext a b:=⟨h.os,h.tape,h.output,h.size,fun k hk=>h.block k hk (by simp)⟩
theorem Chg.refl (fp:List Nat) (w:World):Chg fp w w:=⟨rfl,rfl,rfl,Nat.le_refl _,fun _ _ _=>rfl⟩
theorem Chg.alloc (w:World) (o:Obj):Chg [] w (w.alloc o):=Chg.of_ext ((Below.refl _ _).alloc (Nat.le_refl _) o) _

theorem lK {B:Nat} {a b c:World} {fp:List Nat} (h:Below B a b) (hB:B≤b.heap.size) (k:Chg fp b c) (hf:∀ x∈fp,B≤x):Below B a c :=
  ⟨k.os.trans h.os,k.tape.trans h.tape,k.output.trans h.output,Nat.le_trans h.size k.size,
   fun i hi=>(k.block i (Nat.lt_of_lt_of_le hi hB) (fun hm=>by have:=hf i hm;omega)).trans (h.block i hi)⟩

structure Rep (α:Type) where
 sz:Nat
 rd:World→List Value→α→Prop
 own:World→List Value→α→List Nat→Prop
 rd_len:∀ {w cs x},rd w cs x→cs.length=sz
 rd_one:∀ {w cs x},rd w cs x→∀ c∈cs,c.oneCell'=true
 rd_ext:∀ {w w' cs x},rd w cs x→Ext w w'→rd w' cs x
 own_rd:∀ {w cs x fp},own w cs x fp→rd w cs x
 own_ext:∀ {w w' cs x fp},own w cs x fp→(∀ b∈fp,w'.heap[b]? = w.heap[b]?)→own w' cs x fp
 own_lt:∀ {w cs x fp},own w cs x fp→∀ b∈fp,b<w.heap.size

def aT:Rep Int where
 sz:=1
 rd _ cs n:=cs=[.int .i64 n]
 own _ cs n fp:=cs=[.int .i64 n]∧fp=[]
 rd_len h:=by subst h;rfl
 rd_one h:=by subst h;simp [Value.oneCell']
 rd_ext h _:=h
 own_rd h:=h.1
 own_ext h _:=h
 own_lt h:=by rw [h.2];simp

def fK:Rep ByteArray where
 sz:=1
 rd _ cs s:=cs=[.string s]∧s.size≤9223372036854775807
 own _ cs s fp:=(cs=[.string s]∧s.size≤9223372036854775807)∧fp=[]
 rd_len h:=by rw [h.1];rfl
 rd_one h:=by rw [h.1];simp [Value.oneCell']
 rd_ext h _:=h
 own_rd h:=h.1
 own_ext h _:=h
 own_lt h:=by rw [h.2];simp

def iY {α β:Type} (R:Rep α) (S:Rep β):Rep (α × β) where
 sz:=R.sz+S.sz
 rd w cs x:=∃ c1 c2,cs=c1++c2∧R.rd w c1 x.1∧S.rd w c2 x.2
 own w cs x fp:=∃ c1 c2 f1 f2,cs=c1++c2∧fp=f1++f2∧R.own w c1 x.1 f1∧S.own w c2 x.2 f2
 rd_len h:=by obtain ⟨c1,c2,rfl,h1,h2⟩:=h;rw [List.length_append,R.rd_len h1,S.rd_len h2]
 rd_one h:=by
  obtain ⟨c1,c2,rfl,h1,h2⟩:=h
  intro c hc
  rcases List.mem_append.1 hc with h | h
  ·exact R.rd_one h1 c h
  ·exact S.rd_one h2 c h
 rd_ext h he:=by obtain ⟨c1,c2,rfl,h1,h2⟩:=h;exact ⟨c1,c2,rfl,R.rd_ext h1 he,S.rd_ext h2 he⟩
 own_rd h:=by obtain ⟨c1,c2,f1,f2,rfl,rfl,h1,h2⟩:=h;exact ⟨c1,c2,rfl,R.own_rd h1,S.own_rd h2⟩
 own_ext h he:=by
  obtain ⟨c1,c2,f1,f2,rfl,rfl,h1,h2⟩:=h
  exact ⟨c1,c2,f1,f2,rfl,rfl,R.own_ext h1 (fun b hb=>he b (List.mem_append_left _ hb)),S.own_ext h2 (fun b hb=>he b (List.mem_append_right _ hb))⟩
 own_lt h:=by
  obtain ⟨c1,c2,f1,f2,rfl,rfl,h1,h2⟩:=h
  intro b hb
  rcases List.mem_append.1 hb with h | h
  ·exact R.own_lt h1 b h
  ·exact S.own_lt h2 b h

def iv (w:World) (ao:Option Addr) (ccs:List Value):Prop :=
 ccs=[]∨∃ b off,ao=some ⟨b,off,none⟩∧∀ j c,ccs[j]? = some c→w.cell? ⟨b,off+j,none⟩=some c

section
variable {α:Type} (R:Rep α)
def rdL (w:World):List Value→List α→Prop
 | ccs,[]=>ccs=[]
 | ccs,x :: xs=>∃ ec rest,ccs=ec++rest∧R.rd w ec x∧rdL w rest xs
def dh (w:World):List Value→List α→List Nat→Prop
 | ccs,[],fp=>ccs=[]∧fp=[]
 | ccs,x :: xs,fp=>∃ ec rest f1 f2,ccs=ec++rest∧fp=f1++f2∧R.own w ec x f1∧dh w rest xs f2
variable {R}
theorem eC {w:World}:∀ {xs:List α} {ccs:List Value},rdL R w ccs xs→ccs.length=xs.length*R.sz
 | [],_,h=>by simp only [rdL] at h;subst h;simp
 | x :: xs,_,h=>by
  obtain ⟨ec,rest,rfl,h1,h2⟩:=h
  rw [List.length_append,R.rd_len h1,eC h2,List.length_cons,Nat.add_mul,Nat.one_mul,Nat.add_comm]
theorem kI {w:World}:∀ {xs:List α} {ccs:List Value},rdL R w ccs xs→∀ c∈ccs,c.oneCell'=true
 | [],_,h=>by simp only [rdL] at h;subst h;simp
 | x :: xs,_,h=>by
  obtain ⟨ec,rest,rfl,h1,h2⟩:=h
  intro c hc
  rcases List.mem_append.1 hc with h | h
  ·exact R.rd_one h1 c h
  ·exact kI h2 c h
theorem kF {w w':World} (he:Ext w w'):∀ {xs:List α} {ccs:List Value},rdL R w ccs xs→rdL R w' ccs xs
 | [],_,h=>h
 | x :: xs,_,h=>by
  obtain ⟨ec,rest,rfl,h1,h2⟩:=h
  exact ⟨ec,rest,rfl,R.rd_ext h1 he,kF he h2⟩
theorem dN {w:World}:∀ {xs:List α} {ccs:List Value} {fp:List Nat},dh R w ccs xs fp→rdL R w ccs xs
 | [],_,_,h=>h.1
 | x :: xs,_,_,h=>by
  obtain ⟨ec,rest,f1,f2,rfl,rfl,h1,h2⟩:=h
  exact ⟨ec,rest,rfl,R.own_rd h1,dN h2⟩
theorem et {w w':World}:∀ {xs:List α} {ccs:List Value} {fp:List Nat},dh R w ccs xs fp→(∀ b∈fp,w'.heap[b]? = w.heap[b]?)→dh R w' ccs xs fp
 | [],_,_,h,_=>h
 | x :: xs,_,_,h,he=>by
  obtain ⟨ec,rest,f1,f2,rfl,rfl,h1,h2⟩:=h
  exact ⟨ec,rest,f1,f2,rfl,rfl,R.own_ext h1 (fun b hb=>he b (List.mem_append_left _ hb)),et h2 (fun b hb=>he b (List.mem_append_right _ hb))⟩
theorem eS {w:World}:∀ {xs:List α} {ccs:List Value} {fp:List Nat},dh R w ccs xs fp→∀ b∈fp,b<w.heap.size
 | [],_,_,h=>by rw [h.2];simp
 | x :: xs,_,_,h=>by
  obtain ⟨ec,rest,f1,f2,rfl,rfl,h1,h2⟩:=h
  intro b hb
  rcases List.mem_append.1 hb with h | h
  ·exact R.own_lt h1 b h
  ·exact eS h2 b h
theorem gG {w:World} {ys:List α} {ccs':List Value} {fp':List Nat} (h':dh R w ccs' ys fp') :
  ∀ {xs:List α} {ccs:List Value} {fp:List Nat},dh R w ccs xs fp→dh R w (ccs++ccs') (xs++ys) (fp++fp')
 | [],_,_,h=>by obtain ⟨rfl,rfl⟩:=h;simpa using h'
 | x :: xs,_,_,h=>by
  obtain ⟨ec,rest,f1,f2,rfl,rfl,h1,h2⟩:=h
  exact ⟨ec,rest++ccs',f1,f2++fp',by simp,by simp,h1,gG h' h2⟩
theorem iX {w:World} {ys:List α} {ccs':List Value} (h':rdL R w ccs' ys) :
  ∀ {xs:List α} {ccs:List Value},rdL R w ccs xs→rdL R w (ccs++ccs') (xs++ys)
 | [],_,h=>by simp only [rdL] at h;subst h;simpa using h'
 | x :: xs,_,h=>by
  obtain ⟨ec,rest,rfl,h1,h2⟩:=h
  exact ⟨ec,rest++ccs',by simp,h1,iX h' h2⟩
theorem gN {w:World}:∀ {xs:List α} {ccs:List Value},rdL R w ccs xs→∀ (i:Nat) (h:i<xs.length),
  ∃ ec,R.rd w ec xs[i]∧∀ j c,ec[j]? = some c→ccs[i*R.sz+j]? = some c
 | [],_,_,i,h=>absurd h (by simp)
 | x :: xs,_,hr,i,h=>by
  obtain ⟨ec,rest,rfl,h1,h2⟩:=hr
  cases i with
  | zero =>
   refine ⟨ec,h1,fun j c hj=>?_⟩
   have hlt:j<ec.length:=(List.getElem?_eq_some_iff.1 hj).1
   rw [Nat.zero_mul,Nat.zero_add,List.getElem?_append_left hlt]
   exact hj
  | succ i =>
   obtain ⟨ec',h3,h4⟩:=gN h2 i (by simpa using h)
   refine ⟨ec',by simpa using h3,fun j c hj=>?_⟩
   have e:(i+1)*R.sz+j=ec.length+(i*R.sz+j):=by rw [R.rd_len h1,Nat.add_mul];omega
   rw [e,List.getElem?_append_right (by omega),Nat.add_sub_cancel_left]
   exact h4 j c hj
theorem ip {w:World}:∀ (k:Nat) {xs:List α} {ccs:List Value},rdL R w ccs xs→rdL R w (ccs.take (k*R.sz)) (xs.take k)∧rdL R w (ccs.drop (k*R.sz)) (xs.drop k)
 | 0,xs,ccs,h=>by simp [rdL];simpa using h
 | k+1,[],ccs,h=>by simp only [rdL] at h;subst h;simp [rdL]
 | k+1,x :: xs,ccs,h=>by
  obtain ⟨ec,rest,rfl,h1,h2⟩:=h
  obtain ⟨i1,i2⟩:=ip k h2
  have e:(k+1)*R.sz=ec.length+k*R.sz:=by rw [R.rd_len h1,Nat.add_mul];omega
  constructor
  ·refine ⟨ec,rest.take (k*R.sz),?_,h1,i1⟩
   rw [e,List.take_append,List.take_of_length_le (by omega),Nat.add_sub_cancel_left]
  ·rw [e,List.drop_append,List.drop_of_length_le (by omega),Nat.add_sub_cancel_left]
   simpa using i2
end

def au {α:Type} (R:Rep α) (E:TypeId):Rep (List α) where
 sz:=1
 rd w cs xs:=∃ ao cap ccs,cs=[.slice ao xs.length cap]∧xs.length≤cap∧cap≤maxLen∧(ao=none→cap=0)∧rdL R w ccs xs∧iv w ao ccs
 own w cs xs fp:=(cs=[.slice none 0 0]∧xs=[]∧fp=[]) ∨
  ∃ g cap cur ccs f2,cs=[.slice (some ⟨g,0,none⟩) xs.length cap]∧w.heap[g]? = some (.cells cur E (0,0))∧xs.length≤cap∧cap≤maxLen∧cur.size=cap*R.sz ∧
   cur.toList.take (xs.length*R.sz)=ccs∧dh R w ccs xs f2∧fp=g :: f2
 rd_len h:=by obtain ⟨_,_,_,rfl,_⟩:=h;rfl
 rd_one h:=by obtain ⟨_,_,_,rfl,_⟩:=h;simp [Value.oneCell']
 rd_ext h he:=by
  obtain ⟨ao,cap,ccs,rfl,h1,h2,h3,h4,h5⟩:=h
  refine ⟨ao,cap,ccs,rfl,h1,h2,h3,kF he h4,?_⟩
  rcases h5 with h5 | ⟨b,off,rfl,h5⟩
  ·exact .inl h5
  ·exact .inr ⟨b,off,rfl,fun j c hj=>by have:=h5 j c hj;rw [he.cell (block_lt_of_cell this)];exact this⟩
 own_rd h:=by
  rcases h with ⟨rfl,rfl,rfl⟩ | ⟨g,cap,cur,ccs,f2,rfl,hg,h1,h2,h3,h4,h5,rfl⟩
  ·exact ⟨none,0,[],rfl,Nat.le_refl _,Nat.zero_le _,fun _=>rfl,rfl,.inl rfl⟩
  ·refine ⟨_,cap,ccs,rfl,h1,h2,by simp,dN h5,.inr ⟨g,0,rfl,fun j c hj=>?_⟩⟩
   rw [Nat.zero_add,cell_of_row _ g j cur E (0,0) hg,← Array.getElem?_toList]
   rw [← h4,List.getElem?_take] at hj
   split at hj
   ·exact hj
   ·cases hj
 own_ext h he:=by
  rcases h with h | ⟨g,cap,cur,ccs,f2,rfl,hg,h1,h2,h3,h4,h5,rfl⟩
  ·exact .inl h
  ·exact .inr ⟨g,cap,cur,ccs,f2,rfl,by rw [he g (by simp)];exact hg,h1,h2,h3,h4,et h5 (fun b hb=>he b (by simp [hb])),rfl⟩
 own_lt h:=by
  rcases h with ⟨_,_,rfl⟩ | ⟨g,cap,cur,ccs,f2,rfl,hg,h1,h2,h3,h4,h5,rfl⟩
  ·simp
  ·intro b hb
   rcases List.mem_cons.1 hb with rfl | hb
   ·exact (Array.getElem?_eq_some_iff.1 hg).1
   ·exact eS h5 b hb

structure Asn where
 holds:World→List Nat→Prop
 ext:∀ {w w' fp},holds w fp→(∀ b∈fp,w'.heap[b]? = w.heap[b]?)→holds w' fp
 lt:∀ {w fp},holds w fp→∀ b∈fp,b<w.heap.size

def Own {α:Type} (R:Rep α) (cs:List Value) (x:α):Asn:=⟨fun w fp=>R.own w cs x fp,R.own_ext,R.own_lt⟩
def Box (b:Nat) (E:TypeId) (cs:List Value):Asn where
 holds w fp:=fp=[b]∧w.heap[b]? = some (.cells cs.toArray E (0,0))
 ext h he:=by obtain ⟨rfl,h⟩:=h;exact ⟨rfl,by rw [he b (by simp)];exact h⟩
 lt h:=by obtain ⟨rfl,h⟩:=h;intro b' hb;simp at hb;subst hb;exact (Array.getElem?_eq_some_iff.1 h).1

def d6 (w:World):List Asn→List Nat→Prop
 | [],fp=>fp=[]
 | A :: Γ,fp=>∃ f1 f2,fp=f1++f2∧A.holds w f1∧d6 w Γ f2

structure Sat (w0 w:World) (Γ:List Asn):Prop where
 below:Below w0.heap.size w0 w
 sat:∃ fp,d6 w Γ fp∧fp.Nodup∧∀ b∈fp,w0.heap.size≤b

theorem d6.ext {w w':World}:∀ {Γ:List Asn} {fp:List Nat},d6 w Γ fp→(∀ b∈fp,w'.heap[b]? = w.heap[b]?)→d6 w' Γ fp
 | [],_,h,_=>h
 | A :: Γ,_,h,he=>by
  obtain ⟨f1,f2,rfl,h1,h2⟩:=h
  exact ⟨f1,f2,rfl,A.ext h1 (fun b hb=>he b (List.mem_append_left _ hb)),d6.ext h2 (fun b hb=>he b (List.mem_append_right _ hb))⟩
theorem d6.lt {w:World}:∀ {Γ:List Asn} {fp:List Nat},d6 w Γ fp→∀ b∈fp,b<w.heap.size
 | [],_,h=>by simp only [d6] at h;subst h;simp
 | A :: Γ,_,h=>by
  obtain ⟨f1,f2,rfl,h1,h2⟩:=h
  intro b hb
  rcases List.mem_append.1 hb with h | h
  ·exact A.lt h1 b h
  ·exact d6.lt h2 b h
theorem d6.append {w:World} {Δ:List Asn} {g:List Nat} (k:d6 w Δ g):∀ {Γ:List Asn} {fp:List Nat},d6 w Γ fp→d6 w (Γ++Δ) (fp++g)
 | [],_,h=>by simp only [d6] at h;subst h;simpa using k
 | A :: Γ,_,h=>by
  obtain ⟨f1,f2,rfl,h1,h2⟩:=h
  exact ⟨f1,f2++g,by simp,h1,d6.append k h2⟩
theorem d6.perm {w:World} {Γ Δ:List Asn} (hp:Γ.Perm Δ):∀ {fp:List Nat},d6 w Γ fp→∃ fp',fp.Perm fp'∧d6 w Δ fp':=by
 induction hp with
 | nil=>intro fp h;exact ⟨fp,.refl _,h⟩
 | cons A _ ih =>
  rintro _ ⟨f1,f2,rfl,h1,h2⟩
  obtain ⟨f2',p,h2'⟩:=ih h2
  exact ⟨f1++f2',List.Perm.append_left _ p,f1,f2',rfl,h1,h2'⟩
 | swap A B Γ =>
  rintro _ ⟨f1,_,rfl,h1,f2,f3,rfl,h2,h3⟩
  refine ⟨f2++(f1++f3),?_,f2,f1++f3,rfl,h2,f1,f3,rfl,h1,h3⟩
  rw [← List.append_assoc,← List.append_assoc]
  exact List.Perm.append_right _ List.perm_append_comm
 | trans _ _ ih1 ih2 =>
  intro fp h
  obtain ⟨f1,p1,h1⟩:=ih1 h
  obtain ⟨f2,p2,h2⟩:=ih2 h1
  exact ⟨f2,p1.trans p2,h2⟩

theorem Sat.start (w:World):Sat w w []:=⟨Below.refl _ _,[],rfl,by simp,by simp⟩
theorem Sat.le {w0 w:World} {Γ:List Asn} (h:Sat w0 w Γ):w0.heap.size≤w.heap.size:=h.below.size
theorem Sat.ext {w0 w w':World} {Γ:List Asn} (h:Sat w0 w Γ) (he:Ext w w'):Sat w0 w' Γ:=by
 obtain ⟨hb,fp,h1,h2,h3⟩:=h
 exact ⟨Below.andExt hb hb.size he,fp,h1.ext (fun b hb'=>he.block b (h1.lt b hb')),h2,h3⟩
theorem Sat.call {w0 w w':World} {Γ Δ:List Asn} (h:Sat w0 w Γ) (k:Sat w w' Δ):Sat w0 w' (Δ++Γ):=by
 obtain ⟨hb,fp,h1,h2,h3⟩:=h
 obtain ⟨kb,fk,k1,k2,k3⟩:=k
 refine ⟨Below.andExt hb hb.size kb,fk++fp,d6.append (h1.ext (fun b hb'=>kb.block b (h1.lt b hb'))) k1,?_,?_⟩
 ·rw [List.nodup_append]
  exact ⟨k2,h2,fun a ha b hb' e=>by have:=k3 a ha;have:=h1.lt b hb';omega⟩
 ·intro b hb'
  rcases List.mem_append.1 hb' with h | h
  ·have:=k3 b h;have:=hb.size;omega
  ·exact h3 b h
theorem Sat.call1 {w0 w w':World} {Γ:List Asn} {A:Asn} (h:Sat w0 w Γ) (k:Sat w w' [A]):Sat w0 w' (A :: Γ):=h.call k
theorem Sat.call2 {w0 w w':World} {Γ:List Asn} {A B:Asn} (h:Sat w0 w Γ) (k:Sat w w' [A,B]):Sat w0 w' (A :: B :: Γ):=h.call k
theorem Sat.perm {w0 w:World} {Γ Δ:List Asn} (h:Sat w0 w Γ) (hp:Γ.Perm Δ):Sat w0 w Δ:=by
 obtain ⟨hb,fp,h1,h2,h3⟩:=h
 obtain ⟨fp',p,h1'⟩:=d6.perm hp h1
 exact ⟨hb,fp',h1',p.nodup_iff.1 h2,fun b hb'=>h3 b (p.mem_iff.2 hb')⟩
theorem Sat.tail {w0 w:World} {A:Asn} {Γ:List Asn} (h:Sat w0 w (A :: Γ)):Sat w0 w Γ:=by
 obtain ⟨hb,_,⟨f1,f2,rfl,_,h2⟩,hn,h3⟩:=h
 exact ⟨hb,f2,h2,(List.nodup_append.1 hn).2.1,fun b hb'=>h3 b (List.mem_append_right _ hb')⟩
theorem Sat.head {w0 w:World} {A:Asn} {Γ:List Asn} (h:Sat w0 w (A :: Γ)):∃ fp,A.holds w fp∧fp.Nodup∧∀ b∈fp,w0.heap.size≤b:=by
 obtain ⟨_,_,⟨f1,f2,rfl,h1,_⟩,hn,h3⟩:=h
 exact ⟨f1,h1,(List.nodup_append.1 hn).1,fun b hb'=>h3 b (List.mem_append_left _ hb')⟩
theorem Sat.take {w0 w:World} {Γ:List Asn} (h:Sat w0 w Γ) (Δ Θ:List Asn) (hp:Γ.Perm (Δ++Θ)):Sat w0 w Δ:=by
 have h':=h.perm (hp.trans List.perm_append_comm)
 clear h hp
 induction Θ with
 | nil=>simpa using h'
 | cons A Θ ih=>exact ih h'.tail
theorem Sat.upd {w0 w w':World} {A B:Asn} {Γ:List Asn} (h:Sat w0 w (A :: Γ))
  (k:∀ fp,A.holds w fp→fp.Nodup→∃ fp',B.holds w' fp'∧fp'.Nodup∧Chg fp w w'∧∀ b∈fp',b∈fp∨w.heap.size≤b):Sat w0 w' (B :: Γ):=by
 obtain ⟨hb,_,⟨f1,f2,rfl,h1,h2⟩,hn,h3⟩:=h
 obtain ⟨n1,n2,n3⟩:=List.nodup_append.1 hn
 obtain ⟨f1',k1,k2,k3,k4⟩:=k f1 h1 n1
 refine ⟨lK hb hb.size k3 (fun x hx=>h3 x (List.mem_append_left _ hx)),f1'++f2,⟨f1',f2,rfl,k1,h2.ext (fun b hb'=>k3.block b (h2.lt b hb') (fun hm=>n3 b hm b hb' rfl))⟩,?_,?_⟩
 ·rw [List.nodup_append]
  refine ⟨k2,n2,fun a ha b hb' e=>?_⟩
  subst e
  rcases k4 a ha with h | h
  ·exact n3 a h a hb' rfl
  ·have:=h2.lt a hb';omega
 ·intro b hb'
  rcases List.mem_append.1 hb' with h | h
  ·rcases k4 b h with h | h
   ·exact h3 b (List.mem_append_left _ h)
   ·have:=hb.size;omega
  ·exact h3 b (List.mem_append_right _ h)
theorem Sat.join {w0 w:World} {A B C:Asn} {Γ:List Asn} (h:Sat w0 w (A :: B :: Γ)) (k:∀ f g,A.holds w f→B.holds w g→C.holds w (f++g)):Sat w0 w (C :: Γ):=by
 obtain ⟨hb,_,⟨f1,_,rfl,h1,f2,f3,rfl,h2,h4⟩,hn,h3⟩:=h
 exact ⟨hb,(f1++f2)++f3,⟨f1++f2,f3,rfl,k _ _ h1 h2,h4⟩,by simpa using hn,by simpa using h3⟩
theorem Sat.conv {w0 w:World} {A B:Asn} {Γ:List Asn} (h:Sat w0 w (A :: Γ)) (k:∀ f,A.holds w f→B.holds w f):Sat w0 w (B :: Γ):=by
 obtain ⟨hb,_,⟨f1,f2,rfl,h1,h2⟩,hn,h3⟩:=h
 exact ⟨hb,_,⟨f1,f2,rfl,k _ h1,h2⟩,hn,h3⟩
theorem Sat.add {w0 w:World} {A:Asn} {Γ:List Asn} (h:Sat w0 w Γ) (k:A.holds w []):Sat w0 w (A :: Γ):=by
 obtain ⟨hb,fp,h1,h2,h3⟩:=h
 exact ⟨hb,fp,⟨[],fp,rfl,k,h1⟩,h2,h3⟩
theorem Sat.box {w0 w:World} {Γ:List Asn} (h:Sat w0 w Γ) (E:TypeId) (cs:List Value):Sat w0 (w.alloc (.cells cs.toArray E)) (Box w.heap.size E cs :: Γ):=by
 have k:Sat w (w.alloc (.cells cs.toArray E)) [Box w.heap.size E cs] :=
  ⟨(Below.refl _ _).alloc (Nat.le_refl _) _,[w.heap.size],⟨[w.heap.size],[],by simp,⟨rfl,heap_alloc_new w _⟩,rfl⟩,by simp,by simp⟩
 simpa using h.call k
theorem eL (w:World) (o:Obj):Ext w (w.alloc o):=(Below.refl _ _).alloc (Nat.le_refl _) _
theorem Sat.rd {α:Type} {R:Rep α} {w0 w:World} {cs:List Value} {x:α} {Γ:List Asn} (h:Sat w0 w (Own R cs x :: Γ)):R.rd w cs x:=by
 obtain ⟨fp,h,_⟩:=h.head
 exact R.own_rd h

class AtBox (Γ:List Asn) (b:Nat) (E:outParam TypeId) (cs:outParam (List Value)) (rest:outParam (List Asn)):Prop where
 perm:Γ.Perm (Box b E cs :: rest)
instance (Γ:List Asn) (b:Nat) (E:TypeId) (cs:List Value):AtBox (Box b E cs :: Γ) b E cs Γ:=⟨.refl _⟩
instance (A:Asn) (Γ:List Asn) (b:Nat) (E:TypeId) (cs:List Value) (rest:List Asn) [h:AtBox Γ b E cs rest]:AtBox (A :: Γ) b E cs (A :: rest) :=
 ⟨(List.Perm.cons A h.perm).trans (.swap _ _ _)⟩
class AtOwn (Γ:List Asn) (v:Value) (α:outParam Type) (R:outParam (Rep α)) (x:outParam α) (rest:outParam (List Asn)):Prop where
 perm:Γ.Perm (Own R [v] x :: rest)
instance {α:Type} (Γ:List Asn) (v:Value) (R:Rep α) (x:α):AtOwn (Own R [v] x :: Γ) v α R x Γ:=⟨.refl _⟩
instance {α:Type} (A:Asn) (Γ:List Asn) (v:Value) (R:Rep α) (x:α) (rest:List Asn) [h:AtOwn Γ v α R x rest]:AtOwn (A :: Γ) v α R x (A :: rest) :=
 ⟨(List.Perm.cons A h.perm).trans (.swap _ _ _)⟩
theorem Sat.own {α:Type} {R:Rep α} {w0 w:World} {v:Value} {x:α} {Γ rest:List Asn} (h:Sat w0 w Γ) [k:AtOwn Γ v α R x rest]:Sat w0 w (Own R [v] x :: rest):=h.perm k.perm
theorem Sat.read {α:Type} {R:Rep α} {w0 w:World} {v:Value} {x:α} {Γ rest:List Asn} (h:Sat w0 w Γ) [AtOwn Γ v α R x rest]:R.rd w [v] x:=h.own.rd

theorem Sat.keep {w0 w:World} {Γ:List Asn} (n:Nat) (h:Sat w0 w Γ):Sat w0 w (Γ.take n):=h.take (Γ.take n) (Γ.drop n) (by rw [List.take_append_drop])
class PlainT (P:Program) (t:TypeId):Prop where
 h:∃ d,P.underlying t=some d∧(match d with | .struct _ | .array _ _=>False | _=>True)
class AggT (P:Program) (t:TypeId) (n:outParam Nat):Prop where
 h:∃ d,P.underlying t=some d∧(match d with | .struct _ | .array _ _=>True | _=>False)
 size:(P.info? t).map (·.size)=some n
class SliceT (P:Program) (t:TypeId) (e:outParam TypeId):Prop where
 h:P.underlying t=some (.slice e)
class ElemT (P:Program) (t:TypeId) (z:outParam (List Value)) (n bytes:outParam Nat):Prop where
 h:(P.info? t).map (fun i=>(i.zero.map fun v=>v.cells.toList,i.size,i.bytes))=some (some z,n,bytes)

section laws
variable {P:Program} {ops:Array Oper} {rest:List Oper} {o:Oper} {a:Act} {Q:Exit→Act→World→Prop} {w w0:World} {Γ rΓ:List Asn}

theorem nH (hg:o.guard=none) {t:TypeId} {x:Operand} (ho:o.op=.box t x) (cs:List Value) (hx:(a.eval x).cells=cs.toArray) (hS:Sat w0 w Γ)
  (hK:∀ w' b,Sat w0 w' (Box b t cs :: Γ)→Ext w w'→wpList P ops Q rest (a.put o.dst (.pointer (some ⟨b,0,none⟩))) w'):wpList P ops Q (o :: rest) a w:=by
 refine wpList_plain hg fun K hK'=>?_
 unfold Oper.wp execOp
 simp only [ho,Instr.box,newVar,newRow,hx,Sem.run_bind,Sem.run_pure,run_newObj,Result.andThen_ok,Oper.upon_value]
 exact hK' _ _ (hK _ _ (hS.box t cs) (eL _ _))

theorem lI (hg:o.guard=none) {t:TypeId} (ho:o.op=.alloc t) {cs:List Value} {n bytes:Nat} [hz:ElemT P t cs n bytes] (hS:Sat w0 w Γ)
  (hK:∀ w' b,Sat w0 w' (Box b t cs :: Γ)→Ext w w'→wpList P ops Q rest (a.put o.dst (.pointer (some ⟨b,0,none⟩))) w'):wpList P ops Q (o :: rest) a w:=by
 refine wpList_plain hg fun K hK'=>?_
 have hz:=hz.h
 cases hi:P.info? t with
 | none=>simp [hi] at hz
 | some i =>
  cases hzz:i.zero with
  | none=>simp [hi,hzz] at hz
  | some z =>
   simp [hi,hzz] at hz
   have hzc:z.cells=cs.toArray:=by rw [← hz.1]
   unfold Oper.wp execOp
   simp only [ho,Instr.alloc,zeroValue,typeInfo,hi,hzz,newVar,newRow,hzc,Sem.run_bind,Sem.run_pure,run_newObj,run_program,Result.andThen_ok,Oper.upon_value]
   exact hK' _ _ (hK _ _ (hS.box t cs) (eL _ _))

theorem iD {t:TypeId} [hT:PlainT P t] {ad:Addr} {c:Value} (hc:w.cell? ad=some c):(loadVar t ad).run P w=.ok c w:=by
 obtain ⟨d,hd,hk⟩:=hT.h
 have hagg:(isAgg t).run P w=.ok false w:=by
  unfold isAgg
  rw [Sem.run_bind,run_underlying hd w]
  cases d <;> simp_all
 simp [loadVar,Sem.run_bind,hagg,hc]

theorem eE {t:TypeId} {n:Nat} [hT:AggT P t n] {b off:Nat} {cs:List Value} (hn:cs.length=n) (hc:∀ j c,cs[j]? = some c→w.cell? ⟨b,off+j,none⟩=some c) :
  (loadVar t ⟨b,off,none⟩).run P w=.ok (.agg cs.toArray) w:=by
 obtain ⟨d,hd,hk⟩:=hT.h
 have hagg:(isAgg t).run P w=.ok true w:=by
  unfold isAgg
  rw [Sem.run_bind,run_underlying hd w]
  cases d <;> simp_all
 have hs:=hT.size
 cases hi:P.info? t with
 | none=>simp [hi] at hs
 | some i =>
  simp [hi] at hs
  have hl:=run_loadCells_list (P:=P) w ⟨b,off,none⟩ cs (fun j c hj=>by rw [Addr.add_lit];exact hc j c hj)
  rw [hn,← hs] at hl
  simp [loadVar,Sem.run_bind,hagg,sizeOf,typeInfo,hi,hl]

theorem Sat.boxCell {b:Nat} {E:TypeId} {cs:List Value} (hS:Sat w0 w Γ) [k:AtBox Γ b E cs rΓ]:∀ j c,cs[j]? = some c→w.cell? ⟨b,j,none⟩=some c:=by
 obtain ⟨fp,⟨_,hh⟩,_⟩:=(hS.perm k.perm).head
 intro j c hj
 rw [cell_of_row w b j _ E (0,0) hh]
 simpa using hj

theorem dY {b:Nat} {E:TypeId}:∀ (vs:List Value) (off i:Nat) (cur:List Value) (w:World),w.heap[b]? = some (.cells cur.toArray E (0,0))→off+i+vs.length≤cur.length→(∀ v∈vs,v.oneCell'=true) →
  ∃ w',(storeCells ⟨b,off,none⟩ vs i).run P w=.ok () w'∧w'.heap[b]? = some (.cells (cur.take (off+i)++vs++cur.drop (off+i+vs.length)).toArray E (0,0))∧Chg [b] w w'
 | [],off,i,cur,w,hb,_,_=>by
  refine ⟨w,rfl,?_,Chg.refl _ _⟩
  rw [hb];simp
 | v :: vs,off,i,cur,w,hb,hl,h1=>by
  simp only [List.length_cons] at hl
  have hi:off+i<cur.length:=by omega
  have hcell:w.cell? ⟨b,off+i,none⟩=some cur[off+i]:=by rw [cell_of_row w b _ _ E (0,0) hb];simp [hi]
  have hfro:w.frozen? ⟨b,off+i,none⟩=false:=frozen_of_row w b _ _ E hb
  have hst:(store ((⟨b,off,none⟩:Addr).add i) v).run P w=.ok () (w.setCell ⟨b,off+i,none⟩ v):=by
   rw [Addr.add_lit,run_store P w _ v _ (h1 v (by simp)),hcell]
   simp [hfro]
  have hb':(w.setCell ⟨b,off+i,none⟩ v).heap[b]? = some (.cells ((cur.set (off+i) v).toArray) E (0,0)):=by
   rw [heap_setCell_same w b (off+i) _ E v hb];simp
  obtain ⟨w',h2,h3,h4⟩:=dY vs off (i+1) (cur.set (off+i) v) _ hb' (by simp;omega) (fun x hx=>h1 x (by simp [hx]))
  refine ⟨w',?_,?_,?_⟩
  ·simp only [storeCells,Sem.run_bind,hst,Result.andThen_ok];exact h2
  ·rw [h3]
   congr 3
   have e1:(cur.set (off+i) v).take (off+(i+1))=cur.take (off+i)++[v]:=by
    rw [show off+(i+1)=(off+i)+1 by omega,List.take_set,List.take_succ_eq_append_getElem hi,List.set_append_right _ _ (by simp;omega)]
    simp [show min (off+i) cur.length=off+i by omega]
   have e2:(cur.set (off+i) v).drop (off+(i+1)+vs.length)=cur.drop (off+i+(v :: vs).length):=by
    rw [List.drop_set_of_lt (by omega)]
    congr 1
    simp only [List.length_cons];omega
   rw [e1,e2];simp
  ·exact Chg.trans (show Chg [b] w (w.setCell ⟨b,off+i,none⟩ v) from ⟨rfl,rfl,rfl,by simp,fun k _ hk=>Below.heap_setCell _ _ _ _ (by simpa using hk)⟩) h4

theorem lf {t:TypeId} {x y:Operand} (hg:o.guard=none) (ho:o.op=.store t x y) {z:List Value} {n bytes:Nat} [hz:ElemT P t z n bytes] (hS:Sat w0 w Γ) {b j:Nat} (hx:a.eval x=.pointer (some ⟨b,j,none⟩))
  {E:TypeId} {cs:List Value} [k:AtBox Γ b E cs rΓ] (vs:List Value) (hy:(a.eval y).cells=vs.toArray) (hn:vs.length=n) (hl:j+n≤cs.length) (h1:vs.all (·.oneCell')=true)
  (hK:∀ w',Sat w0 w' (Box b E (cs.take j++vs++cs.drop (j+n)) :: rΓ)→wpList P ops Q rest (a.put o.dst undef) w'):wpList P ops Q (o :: rest) a w:=by
 refine wpList_plain hg fun K hK'=>?_
 have hz:=hz.h
 cases hi:P.info? t with
 | none=>simp [hi] at hz
 | some i =>
  simp [hi] at hz
  obtain ⟨fp,⟨_,hh⟩,_⟩:=(hS.perm k.perm).head
  obtain ⟨w',hr,hh',hc⟩:=dY (P:=P) vs j 0 cs w hh (by omega) (by simpa using h1)
  have hsz:¬ (vs.toArray.size≠i.size):=by simp;omega
  unfold Oper.wp execOp
  simp only [ho,hx,Instr.storeAt,Instr.sureAddr,storeVar,sizeOf,typeInfo,hi,hy,Sem.run_bind,Sem.run_pure,run_program,Result.andThen_ok,hsz,if_false,Sem.run_ite,List.toList_toArray,hr,Oper.upon_skip]
  refine hK' _ _ (hK w' ?_)
  refine Sat.upd (hS.perm k.perm) fun fp hfp hnd=>?_
  obtain ⟨rfl,_⟩:=hfp
  refine ⟨[b],⟨rfl,?_⟩,by simp,hc,fun x hx=>.inl hx⟩
  rw [hh']
  simp [hn]
theorem lC {v:Value} (h:v.oneCell'=true):v.cells=[v].toArray:=by cases v <;> first | rfl | simp [Value.oneCell'] at h
end laws

section laws2
variable {P:Program} {ops:Array Oper} {rest:List Oper} {o:Oper} {a:Act} {Q:Exit→Act→World→Prop} {w w0 wA:World} {Γ rΓ:List Asn} {α:Type} {R:Rep α} {E:TypeId}

theorem kr {w:World} {v:Value} {xs:List α} (h:(au R E).rd w [v] xs):∃ ao cap,v=.slice ao xs.length cap:=by
 obtain ⟨ao,cap,ccs,hv,_⟩:=h
 exact ⟨ao,cap,by simpa using hv⟩

def js (R:Rep α) (ccs:List Value) (ys:List α):Asn:=⟨fun w fp=>dh R w ccs ys fp,fun h he=>et h he,fun h=>eS h⟩
def kY (A B:Asn):Asn where
 holds w fp:=∃ f g,fp=f++g∧A.holds w f∧B.holds w g
 ext h he:=by
  obtain ⟨f,g,rfl,h1,h2⟩:=h
  exact ⟨f,g,rfl,A.ext h1 (fun b hb=>he b (List.mem_append_left _ hb)),B.ext h2 (fun b hb=>he b (List.mem_append_right _ hb))⟩
 lt h:=by
  obtain ⟨f,g,rfl,h1,h2⟩:=h
  intro b hb
  rcases List.mem_append.1 hb with h | h
  ·exact A.lt h1 b h
  ·exact B.lt h2 b h

theorem gL (z:Value) (k:Nat):(Builtin.zeroCells z.cells k).size=k*z.cells.size:=size_zeroCells _ _

theorem kO {w:World} {cur:Array Value} {xs:List α} {ccs:List Value} {f:List Nat} {cap:Nat} (h:dh R w ccs xs f) (hcap:xs.length≤cap) (hm:cap≤maxLen) (hs:cur.size=cap*R.sz)
  (ht:cur.toList.take ccs.length=ccs):(au R E).own (w.drew.alloc (.cells cur E)) [.slice (some ⟨w.heap.size,0,none⟩) xs.length cap] xs (w.heap.size :: f):=by
 refine .inr ⟨w.heap.size,cap,cur,ccs,f,rfl,heap_alloc_new w.drew _,hcap,hm,hs,by rw [← eC (dN h)];exact ht,et h (fun b hb=>?_),rfl⟩
 exact Below.heap_alloc w.drew _ b (eS h b hb)

theorem hF {t ty:TypeId} [ht:SliceT P t E] {z:List Value} {n bytes:Nat} [hz:ElemT P E z n bytes] (hn:R.sz=n) (hpos:0<n) (hzl:z.length=n) (hb0:0<bytes)
  {v:Value} {xs:List α} {f:List Nat} (hv:(au R E).own w [v] xs f) {ccs:List Value} {ys:List α} {fy:List Nat} (hy:dh R w ccs ys fy) (hnd:(fy++f).Nodup)
  {ao:Option Addr} {c:Nat} (hnone:ao=none→c=0) (hrow:iv w ao ccs) (hby:(xs.length+ys.length)*bytes≤140737488355328) :
  ∃ v' w' f',(Builtin.append_ #[t,t] ty #[v,.slice ao ys.length c]).run P w=.ok v' w'∧(au R E).own w' [v'] (xs++ys) f'∧f'.Nodup∧Chg (fy++f) w w'∧∀ b∈f',b∈fy++f∨w.heap.size≤b:=by
 have hz:=hz.h
 have hmax:xs.length+ys.length≤140737488355328:=Nat.le_trans (Nat.le_mul_of_pos_right _ hb0) hby
 have hyl:ccs.length=ys.length*R.sz:=eC (dN hy)
 have hy1:∀ u∈ccs,u.oneCell'=true:=kI (dN hy)
 cases hi:P.info? E with
 | none=>simp [hi] at hz
 | some i =>
 cases hzz:i.zero with
 | none=>simp [hi,hzz] at hz
 | some zv =>
 simp [hi,hzz] at hz
 obtain ⟨hz1,hz2,hz3⟩:=hz
 have hzs:zv.cells.size=R.sz:=by rw [← Array.length_toList,hz1,hzl,hn]
 have hsz:i.size=R.sz:=by omega
 have hdrew:Chg (fy++f) w w.drew:=⟨rfl,rfl,rfl,Nat.le_refl _,fun _ _ _=>rfl⟩
 have hgrow:∀ cur:Array Value,Chg (fy++f) w (w.drew.alloc (.cells cur E)):=fun cur=>hdrew.trans ((Chg.alloc w.drew _).mono (by simp))
 have hlt:∀ b∈fy++f,b<w.heap.size:=fun b hb=>by
  rcases List.mem_append.1 hb with h | h
  ·exact eS hy b h
  ·exact (au R E).own_lt hv b h
 obtain ⟨nd1,nd2,nd3⟩:=List.nodup_append.1 hnd
 -- nothing is appended
 by_cases hy0:ys=[]
 ·subst hy0
  have hccs:ccs=[]:=by simp only [dh] at hy;exact hy.1
  have hfy:fy=[]:=by simp only [dh] at hy;exact hy.2
  subst hccs;subst hfy
  refine ⟨v,w,f,?_,by simpa using hv,by simpa using hnd,Chg.refl _ _,fun b hb=>.inl (by simpa using hb)⟩
  rcases hv with ⟨hv,rfl,rfl⟩ | ⟨g,cap,cur,cs,f2,hv,hg,h1,h2,h3,h4,h5,rfl⟩
  ·obtain rfl:v=.slice none 0 0:=by simpa using hv
   cases ao <;> simp [Builtin.append_,run_underlying ht.h,sizeOf,typeInfo,hi,Builtin.lenOf,Builtin.firstCells,loadCells,loadCellsFrom]
  ·obtain rfl:v=.slice (some ⟨g,0,none⟩) xs.length cap:=by simpa using hv
   cases ao <;> simp [Builtin.append_,run_underlying ht.h,sizeOf,typeInfo,hi,Builtin.lenOf,Builtin.firstCells,loadCells,loadCellsFrom,h1,storeCells]
 have hyp:0<ys.length:=List.length_pos_iff.2 hy0
 obtain ⟨b,off,rfl,hcell⟩:∃ b off,ao=some ⟨b,off,none⟩∧∀ j c,ccs[j]? = some c→w.cell? ⟨b,off+j,none⟩=some c:=by
  rcases hrow with rfl | h
  ·exfalso
   have:0<ys.length*R.sz:=Nat.mul_pos hyp (by omega)
   simp at hyl;omega
  ·exact h
 have hnews:∀ j u,ccs[j]? = some u→w.cell? ((⟨b,off,none⟩:Addr).add j)=some u:=fun j u hj=>by rw [Addr.add_lit];exact hcell j u hj
 rcases hv with ⟨hv,rfl,rfl⟩ | ⟨g,cap,cur,cs,f2,hv,hg,h1,h2,h3,h4,h5,rfl⟩
 ·obtain rfl:v=.slice none 0 0:=by simpa using hv
  simp only [List.length_nil,Nat.zero_add] at hby hmax
  have hr:=run_append_nil (P:=P) w t ty E i zv ht.h hi hzz ⟨b,off,none⟩ ys.length c ccs (by rw [hyl,hsz]) hnews hyp (by omega) (by rw [hz3];omega)
  refine ⟨_,_,w.heap.size :: fy,hr,?_,?_,hgrow _,?_⟩
  ·have hge:=grownCap_ge w ys.length 0 E
   rw [List.nil_append]
   refine kO hy hge (grownCap_le_maxLen w ys.length 0 E (by unfold maxLen;omega)) ?_ ?_
   ·rw [Array.size_append,gL,hzs,List.size_toArray,hyl,← Nat.add_mul]
    congr 1;omega
   ·rw [Array.toList_append,List.toList_toArray,List.take_left']
    rfl
  ·refine List.nodup_cons.2 ⟨fun hm=>?_,nd1⟩
   have:=hlt _ (List.mem_append_left _ hm);omega
  ·intro x hx
   rcases List.mem_cons.1 hx with rfl | hx
   ·exact .inr (Nat.le_refl _)
   ·exact .inl (List.mem_append_left _ hx)
 ·obtain rfl:v=.slice (some ⟨g,0,none⟩) xs.length cap:=by simpa using hv
  have hcl:cs.length=xs.length*R.sz:=eC (dN h5)
  have hfit:xs.length*R.sz≤cur.size:=by rw [h3];exact Nat.mul_le_mul_right _ h1
  obtain ⟨ng,nf2⟩:=List.nodup_cons.1 nd2
  by_cases hroom:xs.length+ys.length≤cap
  ·have hfit2:xs.length*i.size+ccs.length≤cur.size:=by rw [hsz,hyl,h3,← Nat.add_mul];exact Nat.mul_le_mul_right _ hroom
   have hr:=run_append_room (P:=P) w t ty E i ht.h hi g xs.length cap cur hg ⟨b,off,none⟩ ys.length c ccs (by rw [hyl,hsz]) hnews hy1 hroom hfit2
   have hoth:∀ k,k≠g→(w.setRow g (cur.toList.take (xs.length*i.size)++ccs++cur.toList.drop (xs.length*i.size+ccs.length)).toArray).heap[k]? = w.heap[k]?:=fun k hk=>setRow_other w g k _ hk
   refine ⟨_,_,g :: (f2++fy),hr,?_,?_,⟨rfl,rfl,rfl,by simp,fun k _ hk=>hoth k (fun e=>hk (by simp [e]))⟩,?_⟩
   ·rw [show xs.length+ys.length=(xs++ys).length by simp]
    refine .inr ⟨g,cap,_,cs++ccs,f2++fy,rfl,setRow_heap w g cur _ E _ hg,by simpa using hroom,h2,?_,?_,?_,rfl⟩
    ·simp only [List.size_toArray,List.length_append,List.length_take,List.length_drop,Array.length_toList]
     rw [hsz] at hfit2 ⊢
     omega
    ·rw [hsz,h4,List.length_append,Nat.add_mul,← hcl,← hyl,← List.length_append]
     exact List.take_left' rfl
    ·refine gG (et hy fun x hx=>hoth x fun e=>?_) (et h5 fun x hx=>hoth x fun e=>?_)
     ·subst e;exact nd3 x hx x (by simp) rfl
     ·subst e;exact ng hx
   ·refine List.nodup_cons.2 ⟨fun hm=>?_,List.nodup_append.2 ⟨nf2,nd1,fun a ha b hb e=>nd3 b hb a (by simp [ha]) e.symm⟩⟩
    rcases List.mem_append.1 hm with h | h
    ·exact ng h
    ·exact nd3 g h g (by simp) rfl
   ·intro x hx
    refine .inl ?_
    simp only [List.mem_cons,List.mem_append] at hx ⊢
    rcases hx with h | h | h <;> simp [h]
  ·have hcells:∀ j u,cs[j]? = some u→w.cell? ((⟨g,0,none⟩:Addr).add j)=some u:=fun j u hj=>by
    rw [Addr.add_lit,Nat.zero_add,cell_of_row w g j cur E (0,0) hg,← Array.getElem?_toList]
    rw [← h4,List.getElem?_take] at hj
    split at hj
    ·exact hj
    ·cases hj
   have hr:=run_append_grow (P:=P) w t ty E i zv ht.h hi hzz ⟨g,0,none⟩ xs.length cap cs (by rw [hcl,hsz]) hcells ⟨b,off,none⟩ ys.length c ccs (by rw [hyl,hsz]) hnews (by omega) (by omega) (growslice_fits (by omega) (by rw [hz3];exact hby))
   refine ⟨_,_,w.heap.size :: (f2++fy),hr,?_,?_,hgrow _,?_⟩
   ·have hge:=grownCap_ge w (xs.length+ys.length) cap E
    rw [show (xs.length+ys.length:Nat)=(xs++ys).length by simp] at hge ⊢
    refine kO (gG hy h5) hge (grownCap_le_maxLen w _ cap E (by unfold maxLen;simp;omega)) ?_ ?_
    ·rw [Array.size_append,Array.size_append,gL,hzs,List.size_toArray,List.size_toArray,hyl,hcl,← Nat.add_mul,← Nat.add_mul]
     congr 1;simp at hge ⊢;omega
    ·rw [Array.toList_append,Array.toList_append,List.toList_toArray,List.toList_toArray,List.take_left']
     rfl
   ·refine List.nodup_cons.2 ⟨fun hm=>?_,List.nodup_append.2 ⟨nf2,nd1,fun a ha b hb e=>nd3 b hb a (by simp [ha]) e.symm⟩⟩
    have:=hlt w.heap.size (by
     rcases List.mem_append.1 hm with h | h
     ·exact List.mem_append_right _ (by simp [h])
     ·exact List.mem_append_left _ h)
    omega
   ·intro x hx
    simp only [List.mem_cons,List.mem_append] at hx ⊢
    rcases hx with h | h | h
    ·exact .inr (by omega)
    ·exact .inl (by simp [h])
    ·exact .inl (by simp [h])

theorem kV (hg:o.guard=none) {t:TypeId} {s x:Operand} (ho:o.op=.call { callee:=.builtin .append,args:=#[s,x],argTypes:=#[t,t] })
  [SliceT P t E] {z:List Value} {n bytes:Nat} [ElemT P E z n bytes] (hn:R.sz=n) (hpos:0<n) (hzl:z.length=n) (hb0:0<bytes)
  {v:Value} {xs:List α} {ccs:List Value} {ys:List α} (hS:Sat w0 w (js R ccs ys :: Own (au R E) [v] xs :: Γ)) (hs:a.eval s=v)
  {ao:Option Addr} {m c:Nat} (hx:a.eval x=.slice ao m c) (hm:m=ys.length) (hnone:ao=none→c=0) (hrow:iv w ao ccs) (hby:(xs.length+ys.length)*bytes≤140737488355328)
  (hK:∀ v' w',Sat w0 w' (Own (au R E) [v'] (xs++ys) :: Γ)→wpList P ops Q rest (a.put o.dst v') w'):wpList P ops Q (o :: rest) a w:=by
 subst hm
 refine wpList_plain hg fun K hK'=>?_
 have hS':Sat w0 w (kY (js R ccs ys) (Own (au R E) [v] xs) :: Γ):=hS.join fun f g h1 h2=>⟨f,g,rfl,h1,h2⟩
 obtain ⟨fp,⟨fy,f,rfl,hy,hv⟩,hnd,_⟩:=hS'.head
 obtain ⟨v',w',f',hr,k1,k2,k3,k4⟩:=hF (P:=P) (t:=t) (ty:=o.type) hn hpos hzl hb0 hv hy hnd hnone hrow hby
 unfold Oper.wp execOp
 simp only [ho,resolve,invoke,builtin,Sem.run_bind,Sem.run_pure,Result.andThen_ok,List.map_toArray,List.map_cons,List.map_nil,hs,hx,hr,Oper.upon_value]
 refine hK' _ _ (hK v' w' ?_)
 have hex:∀ fp,(kY (js R ccs ys) (Own (au R E) [v] xs)).holds w fp→fp.Nodup→∃ fp',(Own (au R E) [v'] (xs++ys)).holds w' fp'∧fp'.Nodup∧Chg fp w w'∧∀ b∈fp',b∈fp∨w.heap.size≤b:=by
  rintro _ ⟨gy,g,rfl,hy2,hv2⟩ hnd2
  obtain ⟨v2,w2,f2,hr2,l1,l2,l3,l4⟩:=hF (P:=P) (t:=t) (ty:=o.type) hn hpos hzl hb0 hv2 hy2 hnd2 hnone hrow hby
  rw [hr] at hr2
  obtain ⟨rfl,rfl⟩:v'=v2∧w'=w2:=by simpa using hr2
  exact ⟨f2,l1,l2,l3,l4⟩
 exact hS'.upd hex

theorem hH (z:Array Value) (h:0<z.size):∀ k,(madeCells z (k*z.size)).toList=(List.replicate k z.toList).flatten
 | 0=>by simp [madeCells]
 | k+1=>by
  have ih:=hH z h k
  rw [List.replicate_succ',List.flatten_append,← ih]
  unfold madeCells
  rw [Nat.add_mul,Nat.one_mul]
  simp only [Array.toList_map,Array.toList_range,List.range_add,List.map_append,List.map_map,List.flatten_cons,List.flatten_nil,List.append_nil]
  congr 1
  apply List.ext_getElem
  ·simp
  ·intro j h1 h2
   have hj:j<z.size:=by simpa using h1
   simp only [List.getElem_map,List.getElem_range,Function.comp]
   rw [Nat.mul_add_mod_self_right,Nat.mod_eq_of_lt hj]
   simp [hj]
theorem mC (hg:o.guard=none) {t:TypeId} {l c:Operand} (ho:o.op=.makeSlice t l c) [ht:SliceT P t E] {z:List Value} {n bytes:Nat} [hz:ElemT P E z n bytes] (hn:R.sz=n) (hpos:0<n) (hzl:z.length=n)
  {x0:α} (hx0:∀ w,R.own w z x0 []) {L C:Int} (hl:a.eval l=.int .i64 L) (hc:a.eval c=.int .i64 C) (k:Nat) (hL:L=(k:Int)) (hC:C=(k:Int)) (hby:k*bytes≤281474976710656) (hk:k≤140737488355328) (hS:Sat w0 w Γ)
  (hK:∀ w' g,Sat w0 w' (Own (au R E) [.slice (some ⟨g,0,none⟩) k k] (List.replicate k x0) :: Γ)→Ext w w'→wpList P ops Q rest (a.put o.dst (.slice (some ⟨g,0,none⟩) k k)) w'):wpList P ops Q (o :: rest) a w:=by
 refine wpList_plain hg fun K hK'=>?_
 have hz:=hz.h
 cases hi:P.info? E with
 | none=>simp [hi] at hz
 | some i =>
 cases hzz:i.zero with
 | none=>simp [hi,hzz] at hz
 | some zv =>
 simp [hi,hzz] at hz
 obtain ⟨hz1,hz2,hz3⟩:=hz
 subst hL;subst hC
 have hr:=run_make (P:=P) w t E i zv ht.h hi hzz .i64 .i64 k k (by omega) (by omega) (by rw [hz3];have:=hby;rw [Nat.mul_comm] at this;omega) (by omega)
 simp only [Int.toNat_natCast] at hr
 unfold Oper.wp execOp
 simp only [ho,hl,hc,Sem.run_bind,hr,Sem.run_pure,Result.andThen_ok,Oper.upon_value]
 have hzs:zv.cells.size=n:=by rw [← Array.length_toList,hz1,hzl]
 have hcur:(madeCells zv.cells (k*i.size)).toList=(List.replicate k z).flatten:=by
  rw [← hz1,hz2,← hzs]
  exact hH _ (by omega) k
 refine hK' _ _ (hK _ _ ?_ (eL _ _))
 have hown:∀ k',dh R (w.alloc (.cells (madeCells zv.cells (k*i.size)) E)) (List.replicate k' z).flatten (List.replicate k' x0) []:=by
  intro k'
  induction k' with
  | zero=>exact ⟨rfl,rfl⟩
  | succ k' ih=>exact ⟨z,_,[],[],by simp [List.replicate_succ],rfl,hx0 _,ih⟩
 have kk:Sat w (w.alloc (.cells (madeCells zv.cells (k*i.size)) E)) [Own (au R E) [.slice (some ⟨w.heap.size,0,none⟩) k k] (List.replicate k x0)]:=by
  refine ⟨eL _ _,[w.heap.size],⟨[w.heap.size],[],rfl,.inr ⟨w.heap.size,k,_,_,[],by simp,heap_alloc_new w _,by simp,by unfold maxLen;omega,?_,rfl,?_,rfl⟩,rfl⟩,by simp,by simp⟩
  ·rw [← Array.length_toList,hcur];simp [hzl,hn]
  ·rw [hcur,List.take_of_length_le (by simp [hzl,hn])]
   exact hown k
 simpa using hS.call kk

theorem lU {v:Value} {xs:List α} {fp:List Nat} (h:(au R E).own w [v] xs fp):(v=.slice none 0 0∧xs=[])∨∃ g cap,v=.slice (some ⟨g,0,none⟩) xs.length cap:=by
 rcases h with ⟨h,h2,_⟩ | ⟨g,cap,_,_,_,h,_⟩
 ·exact .inl ⟨by simpa using h,h2⟩
 ·exact .inr ⟨g,cap,by simpa using h⟩
theorem Sat.shape {v:Value} {xs:List α} (h:Sat w0 w (Own (au R E) [v] xs :: Γ)):(v=.slice none 0 0∧xs=[])∨∃ g cap,v=.slice (some ⟨g,0,none⟩) xs.length cap:=by
 obtain ⟨fp,h,_⟩:=h.head
 exact lU h

theorem ku {w:World}:∀ {xs:List α} {ccs:List Value} {fp:List Nat},dh R w ccs xs fp→∀ (k:Nat) (_:k<xs.length) {ec:List Value} {y:α} {fy:List Nat},R.own w ec y fy →
  ∃ fl fk fr,fp=fl++fk++fr∧dh R w (ccs.take (k*R.sz)++ec++ccs.drop (k*R.sz+R.sz)) (xs.set k y) (fl++fy++fr)
 | [],_,_,_,k,hk,_,_,_,_=>absurd hk (by simp)
 | x :: xs,_,_,h,0,_,ec,y,fy,hy=>by
  obtain ⟨e0,rest,f1,f2,rfl,rfl,h1,h2⟩:=h
  refine ⟨[],f1,f2,by simp,ec,rest,fy,f2,?_,by simp,hy,h2⟩
  have:=R.rd_len (R.own_rd h1)
  simp [← this]
 | x :: xs,_,_,h,k+1,hk,ec,y,fy,hy=>by
  obtain ⟨e0,rest,f1,f2,rfl,rfl,h1,h2⟩:=h
  obtain ⟨fl,fk,fr,rfl,h3⟩:=ku h2 k (by simpa using hk) hy
  refine ⟨f1++fl,fk,fr,by simp,e0,_,f1,fl++fy++fr,?_,by simp,h1,h3⟩
  have hl:=R.rd_len (R.own_rd h1)
  have e:(k+1)*R.sz=e0.length+k*R.sz:=by rw [hl,Nat.add_mul];omega
  rw [e,List.take_append,List.take_of_length_le (by omega),Nat.add_sub_cancel_left,show e0.length+k*R.sz+R.sz=e0.length+(k*R.sz+R.sz) by omega,List.drop_append,List.drop_of_length_le (by omega),Nat.add_sub_cancel_left]
  simp

theorem iG (L ec:List Value) (p s N:Nat) (h1:p+s≤N) (h2:N≤L.length) (h3:ec.length=s):(L.take (p+0)++ec++L.drop (p+0+s)).take N=(L.take N).take p++ec++(L.take N).drop (p+s):=by
 rw [Nat.add_zero,List.take_append,List.take_of_length_le (by simp;omega),List.take_take,Nat.min_eq_left (by omega:p≤N),List.drop_take]
 congr 2
 simp;omega
theorem kT {t:TypeId} {x y:Operand} (hg:o.guard=none) (ho:o.op=.store t x y) {z:List Value} {n bytes:Nat} [hz:ElemT P t z n bytes] (hn:R.sz=n) {ec:List Value} {yv:α} {xs:List α} {g m cap:Nat}
  (hS:Sat w0 w (Own R ec yv :: Own (au R E) [.slice (some ⟨g,0,none⟩) m cap] xs :: Γ)) (k off:Nat) (hk:k<xs.length) (hoff:off=k*n) (hx:a.eval x=.pointer (some ⟨g,off,none⟩)) (hy:(a.eval y).cells=ec.toArray)
  (hK:∀ w',Sat w0 w' (Own (au R E) [.slice (some ⟨g,0,none⟩) m cap] (xs.set k yv) :: Γ)→wpList P ops Q rest (a.put o.dst undef) w'):wpList P ops Q (o :: rest) a w:=by
 refine wpList_plain hg fun K hK'=>?_
 have hz:=hz.h
 cases hi:P.info? t with
 | none=>simp [hi] at hz
 | some i =>
  simp [hi] at hz
  have hS':Sat w0 w (kY (Own R ec yv) (Own (au R E) [.slice (some ⟨g,0,none⟩) m cap] xs) :: Γ):=hS.join fun f g h1 h2=>⟨f,g,rfl,h1,h2⟩
  obtain ⟨fp,⟨fy,f,rfl,hyo,hv⟩,hnd,_⟩:=hS'.head
  have hel:ec.length=R.sz:=R.rd_len (R.own_rd hyo)
  obtain ⟨cur,hh,hcs⟩:∃ cur,w.heap[g]? = some (.cells cur E (0,0))∧xs.length*R.sz≤cur.size:=by
   rcases hv with ⟨h,_⟩ | ⟨g',cap',cur,ccs,f2,h,hg',h1,h2,h3,_⟩
   ·simp at h
   ·simp at h
    obtain ⟨rfl,_⟩:=h
    exact ⟨cur,hg',by rw [h3];exact Nat.mul_le_mul_right _ h1⟩
  have hkk:k*R.sz+R.sz≤xs.length*R.sz:=by have:=Nat.mul_le_mul_right R.sz hk;rw [Nat.succ_mul] at this;exact this
  have hh':w.heap[g]? = some (.cells cur.toList.toArray E (0,0)):=by simpa using hh
  obtain ⟨w',hr,hnew,hc⟩:=dY (P:=P) ec off 0 cur.toList w hh' (by rw [hoff,hel,← hn];simp;omega) (R.rd_one (R.own_rd hyo))
  have hsz:¬ (ec.toArray.size≠i.size):=by simp;omega
  unfold Oper.wp execOp
  simp only [ho,hx,Instr.storeAt,Instr.sureAddr,storeVar,sizeOf,typeInfo,hi,hy,Sem.run_bind,Sem.run_pure,run_program,Result.andThen_ok,hsz,if_false,Sem.run_ite,List.toList_toArray,hr,Oper.upon_skip]
  refine hK' _ _ (hK w' ?_)
  refine hS'.upd ?_
  rintro _ ⟨gy,gf,rfl,hy2,hv2⟩ hnd2
  rcases hv2 with ⟨h,_⟩ | ⟨g',cap',cur',ccs,f2,h,hg',h1,h2,h3,h4,h5,rfl⟩
  ·simp at h
  ·simp at h
   obtain ⟨rfl,rfl,rfl⟩:=h
   obtain ⟨rfl⟩:cur'=cur:=by rw [hh] at hg';simpa using hg'.symm
   obtain ⟨fl,fk,fr,rfl,h6⟩:=ku h5 k hk hy2
   have hoth:∀ x,x≠g→x<w.heap.size→w'.heap[x]? = w.heap[x]?:=fun x hx hlt=>hc.block x hlt (by simpa using hx)
   have hnd3:(gy++g :: (fl++fk++fr)).Nodup:=hnd2
   simp only [List.nodup_append,List.nodup_cons,List.mem_append,List.mem_cons] at hnd3
   have hgn:g∉fl++gy++fr:=by
    simp only [List.mem_append,not_or]
    refine ⟨⟨fun hm=>hnd3.2.1.1 (.inl (.inl hm)),fun hm=>hnd3.2.2 g hm g (.inl rfl) rfl⟩,fun hm=>hnd3.2.1.1 (.inr hm)⟩
   refine ⟨g :: (fl++gy++fr),.inr ⟨g,cap,_,ccs.take (k*R.sz)++ec++ccs.drop (k*R.sz+R.sz),fl++gy++fr,by simp,hnew,by simpa using h1,h2,?_,?_,et h6 (fun b hb=>hoth b (fun e=>hgn (e ▸ hb)) ?_),rfl⟩,?_,hc.mono (by simp),?_⟩
   ·simp only [List.size_toArray,List.length_append,List.length_take,List.length_drop,Array.length_toList]
    rw [hoff,← hn]
    omega
   ·have hcl:ccs.length=xs.length*R.sz:=eC (dN h5)
    rw [← h4,hoff,← hn,hel,List.length_set]
    exact iG _ _ _ _ _ hkk (by simpa using hcs) hel
   ·exact eS h6 b hb
   ·refine List.nodup_cons.2 ⟨hgn,?_⟩
    have hs:(gy++(fl++fr)).Nodup:=List.Nodup.sublist (List.Sublist.append (List.Sublist.refl gy) (List.Sublist.cons g (List.Sublist.append (List.sublist_append_left fl fk) (List.Sublist.refl fr)))) hnd2
    rw [← List.append_assoc] at hs
    exact (List.Perm.append_right fr List.perm_append_comm).nodup_iff.1 hs
   ·intro b hb
    refine .inl ?_
    simp only [List.mem_cons,List.mem_append] at hb ⊢
    rcases hb with h | (h | h) | h <;> simp [h]

theorem jk {t e:TypeId} [ht:SliceT P t e] {z:List Value} {n bytes:Nat} [hz:ElemT P e z n bytes] {v:Value} {cs:List Value} (hcs:v.cells=cs.toArray) (hl:cs.length=n) (hpos:0<n) (hzl:z.length=n) (hn:n≤16) :
  (Instr.buildSlice t 1 #[(0,v)]).run P w=.ok (.slice (some ⟨w.heap.size,0,none⟩) 1 1) (w.alloc (.cells cs.toArray e)):=by
 have hz:=hz.h
 cases hi:P.info? e with
 | none=>simp [hi] at hz
 | some i =>
 cases hzz:i.zero with
 | none=>simp [hi,hzz] at hz
 | some zv =>
 simp [hi,hzz] at hz
 obtain ⟨hz1,hz2,hz3⟩:=hz
 have h24:¬ (n > 2 ^ 24):=by omega
 have hn0:¬ (n=0):=by omega
 have hfill:Instr.fill (fun i=>some (i*n,n)) ((Array.range n).map (zv.cells[· % zv.cells.size]!)) [(0,v)]=some cs.toArray:=by
  have hsz:((Array.range n).map (zv.cells[· % zv.cells.size]!)).size=n:=by simp
  have hfold:∀ (l:List Value) (pre:List Value) (A:Array Value),A.size=pre.length+l.length→A.toList.take pre.length=pre →
    ((l.zipIdx pre.length).foldl (fun A (c:Value × Nat)=>A.setIfInBounds c.2 c.1) A).toList=pre++l:=by
   intro l
   induction l with
   | nil=>intro pre A h1 h2;simp;rw [← h2,List.take_of_length_le (by simp at h1 ⊢;omega)]
   | cons x l ih =>
    intro pre A h1 h2
    simp only [List.zipIdx_cons,List.foldl_cons]
    have:=ih (pre++[x]) (A.setIfInBounds pre.length x) (by simp at h1 ⊢;omega) (by
     simp only [Array.toList_setIfInBounds,List.length_append,List.length_singleton]
     rw [List.take_set,List.take_succ_eq_append_getElem (by simp at h1 ⊢;omega),h2,List.set_append_right _ _ (Nat.le_refl _)]
     simp)
    simpa using this
  have h0:=hfold cs [] ((Array.range n).map (zv.cells[· % zv.cells.size]!)) (by simp [hl]) (by simp)
  simp only [Instr.fill,hcs,List.size_toArray,hl,hsz,Nat.zero_mul,Nat.zero_add,ne_eq,not_true_eq_false,decide_false,Bool.false_or,gt_iff_lt,Nat.lt_irrefl,Bool.false_eq_true,if_false]
  congr 1
  apply Array.ext'
  simpa using h0
 simp [Instr.buildSlice,run_underlying ht.h,sizeOf,typeInfo,hi,hz2,h24,hn0,zeroValue,hzz,hfill,newRow]

theorem jj (hg:o.guard=none) {t e:TypeId} {x:Operand} (ho:o.op=.buildSlice t 1 #[(0,x)]) [SliceT P t e] {z:List Value} {n bytes:Nat} [ElemT P e z n bytes] {cs:List Value} (hcs:(a.eval x).cells=cs.toArray) (hl:cs.length=n) (hpos:0<n) (hzl:z.length=n) (hn:n≤16)
  (hS:Sat w0 w Γ) (hK:∀ w' b,Sat w0 w' (Box b e cs :: Γ)→Ext w w'→wpList P ops Q rest (a.put o.dst (.slice (some ⟨b,0,none⟩) 1 1)) w'):wpList P ops Q (o :: rest) a w:=by
 refine wpList_plain hg fun K hK'=>?_
 have hr:=jk (P:=P) (w:=w) (t:=t) (e:=e) hcs hl hpos hzl hn
 unfold Oper.wp execOp
 simp only [ho,List.map_toArray,List.map_cons,List.map_nil,hr,Sem.run_bind,Sem.run_pure,Result.andThen_ok,Oper.upon_value]
 exact hK' _ _ (hK _ _ (hS.box e cs) (eL _ _))

theorem jg (R:Rep α) (hg:o.guard=none) {t:TypeId} (ho:o.op=.buildSlice t 0 #[]) [ht:SliceT P t E] {z:List Value} {n bytes:Nat} [hz:ElemT P E z n bytes]
  (hS:Sat w0 w Γ) (hK:∀ w' b,Sat w0 w' (Own (au R E) [.slice (some ⟨b,0,none⟩) 0 0] [] :: Γ)→Ext w w'→wpList P ops Q rest (a.put o.dst (.slice (some ⟨b,0,none⟩) 0 0)) w'):wpList P ops Q (o :: rest) a w:=by
 refine wpList_plain hg fun K hK'=>?_
 have hz:=hz.h
 cases hi:P.info? E with
 | none=>simp [hi] at hz
 | some i =>
 have hr:(Instr.buildSlice t 0 #[]).run P w=.ok (.slice (some ⟨w.heap.size,0,none⟩) 0 0) (w.alloc (.cells #[] E)):=by
  simp [Instr.buildSlice,run_underlying ht.h,sizeOf,typeInfo,hi,Instr.fill,newRow,Array.range_zero']
 unfold Oper.wp execOp
 simp only [ho,List.map_toArray,List.map_nil,hr,Sem.run_bind,Sem.run_pure,Result.andThen_ok,Oper.upon_value]
 have hB:=hS.box E []
 refine hK' _ _ (hK _ _ (hB.conv (B:=Own (au R E) [.slice (some ⟨w.heap.size,0,none⟩) 0 0] []) fun f hf=>?_) (eL _ _))
 obtain ⟨rfl,hf⟩:=hf
 exact .inr ⟨w.heap.size,0,#[],[],[],rfl,hf,Nat.le_refl _,Nat.zero_le _,by simp,by simp,⟨rfl,rfl⟩,rfl⟩

theorem Sat.one {ec:List Value} {y:α} (h:Sat w0 w (Own R ec y :: Γ)):Sat w0 w (js R ec [y] :: Γ) :=
 h.conv fun f hf=>⟨ec,[],f,[],by simp,by simp,hf,rfl,rfl⟩
theorem Sat.str (h:Sat w0 w Γ) (s:ByteArray) (hs:s.size≤9223372036854775807):Sat w0 w (Own fK [.string s] s :: Γ):=h.add ⟨⟨rfl,hs⟩,rfl⟩
theorem Sat.int (h:Sat w0 w Γ) (n:Int):Sat w0 w (Own aT [.int .i64 n] n :: Γ):=h.add ⟨rfl,rfl⟩
theorem Sat.pair {α β:Type} {R:Rep α} {S:Rep β} {c d:List Value} {x:α} {y:β} (h:Sat w0 w (Own R c x :: Own S d y :: Γ)):Sat w0 w (Own (iY R S) (c++d) (x,y) :: Γ) :=
 h.join fun f g h1 h2=>⟨c,d,f,g,rfl,rfl,h1,h2⟩
theorem Sat.ints {xs:List Int} (h:Sat w0 w Γ):Sat w0 w (js aT (xs.map (Value.int .i64)) xs :: Γ):=by
 refine h.add ?_
 induction xs with
 | nil=>exact ⟨rfl,rfl⟩
 | cons x xs ih=>exact ⟨[.int .i64 x],_,[],[],rfl,rfl,⟨rfl,rfl⟩,ih⟩
end laws2
abbrev Env:=Nat→Value
def upd (e:Env) (d:Nat) (v:Value):Env:=fun t=>bif Nat.beq t d then v else e t
def ev (e:Env):Operand→Value
 | .tmp t=>e t
 | .const v=>v
 | .global g=>.pointer (some ⟨g,0,none⟩)
 | .func f=>.func (.func f) #[] #[]
theorem ii {a b:Nat} (h:¬ a=b):Nat.beq a b=false:=by
 cases hb:Nat.beq a b
 ·rfl
 ·exact absurd (Nat.eq_of_beq_eq_true hb) h
structure Mt (n:Nat) (e:Env) (a:Act):Prop where
 size:a.tmps.size=n
 defers:a.defers=[]
 get:∀ t,a.tmps.getD t undef=e t
theorem Mt.eval {n:Nat} {e:Env} {a:Act} (h:Mt n e a):a.eval=ev e:=by
 funext x
 cases x <;> simp only [Act.eval,ev]
 exact h.get _
theorem Mt.put {n:Nat} {e:Env} {a:Act} (h:Mt n e a) {d:Nat} (hd:d<n) (v:Value):Mt n (upd e d v) (a.put (some d) v):=by
 refine ⟨by simp [Act.put,h.size],by simpa [Act.put] using h.defers,fun t=>?_⟩
 have hg:=h.get t
 have hs:=h.size
 simp only [Act.put,upd]
 by_cases ht:t=d
 ·subst ht
  simp [Array.getD,hs,hd]
 ·have:Nat.beq t d=false:=ii ht
  rw [this]
  simp only [cond_false,← hg,Array.getD,Array.size_setIfInBounds]
  split
  ·rename_i hlt
   have:=Array.getElem_setIfInBounds (xs:=a.tmps) (i:=d) (a:=v) (j:=t) (by simpa using hlt)
   rw [if_neg (fun e=>ht e.symm)] at this
   exact this
  ·rfl
theorem mi {e:Env} {d:Nat} {v:Value} (h:e d=v):upd e d v=e:=by
 funext t
 unfold upd
 by_cases ht:t=d
 ·subst ht;simp [h]
 ·have:Nat.beq t d=false:=ii ht
  rw [this];rfl
theorem keep {e e':Env} {d:Nat} {v:Value} (h:e' d=v) (h2:e=e'):e=upd e' d v:=by rw [mi h,h2]
def PV (P:Program) (o:Oper) (e:Env) (w:World) (v:Value):Prop:=∀ w',Ext w w'→(execOp (ev e) o).run P w'=.ok (.value v) w'
theorem PV.ext {P:Program} {o:Oper} {e:Env} {w w1:World} {v:Value} (h:PV P o e w v) (hx:Ext w w1):PV P o e w1 v:=fun w' h'=>h w' (hx.trans h')

def nrm (n:Nat) (K:Env→World→Prop):Exit→Act→World→Prop:=fun x a w=>x=.normal∧∃ e,Mt n e a∧K e w
def EL (P:Program) (n:Nat) (ops:Array Oper) (K:Env→World→Prop) (rest:List Oper) (e:Env) (w:World):Prop:=∀ a,Mt n e a→wpList P ops (nrm n K) rest a w
def QL (P:Program) (n:Nat) (ops:Array Oper) (w:World) (K:Env→Prop) (rest:List Oper) (e:Env):Prop:=∀ a,Mt n e a→wpQuiet P ops (fun w'=>Ext w w') (fun a'=>∃ e',Mt n e' a'∧K e') rest a

structure Goes (P:Program) (f:FuncId):Prop where
 h:∃ fn,P.funcs[f]? = some fn∧(fn.name == "runtime.NumGoroutine")=false∧fn.body.isNone=false
theorem Goes.run {P:Program} {f:FuncId} (h:Goes P f) (args:Array Value) (w:World):(callFunc f args).run P w=.ok (.enter f args) w:=by
 obtain ⟨fn,h1,h2,h3⟩:=h.h
 simp only [callFunc,Sem.run_bind,run_program,Result.andThen_ok,h1,h2,h3,Bool.false_eq_true,if_false]
 rfl

section
variable {P:Program} {n:Nat} {ops:Array Oper} {K:Env→World→Prop} {KQ:Env→Prop} {rest:List Oper} {e:Env} {w w0:World} {v:Value} {d:Nat} {op:Op} {ty:TypeId} {pos:String} {af:Array Edge} {Γ rΓ:List Asn}

theorem ah (h:K e w):EL P n ops K [] e w:=fun _ ha=>⟨rfl,e,ha,h⟩
theorem b9 (h:KQ e):QL P n ops w KQ [] e:=fun _ ha=>⟨e,ha,h⟩
theorem gZ (hp:PV P ⟨some d,op,ty,pos,af,none⟩ e w v) (hd:d<n) (hK:EL P n ops K rest (upd e d v) w):EL P n ops K (⟨some d,op,ty,pos,af,none⟩ :: rest) e w:=by
 intro a ha
 refine wpList_plain rfl fun K' hK'=>?_
 unfold Oper.wp
 rw [ha.eval,hp w (Ext.refl w)]
 exact hK' _ _ (hK _ (ha.put hd v))
theorem ja (hp:PV P ⟨some d,op,ty,pos,af,none⟩ e w v) (hd:d<n) (hK:QL P n ops w KQ rest (upd e d v)):QL P n ops w KQ (⟨some d,op,ty,pos,af,none⟩ :: rest) e:=by
 intro a ha
 unfold wpQuiet
 rw [if_pos (by rfl)]
 refine ⟨v,fun w' hw'=>?_,hK _ (ha.put hd v)⟩
 unfold Oper.quietAt
 rw [ha.eval,hp w' hw']
 exact ⟨rfl,rfl⟩
theorem aD {f:FuncId} {args:Array Operand} {tys:Array TypeId} {vals:Array Value} {R:Ending→World→Prop} (hg:Goes P f) (hc:Calls P f vals w R) (hv:(args.toList.map (ev e)).toArray=vals) (hd:d<n)
  (hK:∀ x w',R x w'→∃ v,x=.returned v∧EL P n ops K rest (upd e d v) w'):EL P n ops K (⟨some d,.call ⟨.value (.func f),args,tys⟩,ty,pos,af,none⟩ :: rest) e w:=by
 intro a ha
 refine wpList_plain rfl fun K' hK'=>?_
 unfold Oper.wp execOp
 have he:args.map (ev e)=vals:=by rw [← hv];apply Array.ext';simp
 simp only [ha.eval,resolve,ev,Deferred.ofValue,Sem.run_bind,Sem.run_pure,Result.andThen_ok,Array.empty_append,Array.append_empty,he,invoke,hg.run,Oper.upon_enter]
 refine hc.mono fun x w' hx=>?_
 obtain ⟨v,rfl,h⟩:=hK x w' hx
 exact hK' _ _ (h _ (ha.put hd v))
theorem bZ {f:FuncId} {args:Array Operand} {tys:Array TypeId} {vals:Array Value} (v:Value) (hg:Goes P f)
  (hc:∀ w',Ext w w'→Calls P f vals w' fun x w''=>x=.returned v∧Ext w' w'') (hv:(args.toList.map (ev e)).toArray=vals) (hd:d<n)
  (hK:QL P n ops w KQ rest (upd e d v)):QL P n ops w KQ (⟨some d,.call ⟨.value (.func f),args,tys⟩,ty,pos,af,none⟩ :: rest) e:=by
 intro a ha
 unfold wpQuiet
 rw [if_pos (by rfl)]
 refine ⟨v,fun w' hw'=>?_,hK _ (ha.put hd v)⟩
 unfold Oper.quietAt execOp
 have he:args.map (ev e)=vals:=by rw [← hv];apply Array.ext';simp
 simp only [ha.eval,resolve,ev,Deferred.ofValue,Sem.run_bind,Sem.run_pure,Result.andThen_ok,Array.empty_append,Array.append_empty,he,invoke,hg.run]
 exact ⟨rfl,(hc w' hw').mono fun x w'' ⟨h1,h2⟩=>⟨h1,hw'.trans h2⟩⟩
def yld (ops:Array Oper) (e:Env) (j:Nat):Option Bool :=
 match (ops[j]?).bind (·.dst) with
 | some t=>match e t with | .bool b=>some b | _=>none
 | none=>none
theorem ga {a:Act} (ha:Mt n e a) {j:Nat} {b:Bool} (h:yld ops e j=some b):yielded ops a.tmps j=some b:=by
 unfold yld at h
 unfold yielded
 cases hj:(ops[j]?).bind (·.dst) with
 | none=>simp [hj] at h
 | some t =>
  simp only [hj] at h
  have hg:=ha.get t
  simp only [Option.bind_some]
  cases hv:e t with
  | bool c =>
   rw [hv] at h hg
   simp only [Option.some.injEq] at h
   subst h
   unfold Array.getD at hg
   split at hg
   ·rename_i hlt
    rw [Array.getElem?_eq_getElem hlt]
    have:a.tmps[t]=.bool c:=hg
    rw [this]
   ·simp [undef] at hg
  | _=>simp [hv] at h
theorem h9 {a:Act} (ha:Mt n e a) {j:Nat} (h:(match (ops[j]?).bind (·.dst) with | some t=>e t | none=>undef)=undef):yielded ops a.tmps j=none:=by
 unfold yielded
 cases hj:(ops[j]?).bind (·.dst) with
 | none=>rfl
 | some t =>
  simp only [hj] at h
  have hg:=ha.get t
  rw [h] at hg
  simp only [Option.bind_some]
  cases hv:a.tmps[t]? with
  | none=>rfl
  | some v =>
   have:a.tmps.getD t undef=v:=by
    obtain ⟨h1,h2⟩:=Array.getElem?_eq_some_iff.1 hv
    simp [Array.getD,h1,h2]
   rw [this] at hg
   subst hg
   rfl
theorem oG {j:Nat} {b c:Bool} {dst:Option Nat} (h:yld ops e j=some c) (hc:c=b) (hK:EL P n ops K (⟨dst,op,ty,pos,af,none⟩ :: rest) e w):EL P n ops K (⟨dst,op,ty,pos,af,some (j,b)⟩ :: rest) e w:=by
 subst hc
 intro a ha
 have:=hK a ha
 unfold wpList at this ⊢
 rw [if_pos (by simp [Region.wanted])] at this
 rw [if_pos (by simp [Region.wanted,ga ha h])]
 exact this
theorem nM {j:Nat} {b b' c:Bool} {d:Nat} (h:yld ops e j=some c) (hc:c=b) (hb:(b == b')=false) (hd:d<n) (hK:EL P n ops K rest (upd e d undef) w):EL P n ops K (⟨some d,op,ty,pos,af,some (j,b')⟩ :: rest) e w:=by
 subst hc
 intro a ha
 unfold wpList
 rw [if_neg (by simp [Region.wanted,ga ha h];simpa using hb)]
 exact hK _ (ha.put hd _)
theorem oH {j:Nat} {b c:Bool} {dst:Option Nat} (h:yld ops e j=some c) (hc:c=b) (hK:QL P n ops w KQ (⟨dst,op,ty,pos,af,none⟩ :: rest) e):QL P n ops w KQ (⟨dst,op,ty,pos,af,some (j,b)⟩ :: rest) e:=by
 subst hc
 intro a ha
 have:=hK a ha
 unfold wpQuiet at this ⊢
 rw [if_pos (by simp [Region.wanted])] at this
 rw [if_pos (by simp [Region.wanted,ga ha h])]
 exact this
theorem nL {j:Nat} {b b' c:Bool} {d:Nat} (h:yld ops e j=some c) (hc:c=b) (hb:(b == b')=false) (hd:d<n) (hK:QL P n ops w KQ rest (upd e d undef)):QL P n ops w KQ (⟨some d,op,ty,pos,af,some (j,b')⟩ :: rest) e:=by
 subst hc
 intro a ha
 unfold wpQuiet
 rw [if_neg (by simp [Region.wanted,ga ha h];simpa using hb)]
 exact hK _ (ha.put hd _)
end

def Lf (n:Nat) (Q:Exit→Env→World→Prop):Exit→Act→World→Prop:=fun x a w=>∃ e,Mt n e a∧Q x e w
def CW (P:Program) (n:Nat) (c:Code) (Q:Exit→Env→World→Prop) (e:Env) (w:World):Prop:=∀ a,Mt n e a→c.wp P (Lf n Q) a w
def thn (K:Env→World→Prop) (Q:Exit→Env→World→Prop):Exit→Env→World→Prop
 | .normal,e,w=>K e w
 | x,e,w=>Q x e w
def inb (id:Nat) (Q:Exit→Env→World→Prop):Exit→Env→World→Prop
 | .exit id',e,w=>bif Nat.beq id' id then Q .normal e w else Q (.exit id') e w
 | x,e,w=>Q x e w
section
variable {P:Program} {n:Nat} {Q:Exit→Env→World→Prop} {K:Env→World→Prop} {e:Env} {w:World} {c x y:Code}
theorem iV (h:∀ Q',(∀ x e w,Q x e w→Q' x e w)→CW P n c Q' e w):CW P n c Q e w:=h Q fun _ _ _ h=>h
theorem oO {i:Nat} (h:Q .normal e w):inb i Q (.exit i) e w:=by
 have:Nat.beq i i=true:=by simp
 show (bif Nat.beq i i then _ else _)
 rw [this];exact h
theorem lu (h:CW P n x (thn (fun e w=>CW P n y Q e w) Q) e w):CW P n (.seq x y) Q e w:=by
 intro a ha
 refine wp_seq (wp_mono (h a ha) ?_)
 rintro x' a' w' ⟨e',he',hq⟩
 cases x' with
 | normal=>exact hq a' he'
 | _=>exact ⟨e',he',hq⟩
theorem bF (h:Q .normal e w):CW P n .skip Q e w:=fun _ ha=>wp_skip ⟨e,ha,h⟩
theorem aE {i:Nat} (h:Q (.exit i) e w):CW P n (.exit i) Q e w:=fun _ ha=>wp_exit ⟨e,ha,h⟩
theorem ag (h:Q .ret e w):CW P n .ret Q e w:=fun _ ha=>wp_ret ⟨e,ha,h⟩
theorem lZ {o:Operand} {b:Bool} (hc:ev e o=.bool b) (hb:b=true) (h:CW P n x Q e w):CW P n (.cond o x y) Q e w :=
 fun a ha=>wp_cond_true (by rw [ha.eval,hc,hb]) (h a ha)
theorem lN {o:Operand} {b:Bool} (hc:ev e o=.bool b) (hb:b=false) (h:CW P n y Q e w):CW P n (.cond o x y) Q e w :=
 fun a ha=>wp_cond_false (by rw [ha.eval,hc,hb]) (h a ha)
theorem mv {i:Nat} (h:CW P n c (inb i Q) e w):CW P n (.block i c) Q e w:=by
 intro a ha
 refine wp_block (wp_mono (h a ha) ?_)
 rintro x' a' w' ⟨e',he',hq⟩
 cases x' with
 | exit id' =>
  by_cases hi:id'=i
  ·subst hi
   have:Nat.beq id' id'=true:=by simp
   have hq':(bif Nat.beq id' id' then Q .normal e' w' else Q (.exit id') e' w'):=hq
   rw [this] at hq'
   simp only [Exit.inBlock,if_true]
   exact ⟨e',he',hq'⟩
  ·have:Nat.beq id' i=false:=ii hi
   have hq':(bif Nat.beq id' i then Q .normal e' w' else Q (.exit id') e' w'):=hq
   rw [this] at hq'
   simp only [Exit.inBlock,hi,if_false]
   exact ⟨e',he',hq'⟩
 | _=>exact ⟨e',he',hq⟩
theorem ai {id:Nat} {l:List Oper} (h:EL P n l.toArray (fun e w=>Q .normal e w) l e w):CW P n (.region id l.toArray false) Q e w:=by
 intro a ha
 refine wp_mono (wp_region_lit (h a ha)) ?_
 rintro x a w ⟨rfl,e,he,hk⟩
 exact ⟨e,he,hk⟩
theorem cD {id:Nat} {l:List Oper} (hm:P.follows .mixedOrders=true) (hB:Region.lexB .any l.toArray=true) (h:QL P n l.toArray w (fun e=>∀ w',Ext w w'→Q .normal e w') l e):CW P n (.region id l.toArray true) Q e w:=by
 intro a ha
 refine wp_region_quiet (C:=fun w'=>Ext w w') hm hB ⟨rfl,rfl,rfl,Nat.le_refl _,fun _ _=>rfl⟩ ?_
 have:=h a ha
 have key:∀ (r:List Oper) (a:Act),wpQuiet P l.toArray (fun w'=>Ext w w') (fun a'=>∃ e',Mt n e' a'∧∀ w',Ext w w'→Q .normal e' w') r a→wpQuiet P l.toArray (fun w'=>Ext w w') (fun a'=>∀ w',Ext w w'→Lf n Q .normal a' w') r a:=by
  intro r
  induction r with
  | nil=>rintro a ⟨e',h1,h2⟩ w' hw';exact ⟨e',h1,h2 w' hw'⟩
  | cons o r ih =>
   intro a h
   unfold wpQuiet at h ⊢
   split
   ·rename_i hw
    rw [if_pos hw] at h
    exact Oper.quiet_mono ih h
   ·rename_i hw
    rw [if_neg hw] at h
    exact ih _ h
 exact key _ _ this
theorem nD (I:Nat→Env→World→Prop) (k0:Nat) (h0:I k0 e w)
  (hr:∀ k e w,I k e w→CW P n c (thn (fun e w=>∃ k',k'<k∧I k' e w) Q) e w):CW P n (.loop c) Q e w:=by
 intro a ha
 refine wp_loop_ghost (fun k a w=>∃ e,Mt n e a∧I k e w) k0 ⟨e,ha,h0⟩ ?_
 rintro k a w ⟨e,he,hI⟩
 refine wp_mono (hr k e w hI a he) ?_
 rintro x' a' w' ⟨e',he',hq⟩
 cases x' with
 | normal =>
  obtain ⟨k',hk',hI'⟩:=hq
  exact ⟨k',hk',e',he',hI'⟩
 | _=>exact ⟨e',he',hq⟩
theorem aC (I:Nat→Env→World→Prop) (k0:Nat) (h0:I k0 e w) (hz:∀ e w,¬ I 0 e w)
  (hr:∀ k e w,I (k+1) e w→CW P n c (thn (fun e w=>I k e w) Q) e w):CW P n (.loop c) Q e w:=by
 refine nD I k0 h0 ?_
 intro k e w hI
 cases k with
 | zero=>exact absurd hI (hz e w)
 | succ k =>
  intro a ha
  refine wp_mono (hr k e w hI a ha) ?_
  rintro x' a' w' ⟨e',he',hq⟩
  cases x' with
  | normal=>exact ⟨e',he',k,Nat.lt_succ_self k,hq⟩
  | _=>exact ⟨e',he',hq⟩
end

def Fin (P:Program) (fn:Func) (n:Nat) (R:Ending→World→Prop):Exit→Env→World→Prop
 | .normal,e,w=>∃ v,(∀ a,Mt n e a→(results fn a.tmps).run P w=.ok v w)∧R (.returned v) w
 | .ret,e,w=>∃ v,(∀ a,Mt n e a→(results fn a.tmps).run P w=.ok v w)∧R (.returned v) w
 | _,_,_=>False
def jh:List Value→Nat→Env
 | [],_=>fun _=>undef
 | v :: l,k=>upd (jh l (k+1)) k v
theorem jS:∀ (l:List Value) (k t:Nat),jh l k t=if k≤t then l.getD (t-k) undef else undef
 | [],k,t=>by simp [jh]
 | v :: l,k,t=>by
  unfold jh upd
  by_cases h:t=k
  ·subst h;simp
  ·have hb:Nat.beq t k=false:=ii h
   rw [hb,cond_false,jS l (k+1) t]
   by_cases hk:k+1≤t
   ·rw [if_pos hk,if_pos (by omega),show t-k=(t-(k+1))+1 by omega]
    simp
   ·rw [if_neg hk]
    by_cases hk2:k≤t
    ·omega
    ·rw [if_neg hk2]
theorem aB {P:Program} {f:FuncId} {fn:Func} {c:Code} {l:List Value} {w:World} {R:Ending→World→Prop} (hf:P.funcs[f]? = some fn) (hb:fn.body=some c) {n:Nat} (hn:fn.ntmps=n) (hl:l.length≤n)
  (h:CW P n c (Fin P fn n R) (jh l 0) w):Calls P f l.toArray w R:=by
 refine calls_of_wp hf hb (wp_mono (h _ ?_) ?_)
 ·refine ⟨by simp;omega,rfl,fun t=>?_⟩
  rw [jS]
  simp only [Nat.zero_le,if_true,Nat.sub_zero,Array.getD,Array.size_append,List.size_toArray,Array.size_replicate]
  by_cases h1:t<l.length
  ·rw [dif_pos (by omega)]
   simp [h1]
  ·have h2:l.getD t undef=undef:=by simp [h1]
   rw [h2]
   split
   ·rename_i h3
    have:=Array.getElem_append_right (xs:=l.toArray) (ys:=Array.replicate (fn.ntmps-l.length) undef) (i:=t) (by simpa using h1) (h:=by simpa using h3)
    simpa using this
   ·rfl
 ·rintro x a w' ⟨e,he,hq⟩
  cases x with
  | normal=>obtain ⟨v,h1,h2⟩:=hq;exact bodyPost_end (h1 a he) he.defers h2
  | ret=>obtain ⟨v,h1,h2⟩:=hq;exact bodyPost_ret (h1 a he) he.defers h2
  | _=>exact hq.elim
def rng (n:Int):Bool:=decide (-9223372036854775808≤n)&&decide (n≤9223372036854775807)
def ad (a b:Int):Option Int:=if rng (a+b) then some (a+b) else none
def sb (a b:Int):Option Int:=if rng (a-b) then some (a-b) else none
def ml (a b:Int):Option Int:=if rng (a*b) then some (a*b) else none
def qt (a b:Int):Option Int:=if b≠0∧rng (a.tdiv b) then some (a.tdiv b) else none
def rm (a b:Int):Option Int:=if b≠0 then some (a.tmod b) else none
def ix {α:Type} (xs:List α) (i:Int):Option α:=if 0≤i then xs[i.toNat]? else none
def bx (s:ByteArray) (i:Int):Option Int:=if 0≤i then (s[i.toNat]?).map (fun b=>(b.toNat:Int)) else none
def slc {α:Type} (xs:List α) (lo hi:Int):Option (List α):=if 0≤lo∧lo≤hi∧hi≤xs.length then some ((xs.take hi.toNat).drop lo.toNat) else none
def apd {α:Type} (bytes:Nat) (xs ys:List α):Option (List α):=if (xs.length+ys.length)*bytes≤140737488355328 then some (xs++ys) else none
def mk {α:Type} (bytes:Nat) (z:α) (n:Int):Option (List α):=if 0≤n∧n.toNat*bytes≤281474976710656∧n.toNat≤140737488355328 then some (List.replicate n.toNat z) else none
def sto {α:Type} (xs:List α) (i:Int) (y:α):Option (List α):=if 0≤i∧i.toNat<xs.length then some (xs.set i.toNat y) else none

theorem ob {α β:Type} {o:Option α} {f:α→Option β} {r:β} (h:o.bind f=some r):∃ x,o=some x∧f x=some r:=Option.bind_eq_some_iff.1 h
theorem oif {α:Type} {c:Bool} {x y:Option α} {r:α} (h:(bif c then x else y)=some r):(c=true∧x=some r)∨(c=false∧y=some r):=by
 cases c
 ·exact .inr ⟨rfl,h⟩
 ·exact .inl ⟨rfl,h⟩
theorem ew {n:Int} (h:rng n=true):IntKind.i64.wrap n=n:=by
 simp only [rng,Bool.and_eq_true,decide_eq_true_eq] at h
 exact IntWalk.i64_in n h
theorem nz {a b c:Int} (h:ad a b=some c):rng (a+b)=true∧c=a+b:=by
 unfold ad at h;split at h
 ·exact ⟨by assumption,by simpa using h.symm⟩
 ·cases h
theorem kL {a b c:Int} (h:sb a b=some c):rng (a-b)=true∧c=a-b:=by
 unfold sb at h;split at h
 ·exact ⟨by assumption,by simpa using h.symm⟩
 ·cases h
theorem mS {a b c:Int} (h:ml a b=some c):rng (a*b)=true∧c=a*b:=by
 unfold ml at h;split at h
 ·exact ⟨by assumption,by simpa using h.symm⟩
 ·cases h
theorem eT {α:Type} {xs:List α} {i:Int} {x:α} (h:ix xs i=some x):∃ k:Nat,i=(k:Int)∧∃ h:k<xs.length,xs[k]=x:=by
 unfold ix at h
 split at h
 ·rename_i h0
  obtain ⟨h1,h2⟩:=List.getElem?_eq_some_iff.1 h
  exact ⟨i.toNat,by omega,h1,h2⟩
 ·cases h

section
variable {P:Program} {e:Env} {w w0:World} {d:Option Nat} {ty:TypeId} {pos:String} {af:Array Edge} {x y z:Operand} {Γ rΓ:List Asn}

theorem aG {v:Value} (hx:ev e x=v):PV P ⟨d,.move x,ty,pos,af,none⟩ e w v:=fun w' _=>by
 unfold execOp;simp only [hx];rfl
theorem bL {v:Value} (hx:ev e x=v):PV P ⟨d,.assign x,ty,pos,af,none⟩ e w v:=fun w' _=>by
 unfold execOp;simp only [hx];rfl
theorem aq {b:Bool} {v:Value} (hx:ev e x=.bool b) (hb:b=true) (hy:ev e y=v):PV P ⟨d,.pick x y z,ty,pos,af,none⟩ e w v:=fun w' _=>by
 unfold execOp;subst hb;simp [hx,hy,asBool]
theorem am {b:Bool} {v:Value} (hx:ev e x=.bool b) (hb:b=false) (hz:ev e z=v):PV P ⟨d,.pick x y z,ty,pos,af,none⟩ e w v:=fun w' _=>by
 unfold execOp;subst hb;simp [hx,hz,asBool]
theorem aQ {t:TypeId} {b:Bool} (hx:ev e x=.bool b):PV P ⟨d,.unOp .not t x,ty,pos,af,none⟩ e w (.bool (!b)):=fun w' _=>by
 unfold execOp;simp [hx,Op.unary]
theorem fY {t:TypeId} {a c:Int} (hx:ev e x=.int .i64 a) (h:sb 0 a=some c):PV P ⟨d,.unOp .neg t x,ty,pos,af,none⟩ e w (.int .i64 c):=fun w' _=>by
 obtain ⟨h1,rfl⟩:=kL h
 unfold execOp;simp [hx,Op.unary,Op.intArith,ew h1];simpa using ew h1
section
variable {t u:TypeId} {a b c:Int}
theorem aA (hx:ev e x=.int .i64 a) (hy:ev e y=.int .i64 b) (h:ad a b=some c):PV P ⟨d,.binOp .add t x y u,ty,pos,af,none⟩ e w (.int .i64 c):=fun w' _=>by
 obtain ⟨h1,rfl⟩:=nz h
 unfold execOp;simp [hx,hy,eqGuard,binOp,Op.intArith,ew h1]
theorem cT (hx:ev e x=.int .i64 a) (hy:ev e y=.int .i64 b) (h:sb a b=some c):PV P ⟨d,.binOp .sub t x y u,ty,pos,af,none⟩ e w (.int .i64 c):=fun w' _=>by
 obtain ⟨h1,rfl⟩:=kL h
 unfold execOp;simp [hx,hy,eqGuard,binOp,Op.intArith,ew h1]
theorem dm (hx:ev e x=.int .i64 a) (hy:ev e y=.int .i64 b) (h:ml a b=some c):PV P ⟨d,.binOp .mul t x y u,ty,pos,af,none⟩ e w (.int .i64 c):=fun w' _=>by
 obtain ⟨h1,rfl⟩:=mS h
 unfold execOp;simp [hx,hy,eqGuard,binOp,Op.intArith,ew h1]
theorem dL (hx:ev e x=.int .i64 a) (hy:ev e y=.int .i64 b) (h:qt a b=some c):PV P ⟨d,.binOp .quo t x y u,ty,pos,af,none⟩ e w (.int .i64 c):=fun w' _=>by
 unfold qt at h;split at h
 ·rename_i h1
  obtain rfl:=Option.some.inj h
  unfold execOp;simp [hx,hy,eqGuard,binOp,Op.intDiv,h1.1,ew h1.2]
 ·cases h
theorem fg (hx:ev e x=.int .i64 a) (hy:ev e y=.int .i64 b) (h:rm a b=some c):PV P ⟨d,.binOp .rem t x y u,ty,pos,af,none⟩ e w (.int .i64 c):=fun w' _=>by
 unfold rm at h;split at h
 ·rename_i h1
  obtain rfl:=Option.some.inj h
  unfold execOp;simp [hx,hy,eqGuard,binOp,Op.intDiv,h1]
 ·cases h
theorem jF {k:IntKind} (hx:ev e x=.int k a) (hy:ev e y=.int k b):PV P ⟨d,.binOp .add t x y u,ty,pos,af,none⟩ e w (.int k (k.wrap (a+b))):=fun w' _=>by
 unfold execOp;simp [hx,hy,eqGuard,binOp,Op.intArith]
theorem mX {k:IntKind} (hx:ev e x=.int k a) (hy:ev e y=.int k b):PV P ⟨d,.binOp .mul t x y u,ty,pos,af,none⟩ e w (.int k (k.wrap (a*b))):=fun w' _=>by
 unfold execOp;simp [hx,hy,eqGuard,binOp,Op.intArith]
theorem cv {k:IntKind} (hx:ev e x=.int k a) (hy:ev e y=.int k b):PV P ⟨d,.binOp .eql t x y u,ty,pos,af,none⟩ e w (.bool (a == b)):=fun w' _=>by
 unfold execOp;simp [hx,hy,eqGuard,binOp,Op.intCmp]
theorem ft {k:IntKind} (hx:ev e x=.int k a) (hy:ev e y=.int k b):PV P ⟨d,.binOp .neq t x y u,ty,pos,af,none⟩ e w (.bool (a != b)):=fun w' _=>by
 unfold execOp;simp [hx,hy,eqGuard,binOp,Op.intCmp]
theorem aF {k:IntKind} (hx:ev e x=.int k a) (hy:ev e y=.int k b):PV P ⟨d,.binOp .lss t x y u,ty,pos,af,none⟩ e w (.bool (decide (a<b))):=fun w' _=>by
 unfold execOp;simp [hx,hy,eqGuard,binOp,Op.intCmp]
theorem f6 {k:IntKind} (hx:ev e x=.int k a) (hy:ev e y=.int k b):PV P ⟨d,.binOp .leq t x y u,ty,pos,af,none⟩ e w (.bool (decide (a≤b))):=fun w' _=>by
 unfold execOp;simp [hx,hy,eqGuard,binOp,Op.intCmp]
theorem cg {k:IntKind} (hx:ev e x=.int k a) (hy:ev e y=.int k b):PV P ⟨d,.binOp .gtr t x y u,ty,pos,af,none⟩ e w (.bool (decide (b<a))):=fun w' _=>by
 unfold execOp;simp [hx,hy,eqGuard,binOp,Op.intCmp]
theorem gK {k:IntKind} (hx:ev e x=.int k a) (hy:ev e y=.int k b):PV P ⟨d,.binOp .geq t x y u,ty,pos,af,none⟩ e w (.bool (decide (b≤a))):=fun w' _=>by
 unfold execOp;simp [hx,hy,eqGuard,binOp,Op.intCmp]
end
def eqS (s r:ByteArray):Bool:=s.toList == r.toList
def ltS (s r:ByteArray):Bool:=Op.bytesLess s.toList r.toList
section
variable {t u:TypeId} {s r:ByteArray}
theorem jE (hx:ev e x=.string s) (hy:ev e y=.string r):PV P ⟨d,.binOp .eql t x y u,ty,pos,af,none⟩ e w (.bool (eqS s r)):=fun w' _=>by
 unfold execOp eqS;simp [hx,hy,eqGuard,binOp,Op.stringOp]
theorem nj (hx:ev e x=.string s) (hy:ev e y=.string r):PV P ⟨d,.binOp .neq t x y u,ty,pos,af,none⟩ e w (.bool (!(eqS s r))):=fun w' _=>by
 unfold execOp eqS;simp [hx,hy,eqGuard,binOp,Op.stringOp]
end
theorem mw (k:Nat) {t:TypeId} (ht:P.underlying t=some .bool) (a b:Bool) (w:World):(Op.equalIn (k+1) t (.bool a) (.bool b)).run P w=.ok (a == b) w:=by
 simp only [Op.equalIn,Sem.run_bind,run_underlying ht,Result.andThen_ok,Sem.run_pure]
theorem ni {t:TypeId} (ht:P.underlying t=some .bool) (a b:Bool) (w:World):(Op.equal t (.bool a) (.bool b)).run P w=.ok (a == b) w:=mw 9999 ht a b w
theorem mT {t u:TypeId} {a b:Bool} (ht:P.underlying t=some .bool) (hx:ev e x=.bool a) (hy:ev e y=.bool b):PV P ⟨d,.binOp .eql t x y u,ty,pos,af,none⟩ e w (.bool (a == b)):=fun w' _=>by
 have h1:(eqGuard .eql t x y (.bool a) (.bool b)).run P w'=.ok () w':=by simp [eqGuard]
 have h2:(binOp .eql t (.bool a) (.bool b)).run P w'=.ok (.bool (a == b)) w':=by
  show (do pure (.bool (← Op.equal t (.bool a) (.bool b))):Sem Value).run P w'=_
  simp only [Sem.run_bind,ni ht,Result.andThen_ok,Sem.run_pure]
 unfold execOp
 simp only [hx,hy,Sem.run_bind,h1,h2,Result.andThen_ok,Sem.run_pure]
theorem ar {k:Nat} {vs:Array Value} {v:Value} (hx:ev e x=.tuple vs) (h:vs[k]? = some v):PV P ⟨d,.extract x k,ty,pos,af,none⟩ e w v:=fun w' _=>by
 unfold execOp;simp [hx,Instr.extract,h]
theorem kh {s t:TypeId} {k k2:IntKind} {a:Int} {u:TypeDesc} (hs:P.underlying s=some u) (ht:P.underlying t=some (.int k2)) (hx:ev e x=.int k a):PV P ⟨d,.convert s t x,ty,pos,af,none⟩ e w (.int k2 (k2.wrap a)):=fun w' _=>by
 unfold execOp;simp [hx,convert,run_underlying ht,run_underlying hs,Conv.intToInt]
theorem fD {t:TypeId} {s:ByteArray} (ht:P.underlying t=some .string) (hx:ev e x=.string s):PV P ⟨d,.call ⟨.builtin .len,#[x],#[t]⟩,ty,pos,af,none⟩ e w (.int .i64 s.size):=fun w' _=>by
 unfold execOp;simp [resolve,invoke,builtin,hx,Builtin.len_,run_underlying ht,goInt]
def imx (a b:Int):Int:=if a<b then b else a
theorem cP {p:Addr} (hx:ev e x=.pointer (some p)):PV P ⟨d,.nilCheck x,ty,pos,af,none⟩ e w (.pointer (some p)):=fun w' _=>by
 unfold execOp;simp [hx]
theorem i6 {t t2:TypeId} {a b:Int} (hx:ev e x=.int .i64 a) (hy:ev e y=.int .i64 b):PV P ⟨d,.call ⟨.builtin .max,#[x,y],#[t,t2]⟩,ty,pos,af,none⟩ e w (.int .i64 (imx a b)):=fun w' _=>by
 unfold execOp imx;simp [resolve,invoke,builtin,hx,hy,Builtin.max_,Builtin.max2]
theorem ji {t:TypeId} {s:ByteArray} {i:Int} {k:IntKind} {b:Int} (ht:P.underlying t=some .string) (hx:ev e x=.string s) (hy:ev e y=.int k i) (h:bx s i=some b):PV P ⟨d,.index t x y,ty,pos,af,none⟩ e w (.int .u8 b):=fun w' _=>by
 unfold bx at h
 split at h
 ·rename_i h0
  cases hb:s[i.toNat]? with
  | none=>simp [hb] at h
  | some c =>
   simp [hb] at h;subst h
   unfold execOp;simp [hx,hy,Instr.index,asIntOf,run_underlying ht,h0,hb]
 ·cases h
class FldT (P:Program) (t:TypeId) (k:Nat) (off:outParam Nat):Prop where
 h:∃ fs f,P.underlying t=some (.struct fs)∧fs[k]? = some f∧f.offset=off∧((P.info? f.type).map fun i=>Nat.beq i.size 0)=some false
theorem aa {t:TypeId} {k off b o:Nat} [ht:FldT P t k off] (hx:ev e x=.pointer (some ⟨b,o,none⟩)):PV P ⟨d,.fieldAddr t x k,ty,pos,af,none⟩ e w (.pointer (some ⟨b,o+off,none⟩)):=fun w' _=>by
 obtain ⟨fs,f,h1,h2,h3,h4⟩:=ht.h
 cases hi:P.info? f.type with
 | none=>simp [hi] at h4
 | some i =>
  have h5:¬ i.size=0:=by
   intro e0
   simp [hi,e0] at h4
  unfold execOp
  simp [hx,Instr.fieldAt,run_underlying h1,h2,Instr.sureAddr,fieldPlace,sizeOf,typeInfo,hi,h5,h3,Addr.add_lit]
theorem kn {w w':World} {p:Addr} {c:Value} (hE:Ext w w') (h:w.cell? p=some c):w'.cell? p=some c:=by rw [hE.cell (block_lt_of_cell h)];exact h
theorem ax {w w':World} {b off:Nat} {ec:List Value} (hE:Ext w w') (h:∀ j c,ec[j]? = some c→w.cell? ⟨b,off+j,none⟩=some c):∀ j c,ec[j]? = some c→w'.cell? ⟨b,off+j,none⟩=some c :=
 fun j c hj=>kn hE (h j c hj)
theorem ab {t:TypeId} [PlainT P t] {p:Addr} {c:Value} (hx:ev e x=.pointer (some p)) (hc:w.cell? p=some c):PV P ⟨d,.load t x,ty,pos,af,none⟩ e w c:=fun w' hw'=>by
 unfold execOp
 simp only [hx,Instr.loadAt,Instr.sureAddr,Sem.run_bind,Sem.run_pure,Result.andThen_ok,iD (kn hw' hc)]
theorem ap {t:TypeId} {n b off:Nat} [AggT P t n] {cs:List Value} (hx:ev e x=.pointer (some ⟨b,off,none⟩)) (hn:cs.length=n) (hc:∀ j c,cs[j]? = some c→w.cell? ⟨b,off+j,none⟩=some c) :
  PV P ⟨d,.load t x,ty,pos,af,none⟩ e w (.agg cs.toArray):=fun w' hw'=>by
 unfold execOp
 simp only [hx,Instr.loadAt,Instr.sureAddr,Sem.run_bind,Sem.run_pure,Result.andThen_ok,eE hn (ax hw' hc)]
theorem az {α:Type} {R:Rep α} {E E':TypeId} {t:TypeId} [ht:SliceT P t E'] {wA:World} {v:Value} {xs:List α} (hx:ev e x=v) (hr:(au R E).rd wA [v] xs) :
  PV P ⟨d,.call ⟨.builtin .len,#[x],#[t]⟩,ty,pos,af,none⟩ e w (.int .i64 xs.length):=fun w' _=>by
 obtain ⟨ao,cap,rfl⟩:=kr hr
 unfold execOp;simp [resolve,invoke,builtin,hx,Builtin.len_,run_underlying ht.h,goInt]
theorem iP {α:Type} {R:Rep α} {E E':TypeId} {t:TypeId} [ht:SliceT P t E'] {zz:List Value} {n bytes:Nat} [hz:ElemT P E' zz n bytes] {wA:World} {v:Value} {xs:List α} (hs:ev e x=v) (hr:(au R E).rd wA [v] xs)
  (hn:R.sz=n) (hpos:0<n) {k:IntKind} {i:Int} (hi:ev e y=.int k i) {u:α} (h:ix xs i=some u) :
  ∃ b off ec,R.rd wA ec u∧(∀ j c,ec[j]? = some c→wA.cell? ⟨b,off+j,none⟩=some c)∧∀ w,PV P ⟨d,.indexAddr t x y,ty,pos,af,none⟩ e w (.pointer (some ⟨b,off,none⟩)):=by
 obtain ⟨k',rfl,hk,rfl⟩:=eT h
 obtain ⟨ao,cap,ccs,hv,h1,h2,h3,h4,h5⟩:=hr
 obtain rfl:v=.slice ao xs.length cap:=by simpa using hv
 obtain ⟨ec,hec,hcc⟩:=gN h4 k' hk
 have hz:=hz.h
 have hlen:=eC h4
 cases hq:P.info? E' with
 | none=>simp [hq] at hz
 | some inf =>
  simp [hq] at hz
  obtain ⟨b,off,rfl,hc⟩:∃ b off,ao=some ⟨b,off,none⟩∧∀ j c,ccs[j]? = some c→wA.cell? ⟨b,off+j,none⟩=some c:=by
   rcases h5 with rfl | ⟨b,off,rfl,hc⟩
   ·have:0<xs.length*R.sz:=Nat.mul_pos (by omega) (by omega)
    simp at hlen
    omega
   ·exact ⟨b,off,rfl,hc⟩
  have hsz:inf.size=R.sz:=by rw [hn];exact hz.2.1
  refine ⟨b,off+k'*R.sz,ec,hec,fun j c hj=>by rw [Nat.add_assoc];exact hc _ _ (hcc j c hj),fun w w' _=>?_⟩
  unfold execOp
  simp [hs,hi,Instr.indexAt,asIntOf,run_underlying ht.h,sizeOf,typeInfo,hq,hk,Addr.add_lit,hsz]
end

section
variable {P:Program} {n:Nat} {ops:Array Oper} {K:Env→World→Prop} {KQ:Env→Prop} {rest:List Oper} {e:Env} {w w0 wA:World} {v:Value} {d:Nat} {ty:TypeId} {pos:String} {af:Array Edge} {Γ rΓ:List Asn} {x y:Operand} {α:Type} {R:Rep α} {E E':TypeId}
theorem aR {t:TypeId} [SliceT P t E'] {zz:List Value} {m bytes:Nat} [ElemT P E' zz m bytes] {xs:List α} (hs:ev e x=v) (hr:(au R E).rd wA [v] xs)
  (hn:R.sz=m) (hpos:0<m) {k:IntKind} {i:Int} (hi:ev e y=.int k i) {u:α} (h:ix xs i=some u) (hd:d<n)
  (hK:∀ b off ec,R.rd wA ec u→(∀ j c,ec[j]? = some c→wA.cell? ⟨b,off+j,none⟩=some c)→EL P n ops K rest (upd e d (.pointer (some ⟨b,off,none⟩))) w):EL P n ops K (⟨some d,.indexAddr t x y,ty,pos,af,none⟩ :: rest) e w:=by
 obtain ⟨b,off,ec,h1,h2,h3⟩:=iP (P:=P) (d:=some d) (ty:=ty) (pos:=pos) (af:=af) (t:=t) hs hr hn hpos hi h
 exact gZ (h3 _) hd (hK b off ec h1 h2)
theorem b8 {t:TypeId} [SliceT P t E'] {zz:List Value} {m bytes:Nat} [ElemT P E' zz m bytes] {xs:List α} (hs:ev e x=v) (hr:(au R E).rd wA [v] xs)
  (hn:R.sz=m) (hpos:0<m) {k:IntKind} {i:Int} (hi:ev e y=.int k i) {u:α} (h:ix xs i=some u) (hd:d<n)
  (hK:∀ b off ec,R.rd wA ec u→(∀ j c,ec[j]? = some c→wA.cell? ⟨b,off+j,none⟩=some c)→QL P n ops w KQ rest (upd e d (.pointer (some ⟨b,off,none⟩)))):QL P n ops w KQ (⟨some d,.indexAddr t x y,ty,pos,af,none⟩ :: rest) e:=by
 obtain ⟨b,off,ec,h1,h2,h3⟩:=iP (P:=P) (d:=some d) (ty:=ty) (pos:=pos) (af:=af) (t:=t) hs hr hn hpos hi h
 exact ja (h3 _) hd (hK b off ec h1 h2)
theorem cw {t:TypeId} (cs:List Value) (hx:(ev e x).cells=cs.toArray) (hS:Sat w0 w Γ) (hd:d<n)
  (hK:∀ w' b,Sat w0 w' (Box b t cs :: Γ)→Ext w w'→EL P n ops K rest (upd e d (.pointer (some ⟨b,0,none⟩))) w'):EL P n ops K (⟨some d,.box t x,ty,pos,af,none⟩ :: rest) e w :=
 fun a ha=>nH rfl rfl cs (by rw [ha.eval];exact hx) hS fun w' b h1 h2=>hK w' b h1 h2 _ (ha.put hd _)
theorem aw {t:TypeId} {cs:List Value} {m bytes:Nat} [ElemT P t cs m bytes] (hS:Sat w0 w Γ) (hd:d<n)
  (hK:∀ w' b,Sat w0 w' (Box b t cs :: Γ)→Ext w w'→EL P n ops K rest (upd e d (.pointer (some ⟨b,0,none⟩))) w'):EL P n ops K (⟨some d,.alloc t,ty,pos,af,none⟩ :: rest) e w :=
 fun _ ha=>lI rfl rfl hS fun w' b h1 h2=>hK w' b h1 h2 _ (ha.put hd _)
theorem ae {t:TypeId} {z:List Value} {m bytes:Nat} [ElemT P t z m bytes] (hS:Sat w0 w Γ) {b j:Nat} (hx:ev e x=.pointer (some ⟨b,j,none⟩))
  {E:TypeId} {cs:List Value} [AtBox Γ b E cs rΓ] (vs:List Value) (hy:(ev e y).cells=vs.toArray) (hn:vs.length=m) (hl:j+m≤cs.length) (h1:vs.all (·.oneCell')=true)
  (hK:∀ w',Sat w0 w' (Box b E (cs.take j++vs++cs.drop (j+m)) :: rΓ)→EL P n ops K rest e w'):EL P n ops K (⟨none,.store t x y,ty,pos,af,none⟩ :: rest) e w :=
 fun _ ha=>lf rfl rfl hS (by rw [ha.eval];exact hx) vs (by rw [ha.eval];exact hy) hn hl h1 fun w' h1=>hK w' h1 _ ha
theorem l8 {t:TypeId} {z:List Value} {m bytes:Nat} [ElemT P t z m bytes] (hn:R.sz=m) {ec:List Value} {yv:α} {xs ys:List α} {g ln cap:Nat}
  (hS:Sat w0 w (Own R ec yv :: Own (au R E) [.slice (some ⟨g,0,none⟩) ln cap] xs :: Γ)) (k off:Nat) {i:Int} (hi:i=(k:Int)) (h:sto xs i yv=some ys) (hoff:off=k*m) (hx:ev e x=.pointer (some ⟨g,off,none⟩)) (hy:(ev e y).cells=ec.toArray)
  (hK:∀ w',Sat w0 w' (Own (au R E) [.slice (some ⟨g,0,none⟩) ln cap] ys :: Γ)→EL P n ops K rest e w'):EL P n ops K (⟨none,.store t x y,ty,pos,af,none⟩ :: rest) e w:=by
 intro a ha
 subst hi
 unfold sto at h
 split at h
 ·rename_i h0
  obtain rfl:=Option.some.inj h
  simp only [Int.toNat_natCast] at h0 hK
  exact kT rfl rfl hn hS k off h0.2 hoff (by rw [ha.eval];exact hx) (by rw [ha.eval];exact hy) fun w' h1=>hK w' h1 _ ha
 ·cases h
theorem bD {t:TypeId} [SliceT P t E] {z:List Value} {m bytes:Nat} [ElemT P E z m bytes] (hn:R.sz=m) (hpos:0<m) (hzl:z.length=m) (hb0:0<bytes)
  {xs:List α} {ccs:List Value} {ys zs:List α} (hS:Sat w0 w (js R ccs ys :: Own (au R E) [v] xs :: Γ)) (hs:ev e x=v)
  {ao:Option Addr} {ln c:Nat} (hx:ev e y=.slice ao ln c) (hm:ln=ys.length) (hnone:ao=none→c=0) (hrow:iv w ao ccs) (h:apd bytes xs ys=some zs) (hd:d<n)
  (hK:∀ w' v',Sat w0 w' (Own (au R E) [v'] zs :: Γ)→EL P n ops K rest (upd e d v') w'):EL P n ops K (⟨some d,.call ⟨.builtin .append,#[x,y],#[t,t]⟩,ty,pos,af,none⟩ :: rest) e w:=by
 intro a ha
 unfold apd at h
 split at h
 ·rename_i hby
  obtain rfl:=Option.some.inj h
  exact kV rfl rfl hn hpos hzl hb0 hS (by rw [ha.eval];exact hs) (by rw [ha.eval];exact hx) hm hnone hrow hby fun v' w' h1=>hK w' v' h1 _ (ha.put hd _)
 ·cases h
theorem jv {t:TypeId} [SliceT P t E] {z:List Value} {m bytes:Nat} [ElemT P E z m bytes] (hn:R.sz=m) (hpos:0<m) (hzl:z.length=m) {x0:α} (hx0:∀ w,R.own w z x0 []) {i:Int} {xs:List α}
  (hl:ev e x=.int .i64 i) (hc:ev e y=.int .i64 i) (h:mk bytes x0 i=some xs) (hS:Sat w0 w Γ) (hd:d<n)
  (hK:∀ w' g k,Sat w0 w' (Own (au R E) [.slice (some ⟨g,0,none⟩) k k] xs :: Γ)→Ext w w'→xs.length=k→EL P n ops K rest (upd e d (.slice (some ⟨g,0,none⟩) k k)) w'):EL P n ops K (⟨some d,.makeSlice t x y,ty,pos,af,none⟩ :: rest) e w:=by
 intro a ha
 unfold mk at h
 split at h
 ·rename_i h0
  obtain rfl:=Option.some.inj h
  exact mC rfl rfl hn hpos hzl hx0 (by rw [ha.eval];exact hl) (by rw [ha.eval];exact hc) i.toNat (by omega) (by omega) h0.2.1 h0.2.2 hS fun w' g h1 h2=>hK w' g _ h1 h2 (by simp) _ (ha.put hd _)
 ·cases h
theorem aI {t u:TypeId} [SliceT P t u] {z:List Value} {m bytes:Nat} [ElemT P u z m bytes] (cs:List Value) (hcs:(ev e x).cells=cs.toArray) (hl:cs.length=m) (hpos:0<m) (hzl:z.length=m) (hn:m≤16)
  (hS:Sat w0 w Γ) (hd:d<n) (hK:∀ w' b,Sat w0 w' (Box b u cs :: Γ)→Ext w w'→EL P n ops K rest (upd e d (.slice (some ⟨b,0,none⟩) 1 1)) w'):EL P n ops K (⟨some d,.buildSlice t 1 #[(0,x)],ty,pos,af,none⟩ :: rest) e w :=
 fun _ ha=>jj rfl rfl (by rw [ha.eval];exact hcs) hl hpos hzl hn hS fun w' b h1 h2=>hK w' b h1 h2 _ (ha.put hd _)
theorem cO (R:Rep α) {t:TypeId} [SliceT P t E] {z:List Value} {m bytes:Nat} [ElemT P E z m bytes] (hS:Sat w0 w Γ) (hd:d<n)
  (hK:∀ w' v,Sat w0 w' (Own (au R E) [v] [] :: Γ)→Ext w w'→EL P n ops K rest (upd e d v) w'):EL P n ops K (⟨some d,.buildSlice t 0 #[],ty,pos,af,none⟩ :: rest) e w :=
 fun _ ha=>jg R rfl rfl hS fun w' b h1 h2=>hK w' _ h1 h2 _ (ha.put hd _)
theorem j8 {t:TypeId} {lo hi:Option Operand} [ht:SliceT P t E'] {z:List Value} {m bytes:Nat} [hz:ElemT P E' z m bytes] (hn:R.sz=m) {d:Option Nat}
    (hx:ev e x=v) {xs ys:List α} (hr:(au R E).rd wA [v] xs) {l h:Int} (hlo:(lo.map (ev e)=some (.int .i64 l))∨(lo=none∧l=0)) (hhi:(hi.map (ev e)=some (.int .i64 h))∨(hi=none∧h=xs.length)) (hq:slc xs l h=some ys) :
    ∃ v',(au R E).rd wA [v'] ys∧∀ w,PV P ⟨d,.slice t x lo hi none,ty,pos,af,none⟩ e w v':=by
  unfold slc at hq
  split at hq
  case isFalse=>cases hq
  rename_i h0
  obtain rfl:=Option.some.inj hq
  obtain ⟨l',rfl⟩:=Int.eq_ofNat_of_zero_le h0.1
  obtain ⟨h',rfl⟩:=Int.eq_ofNat_of_zero_le (Int.le_trans h0.1 h0.2.1)
  obtain ⟨_,hlh,hh⟩:=h0
  replace hlh:l'≤h':=by omega
  replace hh:h'≤xs.length:=by omega
  simp only [Int.toNat_natCast]
  obtain ⟨ao,cap,ccs,hv,h1,h2,h3,h4,h5⟩:=hr
  obtain rfl:v=.slice ao xs.length cap:=by simpa using hv
  have hz:=hz.h
  cases hq:P.info? E' with
  | none=>simp [hq] at hz
  | some inf =>
    simp [hq] at hz
    have hcap:h'≤cap:=by omega
    have hsz:inf.size=R.sz:=by rw [hn];exact hz.2.1
    have hlen:((xs.take h').drop l').length=h' - l':=by simp;omega
    have hccl:=eC h4
    have hrd:=(ip l' (ip h' h4).1).2
    refine ⟨.slice (if cap=l' then ao else ao.map (·.add (l'*inf.size))) (h' - l') (cap-l'),⟨_,cap-l',_,by rw [hlen],by rw [hlen];omega,by omega,?_,hrd,?_⟩,fun w w' _=>?_⟩
    · intro e
      split at e
      · omega
      · cases ao with
        | none=>have:=h3 rfl;omega
        | some _=>simp at e
    · by_cases hcl:cap=l'
      · left
        have:h'=l':=by omega
        subst this
        apply List.eq_nil_of_length_eq_zero
        simp
      · rw [if_neg hcl]
        rcases h5 with rfl | ⟨b,off,rfl,h5⟩
        · left;simp
        · right
          refine ⟨b,off+l'*R.sz,by rw [hsz];simp [Addr.add_lit],fun j c hj=>?_⟩
          rw [List.getElem?_drop,List.getElem?_take] at hj
          split at hj
          · rw [Nat.add_assoc];exact h5 _ c hj
          · cases hj
    · have hb:(Instr.sliceBounds true xs.length cap (lo.map (ev e)) (hi.map (ev e)) none).run P w'=.ok (l',h',cap) w':=by
        rcases hlo with e1 | ⟨e1,e1'⟩ <;> rcases hhi with e2 | ⟨e2,e2'⟩
        all_goals
          (try rw [e1]);(try rw [e2])
          first
            | (simp [Instr.sliceBounds,Instr.sliceBound,asIntOf,hcap,hlh];done)
            | (have:l'=0:=by omega
               subst this
               simp [Instr.sliceBounds,Instr.sliceBound,asIntOf,hcap,hlh];done)
            | (have:h'=xs.length:=by omega
               subst this
               simp [Instr.sliceBounds,Instr.sliceBound,asIntOf,hcap,hlh];done)
            | (have:l'=0:=by omega
               have:h'=xs.length:=by omega
               subst_vars
               simp [Instr.sliceBounds,Instr.sliceBound,asIntOf])
      unfold execOp
      simp only [hx,Instr.sliceAt,Sem.run_bind,run_underlying ht.h,Result.andThen_ok,Instr.slice,hb,sizeOf,typeInfo,hq,run_program,Sem.run_pure,Option.map_none]
theorem mj {t:TypeId} {lo hi:Option Operand} [SliceT P t E'] {z:List Value} {m bytes:Nat} [ElemT P E' z m bytes] (hn:R.sz=m)
  (hx:ev e x=v) {xs ys:List α} (hr:(au R E).rd wA [v] xs) {l h:Int} (hlo:(lo.map (ev e)=some (.int .i64 l))∨(lo=none∧l=0)) (hhi:(hi.map (ev e)=some (.int .i64 h))∨(hi=none∧h=xs.length)) (hq:slc xs l h=some ys) (hd:d<n)
  (hK:∀ v',(au R E).rd wA [v'] ys→EL P n ops K rest (upd e d v') w):EL P n ops K (⟨some d,.slice t x lo hi none,ty,pos,af,none⟩ :: rest) e w:=by
 obtain ⟨v',h1,h2⟩:=j8 (P:=P) (d:=some d) (ty:=ty) (pos:=pos) (af:=af) (t:=t) hn hx hr hlo hhi hq
 exact gZ (h2 _) hd (hK v' h1)
theorem mg {t:TypeId} {lo hi:Option Operand} [SliceT P t E'] {z:List Value} {m bytes:Nat} [ElemT P E' z m bytes] (hn:R.sz=m)
  (hx:ev e x=v) {xs ys:List α} (hr:(au R E).rd wA [v] xs) {l h:Int} (hlo:(lo.map (ev e)=some (.int .i64 l))∨(lo=none∧l=0)) (hhi:(hi.map (ev e)=some (.int .i64 h))∨(hi=none∧h=xs.length)) (hq:slc xs l h=some ys) (hd:d<n)
  (hK:∀ v',(au R E).rd wA [v'] ys→QL P n ops w KQ rest (upd e d v')):QL P n ops w KQ (⟨some d,.slice t x lo hi none,ty,pos,af,none⟩ :: rest) e:=by
 obtain ⟨v',h1,h2⟩:=j8 (P:=P) (d:=some d) (ty:=ty) (pos:=pos) (af:=af) (t:=t) hn hx hr hlo hhi hq
 exact ja (h2 _) hd (hK v' h1)
end
section
variable {P:Program} {fn:Func} {n:Nat} {e:Env} {w:World} {R:Ending→World→Prop}
theorem ay {t:Tmp} (h:fn.results=#[.tmp t]) {v:Value} (ht:e t=v) (hR:R (.returned v) w):Fin P fn n R .ret e w :=
 ⟨v,fun a ha=>by rw [results_tmp h,ha.get,ht],hR⟩
theorem ia {t u:Tmp} (h:fn.results=#[.tmp t,.tmp u]) {v v2:Value} (ht:e t=v) (hu:e u=v2) (hR:R (.returned (.tuple #[v,v2])) w):Fin P fn n R .ret e w :=
 ⟨_,fun a ha=>by rw [results_tmp2 h,ha.get,ha.get,ht,hu],hR⟩
theorem fd {p:Tmp} {ty:TypeId} {m:Nat} [AggT P ty m] (h:fn.results=#[.cell p ty]) {b off:Nat} {cs:List Value} (hp:e p=.pointer (some ⟨b,off,none⟩)) (hm:cs.length=m) (hc:∀ j c,cs[j]? = some c→w.cell? ⟨b,off+j,none⟩=some c) (hR:R (.returned (.agg cs.toArray)) w) :
  Fin P fn n R .ret e w:=by
 refine ⟨_,fun a ha=>?_,hR⟩
 have h1:a.tmps.getD p undef=.pointer (some ⟨b,off,none⟩):=by rw [ha.get,hp]
 have h1':a.tmps[p]?.getD undef=.pointer (some ⟨b,off,none⟩):=by simpa using h1
 simp [results,h,h1',asAddr,eE (P:=P) (t:=ty) hm hc]
theorem bo {p t:Tmp} {ty:TypeId} {m:Nat} [AggT P ty m] (h:fn.results=#[.cell p ty,.tmp t]) {b off:Nat} {cs:List Value} {v2:Value} (hp:e p=.pointer (some ⟨b,off,none⟩)) (hm:cs.length=m) (hc:∀ j c,cs[j]? = some c→w.cell? ⟨b,off+j,none⟩=some c) (ht:e t=v2) (hR:R (.returned (.tuple #[.agg cs.toArray,v2])) w) :
  Fin P fn n R .ret e w:=by
 refine ⟨_,fun a ha=>?_,hR⟩
 have h1:a.tmps.getD p undef=.pointer (some ⟨b,off,none⟩):=by rw [ha.get,hp]
 have h1':a.tmps[p]?.getD undef=.pointer (some ⟨b,off,none⟩):=by simpa using h1
 have h2:a.tmps.getD t undef=v2:=by rw [ha.get,ht]
 have h2':a.tmps[t]?.getD undef=v2:=by simpa using h2
 simp [results,h,h1',h2',asAddr,eE (P:=P) (t:=ty) hm hc]
theorem nt {p0:Tmp} {ty0:TypeId} {m0:Nat} [AggT P ty0 m0] {b0 off0:Nat} {cs0:List Value} {t1:Tmp} {v1:Value} {t2:Tmp} {v2:Value} {t3:Tmp} {v3:Value} (h:fn.results=#[.cell p0 ty0,.tmp t1,.tmp t2,.tmp t3]) (hp0:e p0=.pointer (some ⟨b0,off0,none⟩)) (hm0:cs0.length=m0) (hc0:∀ j c,cs0[j]? = some c→w.cell? ⟨b0,off0+j,none⟩=some c) (ht1:e t1=v1) (ht2:e t2=v2) (ht3:e t3=v3) (hR:R (.returned (.tuple #[.agg cs0.toArray,v1,v2,v3])) w):Fin P fn n R .ret e w:=by
 refine ⟨_,fun a ha=>?_,hR⟩
 have k0:a.tmps[p0]?.getD undef=.pointer (some ⟨b0,off0,none⟩):=by simpa using (show a.tmps.getD p0 undef=.pointer (some ⟨b0,off0,none⟩) by rw [ha.get,hp0])
 have k1:a.tmps[t1]?.getD undef=v1:=by simpa using (show a.tmps.getD t1 undef=v1 by rw [ha.get,ht1])
 have k2:a.tmps[t2]?.getD undef=v2:=by simpa using (show a.tmps.getD t2 undef=v2 by rw [ha.get,ht2])
 have k3:a.tmps[t3]?.getD undef=v3:=by simpa using (show a.tmps.getD t3 undef=v3 by rw [ha.get,ht3])
 simp [results,h,k0,eE (P:=P) (t:=ty0) hm0 hc0,k1,k2,k3,asAddr]
end
def gz:Rep Bool where
 sz:=1
 rd _ cs b:=cs=[.bool b]
 own _ cs b fp:=cs=[.bool b]∧fp=[]
 rd_len h:=by subst h;rfl
 rd_one h:=by subst h;simp [Value.oneCell']
 rd_ext h _:=h
 own_rd h:=h.1
 own_ext h _:=h
 own_lt h:=by rw [h.2];simp
def u8R:Rep Int where
 sz:=1
 rd _ cs n:=cs=[.int .u8 n]
 own _ cs n fp:=cs=[.int .u8 n]∧fp=[]
 rd_len h:=by subst h;rfl
 rd_one h:=by subst h;simp [Value.oneCell']
 rd_ext h _:=h
 own_rd h:=h.1
 own_ext h _:=h
 own_lt h:=by rw [h.2];simp

def lpS {R V S:Type} (s:Sum R V) (f:R→Option S) (g:V→Option S):Option S:=match s with | .inl r=>f r | .inr v=>g v
def lpB {V S:Type} (s:V) (g:V→Option S):Option S:=g s
theorem exA {R V S:Type} {s:Sum R V} {v:V} {f:R→Option S} {g:V→Option S} {r:S} (h:some (Sum.inr v)=some s) (hK:lpS s f g=some r):g v=some r:=by cases h;exact hK
theorem exL {R V S:Type} {s:Sum R V} {q:R} {f:R→Option S} {g:V→Option S} {r:S} (h:some (Sum.inl q)=some s) (hK:lpS s f g=some r):f q=some r:=by cases h;exact hK
theorem exB {V S:Type} {s v:V} {g:V→Option S} {r:S} (h:some v=some s) (hK:lpB s g=some r):g v=some r:=by cases h;exact hK
theorem ac {α β:Type} {f:α→β} {a:α} {b:β} {l:List α} {m:List β} (h:f a=b) (t:l.map f=m):(a :: l).map f=b :: m:=by rw [List.map_cons,h,t]
theorem aj {x:Bool} (h:x=true):(!x)=false:=by rw [h];rfl
theorem ak {x:Bool} (h:x=false):(!x)=true:=by rw [h];rfl

theorem cZ {P:Program} {n:Nat} {ops:Array Oper} {K:Env→World→Prop} {rest:List Oper} {e:Env} {w:World} {op:Op} {ty:TypeId} {pos:String} {af:Array Edge} {j:Nat} {b':Bool} {d:Nat} (h:(match (ops[j]?).bind (·.dst) with | some t=>e t | none=>undef)=undef) (hd:d<n) (hK:EL P n ops K rest (upd e d undef) w):EL P n ops K (⟨some d,op,ty,pos,af,some (j,b')⟩ :: rest) e w:=by
 intro a ha
 have hy:yielded ops a.tmps j=none:=h9 ha h
 unfold wpList
 rw [if_neg (by simp [Region.wanted,hy])]
 exact hK _ (ha.put hd _)
theorem fE {P:Program} {n:Nat} {ops:Array Oper} {KQ:Env→Prop} {rest:List Oper} {e:Env} {w:World} {op:Op} {ty:TypeId} {pos:String} {af:Array Edge} {j:Nat} {b':Bool} {d:Nat} (h:(match (ops[j]?).bind (·.dst) with | some t=>e t | none=>undef)=undef) (hd:d<n) (hK:QL P n ops w KQ rest (upd e d undef)):QL P n ops w KQ (⟨some d,op,ty,pos,af,some (j,b')⟩ :: rest) e:=by
 intro a ha
 have hy:yielded ops a.tmps j=none:=h9 ha h
 unfold wpQuiet
 rw [if_neg (by simp [Region.wanted,hy])]
 exact hK _ (ha.put hd _)
theorem oc {w:World} {α:Type} {R:Rep α} {E:TypeId} {v:Value} {xs:List α} (h:(au R E).rd w [v] xs):v.oneCell'=true:=(au R E).rd_one h v (List.mem_singleton.2 rfl)
theorem bq {e:Env} {x:Operand} {v:Value} (h:ev e x=v) (h1:v.oneCell'=true):(ev e x).cells=[v].toArray:=by rw [h];exact lC h1
theorem all_cons {α:Type} {p:α→Bool} {a:α} {l:List α} (h:p a=true) (t:l.all p=true):(a :: l).all p=true:=by simp [h,t]
section
variable {w w0 wA:World} {Γ rest:List Asn} {α:Type} {R:Rep α} {E:TypeId} {v:Value} {xs:List α}
theorem Sat.top (i:Nat) {A:Asn} (h:Sat w0 w Γ) (hi:Γ[i]? = some A):Sat w0 w (A :: Γ.eraseIdx i):=by
 refine h.perm ?_
 clear h
 induction Γ generalizing i with
 | nil=>simp at hi
 | cons B Γ ih =>
  cases i with
  | zero=>simp at hi;subst hi;exact .refl _
  | succ i =>
   simp at hi
   exact (List.Perm.cons B (ih i hi)).trans (.swap _ _ _)
theorem Sat.rem (i:Nat) {A:Asn} (h:Sat w0 w Γ) (hi:Γ[i]? = some A):Sat w0 w (Γ.eraseIdx i):=(h.top i hi).tail
theorem Sat.rdAt (i:Nat) {cs:List Value} {x:α} {R:Rep α} (h:Sat w0 w Γ) (hi:Γ[i]? = some (Own R cs x)):R.rd w cs x:=(h.top i hi).rd
theorem Sat.nil (R:Rep α) (E:TypeId) (h:Sat w0 w Γ):Sat w0 w (Own (au R E) [.slice none 0 0] [] :: Γ):=h.add (.inl ⟨rfl,rfl,rfl⟩)
theorem Sat.bool (h:Sat w0 w Γ) (b:Bool):Sat w0 w (Own gz [.bool b] b :: Γ):=h.add ⟨rfl,rfl⟩
theorem Sat.u8 (h:Sat w0 w Γ) (n:Int):Sat w0 w (Own u8R [.int .u8 n] n :: Γ):=h.add ⟨rfl,rfl⟩
theorem c5 {cs:List Value} (h:(au R E).rd w cs xs):∃ v,cs=[v]:=List.length_eq_one_iff.1 ((au R E).rd_len h)
theorem cH {cs:List Value} {x:α} (h:R.rd w0 cs x) (hx:Ext w0 w):R.rd w cs x:=R.rd_ext h hx
theorem Sat.up {cs:List Value} {x:α} (hS:Sat w0 w Γ) (h:R.rd w0 cs x):R.rd w cs x:=R.rd_ext h hS.below
theorem Sat.boxAt (i:Nat) {b:Nat} {cs:List Value} (h:Sat w0 w Γ) (hi:Γ[i]? = some (Box b E cs)):∀ j c,cs[j]? = some c→w.cell? ⟨b,j,none⟩=some c:=by
 have h2:=h.top i hi
 exact h2.boxCell
theorem an {b:Nat} {cs:List Value} (h:∀ j c,cs[j]? = some c→w.cell? ⟨b,j,none⟩=some c):∀ j c,cs[j]? = some c→w.cell? ⟨b,0+j,none⟩=some c:=by
 intro j c hj;rw [Nat.zero_add];exact h j c hj
theorem Sat.boxRow (i:Nat) {b:Nat} {cs:List Value} (h:Sat w0 w Γ) (hi:Γ[i]? = some (Box b E cs)):iv w (some ⟨b,0,none⟩) cs :=
 .inr ⟨b,0,rfl,an (h.boxAt i hi)⟩
theorem Sat.lit1 {b:Nat} {cs:List Value} {y:α} (h:Sat w0 w (Box b E cs :: Own R cs y :: Γ)):Sat w0 w (Own (au R E) [.slice (some ⟨b,0,none⟩) 1 1] [y] :: Γ):=by
 refine h.join ?_
 rintro f g ⟨rfl,h1⟩ h2
 have hl:=R.rd_len (R.own_rd h2)
 refine .inr ⟨b,1,cs.toArray,cs,g,rfl,h1,by simp,by unfold maxLen;omega,by simp [hl],by simp [← hl],⟨cs,[],g,[],by simp,by simp,h2,rfl,rfl⟩,by simp⟩
theorem mD {ccs:List Value} {ys:List Int} (h:rdL aT w ccs ys):ccs=ys.map (Value.int .i64):=by
 induction ys generalizing ccs with
 | nil=>simpa [rdL] using h
 | cons y ys ih =>
  obtain ⟨ec,r,rfl,h1,h2⟩:=h
  obtain rfl:=ih h2
  have:ec=[.int .i64 y]:=h1
  rw [this];rfl
theorem mh {v:Value} {ys:List Int} (h:(au aT E).rd w [v] ys):∃ ao c,v=.slice ao ys.length c∧(ao=none→c=0)∧iv w ao (ys.map (Value.int .i64)):=by
 obtain ⟨ao,cap,ccs,hv,h1,h2,h3,h4,h5⟩:=h
 obtain rfl:=mD h4
 exact ⟨ao,cap,by simpa using hv,h3,h5⟩
end
section
variable {P:Program} {n:Nat} {ops:Array Oper} {K:Env→World→Prop} {rest:List Oper} {e:Env} {w w0 wA:World} {v:Value} {d:Nat} {ty:TypeId} {pos:String} {af:Array Edge} {Γ rΓ:List Asn} {x y:Operand} {α:Type} {R:Rep α} {E E':TypeId}
theorem jN {t:TypeId} [ht:SliceT P t E] {zz:List Value} {m bytes:Nat} [hz:ElemT P E zz m bytes] {xs:List α} (hS:Sat w0 w (Own (au R E) [v] xs :: Γ)) (hs:ev e x=v)
  (hn:R.sz=m) (hpos:0<m) {k:IntKind} {i:Int} (hi:ev e y=.int k i) {u:α} (h:ix xs i=some u) (hd:d<n)
  (hK:∀ g cap ec,v=.slice (some ⟨g,0,none⟩) xs.length cap→R.rd w ec u→(∀ j c,ec[j]? = some c→w.cell? ⟨g,i.toNat*m+j,none⟩=some c)→EL P n ops K rest (upd e d (.pointer (some ⟨g,i.toNat*m,none⟩))) w) :
  EL P n ops K (⟨some d,.indexAddr t x y,ty,pos,af,none⟩ :: rest) e w:=by
 obtain ⟨k',rfl,hk,rfl⟩:=eT h
 obtain ⟨fp,hv,_⟩:=hS.head
 rcases hv with ⟨_,h2,_⟩ | ⟨g,cap,cur,ccs,f2,hv,hg,h1,h2,h3,h4,h5,rfl⟩
 ·subst h2;simp at hk
 obtain rfl:v=.slice (some ⟨g,0,none⟩) xs.length cap:=by simpa using hv
 obtain ⟨ec,hec,hcc⟩:=gN (dN h5) k' hk
 have hz:=hz.h
 cases hq:P.info? E with
 | none=>simp [hq] at hz
 | some inf =>
  simp [hq] at hz
  have hsz:inf.size=m:=hz.2.1
  refine gZ (v:=.pointer (some ⟨g,k'*m,none⟩)) ?_ hd ?_
  ·intro w' _
   unfold execOp
   simp [hs,hi,Instr.indexAt,asIntOf,run_underlying ht.h,sizeOf,typeInfo,hq,hk,Addr.add_lit,hsz]
  ·refine hK g cap ec rfl hec ?_
   intro j c hj
   have h0:=hcc j c hj
   simp only [Int.toNat_natCast]
   rw [cell_of_row w g _ cur E (0,0) hg,← Array.getElem?_toList]
   rw [← h4,List.getElem?_take] at h0
   rw [← hn]
   split at h0
   ·exact h0
   ·cases h0
theorem fX {t:TypeId} {z:List Value} {m bytes:Nat} [ElemT P t z m bytes] (hn:R.sz=m) {ec:List Value} {yv:α} {xs ys:List α} {g ln cap:Nat} (hv:v=.slice (some ⟨g,0,none⟩) ln cap)
  (hS:Sat w0 w (Own R ec yv :: Own (au R E) [v] xs :: Γ)) {i:Int} (h:sto xs i yv=some ys) (hx:ev e x=.pointer (some ⟨g,i.toNat*m,none⟩)) (hy:(ev e y).cells=ec.toArray)
  (hK:∀ w',Sat w0 w' (Own (au R E) [v] ys :: Γ)→EL P n ops K rest e w'):EL P n ops K (⟨none,.store t x y,ty,pos,af,none⟩ :: rest) e w:=by
 subst hv
 have h0:0≤i:=by
  unfold sto at h;split at h
  ·rename_i h1;exact h1.1
  ·cases h
 exact l8 hn hS i.toNat (i.toNat*m) (by omega) h rfl hx hy hK
end
class BldT (P:Program) (t:TypeId) (pl:outParam (Array (Nat × Nat))):Prop where
 h:∃ fs,P.underlying t=some (.struct fs)∧∀ w,(fs.mapM (fun f=>do pure (f.offset,← sizeOf f.type)):Sem (Array (Nat × Nat))).run P w=.ok pl w
def gU (place:Nat→Option (Nat × Nat)) (cells:List Value):List (Nat × List Value)→Option (List Value)
  | []=>some cells
  | (i,v) :: rest=>match place i with
    | none=>none
    | some (off,size)=>bif Nat.beq v.length size&&Nat.ble (off+v.length) cells.length then gU place (cells.take off++v++cells.drop (off+v.length)) rest else none
theorem jV:∀ (v:List Value) (off k:Nat) (cells:List Value),off+k+v.length≤cells.length →
  ((v.zipIdx k).foldl (fun (cs:Array Value) (c:Value × Nat)=>cs.setIfInBounds (off+c.2) c.1) cells.toArray)=(cells.take (off+k)++v++cells.drop (off+k+v.length)).toArray
 | [],off,k,cells,h=>by simp
 | x :: v,off,k,cells,h=>by
  simp only [List.length_cons] at h
  have hi:off+k<cells.length:=by omega
  simp only [List.zipIdx_cons,List.foldl_cons,List.setIfInBounds_toArray]
  rw [jV v off (k+1) (cells.set (off+k) x) (by simp;omega)]
  have e1:(cells.set (off+k) x).take (off+(k+1))=cells.take (off+k)++[x]:=by
   rw [show off+(k+1)=(off+k)+1 by omega,List.take_set,List.take_succ_eq_append_getElem hi,List.set_append_right _ _ (by simp;omega)]
   simp [show min (off+k) cells.length=off+k by omega]
  have e2:(cells.set (off+k) x).drop (off+(k+1)+v.length)=cells.drop (off+k+(x :: v).length):=by
   rw [List.drop_set_of_lt (by omega)]
   congr 1
   simp only [List.length_cons];omega
  rw [e1,e2];simp
theorem jL (place:Nat→Option (Nat × Nat)):∀ (ps:List (Nat × Value)) (qs:List (Nat × List Value)) (cells:List Value) {r:List Value},ps.map (fun p=>(p.1,p.2.cells))=qs.map (fun q=>(q.1,q.2.toArray))→gU place cells qs=some r→Instr.fill place cells.toArray ps=some r.toArray
  | [],[],cells,r,_,h=>by simp only [gU,Option.some.injEq] at h;subst h;rfl
  | [],_ :: _,_,_,h,_=>by simp at h
  | _ :: _,[],_,_,h,_=>by simp at h
  | (i,v) :: ps,(j,c) :: qs,cells,r,h,hf=>by
    simp only [List.map_cons,List.cons.injEq,Prod.mk.injEq] at h
    obtain ⟨⟨rfl,hc⟩,ht⟩:=h
    unfold gU at hf
    unfold Instr.fill
    cases hp:place i with
    | none=>simp [hp] at hf
    | some os =>
      obtain ⟨off,size⟩:=os
      simp only [hp] at hf ⊢
      cases hb:(Nat.beq c.length size&&Nat.ble (off+c.length) cells.length) with
      | false=>rw [hb] at hf;cases hf
      | true =>
        rw [hb] at hf
        simp only [Bool.and_eq_true] at hb
        have h1:=Nat.eq_of_beq_eq_true hb.1
        have h2:=Nat.le_of_ble_eq_true hb.2
        rw [hc]
        have hn:(decide (c.toArray.size≠size)||decide (off+c.toArray.size > cells.toArray.size))=false:=by simp;omega
        rw [if_neg (by simp only [hn];simp)]
        have:=jV c off 0 cells (by omega)
        simp only [Nat.add_zero] at this
        have e:c.toArray.zipIdx.foldl (fun cs (c,j)=>cs.setIfInBounds (off+j) c) cells.toArray=(cells.take off++c++cells.drop (off+c.length)).toArray:=by
          rw [← this]
          simp
        rw [e]
        exact jL place ps qs _ ht hf
theorem aJ {P:Program} {e:Env} {w:World} {d:Option Nat} {ty:TypeId} {pos:String} {af:Array Edge} {t:TypeId} {z:List Value} {n bytes:Nat} {pl:Array (Nat × Nat)} [hz:ElemT P t z n bytes] [hb:BldT P t pl] {parts:Array (Nat × Operand)} (qs:List (Nat × List Value)) (r:List Value)
  (hp:parts.toList.map (fun p=>(p.1,(ev e p.2).cells))=qs.map (fun q=>(q.1,q.2.toArray))) (hf:gU (pl[·]?) z qs=some r):PV P ⟨d,.build t parts,ty,pos,af,none⟩ e w (.agg r.toArray):=fun w' _=>by
 have hz:=hz.h
 obtain ⟨fs,h1,h2⟩:=hb.h
 cases hi:P.info? t with
 | none=>simp [hi] at hz
 | some i =>
 cases hzz:i.zero with
 | none=>simp [hi,hzz] at hz
 | some zv =>
 simp [hi,hzz] at hz
 have hzc:zv.cells=z.toArray:=by rw [← hz.1]
 have hff:=jL (pl[·]?) (parts.toList.map fun p=>(p.1,ev e p.2)) qs z (by rw [List.map_map];exact hp) hf
 unfold execOp
 simp only [Instr.build,zeroValue,typeInfo,hi,hzz,Sem.run_bind,Sem.run_pure,run_program,Result.andThen_ok,run_underlying h1,h2,hzc,Array.toList_map]
 rw [hff]
 simp
theorem dG {e:Env} {i:Nat} {x:Operand} {c:List Value} {l:List (Nat × Operand)} {m:List (Nat × List Value)} (h:(ev e x).cells=c.toArray) (t:l.map (fun p=>(p.1,(ev e p.2).cells))=m.map (fun q=>(q.1,q.2.toArray))) :
  ((i,x) :: l).map (fun p=>(p.1,(ev e p.2).cells))=((i,c) :: m).map (fun q=>(q.1,q.2.toArray)):=by
 rw [List.map_cons,List.map_cons,t,h]
-- int64
instance:PlainT Try.prog 2:=⟨_,Try.underlying2,trivial⟩
instance:ElemT Try.prog 2 [.int .i64 0] 1 8:=⟨by kernel_rfl⟩
-- int
instance:PlainT Try.prog 3:=⟨_,Try.underlying3,trivial⟩
instance:ElemT Try.prog 3 [.int .i64 0] 1 8:=⟨by kernel_rfl⟩
-- bool
instance:PlainT Try.prog 4:=⟨_,Try.underlying4,trivial⟩
instance:ElemT Try.prog 4 [.bool false] 1 1:=⟨by kernel_rfl⟩
-- uint8
instance:PlainT Try.prog 5:=⟨_,Try.underlying5,trivial⟩
instance:ElemT Try.prog 5 [.int .u8 0] 1 1:=⟨by kernel_rfl⟩
-- string
instance:PlainT Try.prog 9:=⟨_,Try.underlying9,trivial⟩
instance:ElemT Try.prog 9 [.string ByteArray.empty] 1 16:=⟨by kernel_rfl⟩
-- uintptr
instance:PlainT Try.prog 12:=⟨_,Try.underlying12,trivial⟩
instance:ElemT Try.prog 12 [.int .u64 0] 1 8:=⟨by kernel_rfl⟩
-- int32
instance:PlainT Try.prog 21:=⟨_,Try.underlying21,trivial⟩
instance:ElemT Try.prog 21 [.int .i32 0] 1 4:=⟨by kernel_rfl⟩
-- []uint8
instance:PlainT Try.prog 22:=⟨_,Try.underlying22,trivial⟩
instance:SliceT Try.prog 22 5:=⟨Try.underlying22⟩
instance:ElemT Try.prog 22 [.slice none 0 0] 1 24:=⟨by kernel_rfl⟩
-- [][]int
instance:PlainT Try.prog 24:=⟨_,Try.underlying24,trivial⟩
instance:SliceT Try.prog 24 30:=⟨Try.underlying24⟩
instance:ElemT Try.prog 24 [.slice none 0 0] 1 24:=⟨by kernel_rfl⟩
-- struct { Arity int;Rows [][]int }
instance:AggT Try.prog 25 2:=⟨⟨_,Try.underlying25,trivial⟩,by kernel_rfl⟩
instance:FldT Try.prog 25 0 0:=⟨_,_,Try.underlying25,rfl,rfl,by kernel_rfl⟩
instance:FldT Try.prog 25 1 1:=⟨_,_,Try.underlying25,rfl,rfl,by kernel_rfl⟩
instance:BldT Try.prog 25 #[(0,1),(1,1)]:=⟨_,Try.underlying25,fun w=>by kernel_rfl⟩
instance:ElemT Try.prog 25 [.int .i64 0,.slice none 0 0] 2 32:=⟨by kernel_rfl⟩
-- impl.Relation
instance:AggT Try.prog 26 2:=⟨⟨_,Try.underlying26,trivial⟩,by kernel_rfl⟩
instance:FldT Try.prog 26 0 0:=⟨_,_,Try.underlying26,rfl,rfl,by kernel_rfl⟩
instance:FldT Try.prog 26 1 1:=⟨_,_,Try.underlying26,rfl,rfl,by kernel_rfl⟩
instance:BldT Try.prog 26 #[(0,1),(1,1)]:=⟨_,Try.underlying26,fun w=>by kernel_rfl⟩
instance:ElemT Try.prog 26 [.int .i64 0,.slice none 0 0] 2 32:=⟨by kernel_rfl⟩
-- []int
instance:PlainT Try.prog 30:=⟨_,Try.underlying30,trivial⟩
instance:SliceT Try.prog 30 3:=⟨Try.underlying30⟩
instance:ElemT Try.prog 30 [.slice none 0 0] 1 24:=⟨by kernel_rfl⟩
-- []impl.FactorNode
instance:PlainT Try.prog 31:=⟨_,Try.underlying31,trivial⟩
instance:SliceT Try.prog 31 74:=⟨Try.underlying31⟩
instance:ElemT Try.prog 31 [.slice none 0 0] 1 24:=⟨by kernel_rfl⟩
-- struct { Order []int;Nodes []impl.FactorNode }
instance:AggT Try.prog 32 2:=⟨⟨_,Try.underlying32,trivial⟩,by kernel_rfl⟩
instance:FldT Try.prog 32 0 0:=⟨_,_,Try.underlying32,rfl,rfl,by kernel_rfl⟩
instance:FldT Try.prog 32 1 1:=⟨_,_,Try.underlying32,rfl,rfl,by kernel_rfl⟩
instance:BldT Try.prog 32 #[(0,1),(1,1)]:=⟨_,Try.underlying32,fun w=>by kernel_rfl⟩
instance:ElemT Try.prog 32 [.slice none 0 0,.slice none 0 0] 2 48:=⟨by kernel_rfl⟩
-- impl.Factorization
instance:AggT Try.prog 33 2:=⟨⟨_,Try.underlying33,trivial⟩,by kernel_rfl⟩
instance:FldT Try.prog 33 0 0:=⟨_,_,Try.underlying33,rfl,rfl,by kernel_rfl⟩
instance:FldT Try.prog 33 1 1:=⟨_,_,Try.underlying33,rfl,rfl,by kernel_rfl⟩
instance:BldT Try.prog 33 #[(0,1),(1,1)]:=⟨_,Try.underlying33,fun w=>by kernel_rfl⟩
instance:ElemT Try.prog 33 [.slice none 0 0,.slice none 0 0] 2 48:=⟨by kernel_rfl⟩
-- []impl.Atom
instance:PlainT Try.prog 42:=⟨_,Try.underlying42,trivial⟩
instance:SliceT Try.prog 42 112:=⟨Try.underlying42⟩
instance:ElemT Try.prog 42 [.slice none 0 0] 1 24:=⟨by kernel_rfl⟩
-- struct { VariableCount int;Atoms []impl.Atom;Output []int }
instance:AggT Try.prog 43 3:=⟨⟨_,Try.underlying43,trivial⟩,by kernel_rfl⟩
instance:FldT Try.prog 43 0 0:=⟨_,_,Try.underlying43,rfl,rfl,by kernel_rfl⟩
instance:FldT Try.prog 43 1 1:=⟨_,_,Try.underlying43,rfl,rfl,by kernel_rfl⟩
instance:FldT Try.prog 43 2 2:=⟨_,_,Try.underlying43,rfl,rfl,by kernel_rfl⟩
instance:BldT Try.prog 43 #[(0,1),(1,1),(2,1)]:=⟨_,Try.underlying43,fun w=>by kernel_rfl⟩
instance:ElemT Try.prog 43 [.int .i64 0,.slice none 0 0,.slice none 0 0] 3 56:=⟨by kernel_rfl⟩
-- impl.Query
instance:AggT Try.prog 44 3:=⟨⟨_,Try.underlying44,trivial⟩,by kernel_rfl⟩
instance:FldT Try.prog 44 0 0:=⟨_,_,Try.underlying44,rfl,rfl,by kernel_rfl⟩
instance:FldT Try.prog 44 1 1:=⟨_,_,Try.underlying44,rfl,rfl,by kernel_rfl⟩
instance:FldT Try.prog 44 2 2:=⟨_,_,Try.underlying44,rfl,rfl,by kernel_rfl⟩
instance:BldT Try.prog 44 #[(0,1),(1,1),(2,1)]:=⟨_,Try.underlying44,fun w=>by kernel_rfl⟩
instance:ElemT Try.prog 44 [.int .i64 0,.slice none 0 0,.slice none 0 0] 3 56:=⟨by kernel_rfl⟩
-- []impl.Rational
instance:PlainT Try.prog 45:=⟨_,Try.underlying45,trivial⟩
instance:SliceT Try.prog 45 114:=⟨Try.underlying45⟩
instance:ElemT Try.prog 45 [.slice none 0 0] 1 24:=⟨by kernel_rfl⟩
-- struct { Values []int;Children []int }
instance:AggT Try.prog 73 2:=⟨⟨_,Try.underlying73,trivial⟩,by kernel_rfl⟩
instance:FldT Try.prog 73 0 0:=⟨_,_,Try.underlying73,rfl,rfl,by kernel_rfl⟩
instance:FldT Try.prog 73 1 1:=⟨_,_,Try.underlying73,rfl,rfl,by kernel_rfl⟩
instance:BldT Try.prog 73 #[(0,1),(1,1)]:=⟨_,Try.underlying73,fun w=>by kernel_rfl⟩
instance:ElemT Try.prog 73 [.slice none 0 0,.slice none 0 0] 2 48:=⟨by kernel_rfl⟩
-- impl.FactorNode
instance:AggT Try.prog 74 2:=⟨⟨_,Try.underlying74,trivial⟩,by kernel_rfl⟩
instance:FldT Try.prog 74 0 0:=⟨_,_,Try.underlying74,rfl,rfl,by kernel_rfl⟩
instance:FldT Try.prog 74 1 1:=⟨_,_,Try.underlying74,rfl,rfl,by kernel_rfl⟩
instance:BldT Try.prog 74 #[(0,1),(1,1)]:=⟨_,Try.underlying74,fun w=>by kernel_rfl⟩
instance:ElemT Try.prog 74 [.slice none 0 0,.slice none 0 0] 2 48:=⟨by kernel_rfl⟩
-- struct { Digits []int }
instance:AggT Try.prog 87 1:=⟨⟨_,Try.underlying87,trivial⟩,by kernel_rfl⟩
instance:FldT Try.prog 87 0 0:=⟨_,_,Try.underlying87,rfl,rfl,by kernel_rfl⟩
instance:BldT Try.prog 87 #[(0,1)]:=⟨_,Try.underlying87,fun w=>by kernel_rfl⟩
instance:ElemT Try.prog 87 [.slice none 0 0] 1 24:=⟨by kernel_rfl⟩
-- impl.BigInt
instance:AggT Try.prog 88 1:=⟨⟨_,Try.underlying88,trivial⟩,by kernel_rfl⟩
instance:FldT Try.prog 88 0 0:=⟨_,_,Try.underlying88,rfl,rfl,by kernel_rfl⟩
instance:BldT Try.prog 88 #[(0,1)]:=⟨_,Try.underlying88,fun w=>by kernel_rfl⟩
instance:ElemT Try.prog 88 [.slice none 0 0] 1 24:=⟨by kernel_rfl⟩
-- struct { b []uint8;i int;h int }
instance:AggT Try.prog 100 3:=⟨⟨_,Try.underlying100,trivial⟩,by kernel_rfl⟩
instance:FldT Try.prog 100 0 0:=⟨_,_,Try.underlying100,rfl,rfl,by kernel_rfl⟩
instance:FldT Try.prog 100 1 1:=⟨_,_,Try.underlying100,rfl,rfl,by kernel_rfl⟩
instance:FldT Try.prog 100 2 2:=⟨_,_,Try.underlying100,rfl,rfl,by kernel_rfl⟩
instance:BldT Try.prog 100 #[(0,1),(1,1),(2,1)]:=⟨_,Try.underlying100,fun w=>by kernel_rfl⟩
instance:ElemT Try.prog 100 [.slice none 0 0,.int .i64 0,.int .i64 0] 3 40:=⟨by kernel_rfl⟩
-- spec.l1Cur
instance:AggT Try.prog 101 3:=⟨⟨_,Try.underlying101,trivial⟩,by kernel_rfl⟩
instance:FldT Try.prog 101 0 0:=⟨_,_,Try.underlying101,rfl,rfl,by kernel_rfl⟩
instance:FldT Try.prog 101 1 1:=⟨_,_,Try.underlying101,rfl,rfl,by kernel_rfl⟩
instance:FldT Try.prog 101 2 2:=⟨_,_,Try.underlying101,rfl,rfl,by kernel_rfl⟩
instance:BldT Try.prog 101 #[(0,1),(1,1),(2,1)]:=⟨_,Try.underlying101,fun w=>by kernel_rfl⟩
instance:ElemT Try.prog 101 [.slice none 0 0,.int .i64 0,.int .i64 0] 3 40:=⟨by kernel_rfl⟩
-- []string
instance:PlainT Try.prog 110:=⟨_,Try.underlying110,trivial⟩
instance:SliceT Try.prog 110 9:=⟨Try.underlying110⟩
instance:ElemT Try.prog 110 [.slice none 0 0] 1 24:=⟨by kernel_rfl⟩
-- struct { Relation string;Vars []int }
instance:AggT Try.prog 111 2:=⟨⟨_,Try.underlying111,trivial⟩,by kernel_rfl⟩
instance:FldT Try.prog 111 0 0:=⟨_,_,Try.underlying111,rfl,rfl,by kernel_rfl⟩
instance:FldT Try.prog 111 1 1:=⟨_,_,Try.underlying111,rfl,rfl,by kernel_rfl⟩
instance:BldT Try.prog 111 #[(0,1),(1,1)]:=⟨_,Try.underlying111,fun w=>by kernel_rfl⟩
instance:ElemT Try.prog 111 [.string ByteArray.empty,.slice none 0 0] 2 40:=⟨by kernel_rfl⟩
-- impl.Atom
instance:AggT Try.prog 112 2:=⟨⟨_,Try.underlying112,trivial⟩,by kernel_rfl⟩
instance:FldT Try.prog 112 0 0:=⟨_,_,Try.underlying112,rfl,rfl,by kernel_rfl⟩
instance:FldT Try.prog 112 1 1:=⟨_,_,Try.underlying112,rfl,rfl,by kernel_rfl⟩
instance:BldT Try.prog 112 #[(0,1),(1,1)]:=⟨_,Try.underlying112,fun w=>by kernel_rfl⟩
instance:ElemT Try.prog 112 [.string ByteArray.empty,.slice none 0 0] 2 40:=⟨by kernel_rfl⟩
-- struct { Num int;Den int }
instance:AggT Try.prog 113 2:=⟨⟨_,Try.underlying113,trivial⟩,by kernel_rfl⟩
instance:FldT Try.prog 113 0 0:=⟨_,_,Try.underlying113,rfl,rfl,by kernel_rfl⟩
instance:FldT Try.prog 113 1 1:=⟨_,_,Try.underlying113,rfl,rfl,by kernel_rfl⟩
instance:BldT Try.prog 113 #[(0,1),(1,1)]:=⟨_,Try.underlying113,fun w=>by kernel_rfl⟩
instance:ElemT Try.prog 113 [.int .i64 0,.int .i64 0] 2 16:=⟨by kernel_rfl⟩
-- impl.Rational
instance:AggT Try.prog 114 2:=⟨⟨_,Try.underlying114,trivial⟩,by kernel_rfl⟩
instance:FldT Try.prog 114 0 0:=⟨_,_,Try.underlying114,rfl,rfl,by kernel_rfl⟩
instance:FldT Try.prog 114 1 1:=⟨_,_,Try.underlying114,rfl,rfl,by kernel_rfl⟩
instance:BldT Try.prog 114 #[(0,1),(1,1)]:=⟨_,Try.underlying114,fun w=>by kernel_rfl⟩
instance:ElemT Try.prog 114 [.int .i64 0,.int .i64 0] 2 16:=⟨by kernel_rfl⟩
-- []bool
instance:PlainT Try.prog 120:=⟨_,Try.underlying120,trivial⟩
instance:SliceT Try.prog 120 4:=⟨Try.underlying120⟩
instance:ElemT Try.prog 120 [.slice none 0 0] 1 24:=⟨by kernel_rfl⟩
-- []impl.Table
instance:PlainT Try.prog 136:=⟨_,Try.underlying136,trivial⟩
instance:SliceT Try.prog 136 164:=⟨Try.underlying136⟩
instance:ElemT Try.prog 136 [.slice none 0 0] 1 24:=⟨by kernel_rfl⟩
-- struct { Tables []impl.Table }
instance:AggT Try.prog 137 1:=⟨⟨_,Try.underlying137,trivial⟩,by kernel_rfl⟩
instance:FldT Try.prog 137 0 0:=⟨_,_,Try.underlying137,rfl,rfl,by kernel_rfl⟩
instance:BldT Try.prog 137 #[(0,1)]:=⟨_,Try.underlying137,fun w=>by kernel_rfl⟩
instance:ElemT Try.prog 137 [.slice none 0 0] 1 24:=⟨by kernel_rfl⟩
-- impl.Database
instance:AggT Try.prog 138 1:=⟨⟨_,Try.underlying138,trivial⟩,by kernel_rfl⟩
instance:FldT Try.prog 138 0 0:=⟨_,_,Try.underlying138,rfl,rfl,by kernel_rfl⟩
instance:BldT Try.prog 138 #[(0,1)]:=⟨_,Try.underlying138,fun w=>by kernel_rfl⟩
instance:ElemT Try.prog 138 [.slice none 0 0] 1 24:=⟨by kernel_rfl⟩
-- uint
instance:PlainT Try.prog 143:=⟨_,Try.underlying143,trivial⟩
instance:ElemT Try.prog 143 [.int .u64 0] 1 8:=⟨by kernel_rfl⟩
-- []impl.Trie
instance:PlainT Try.prog 157:=⟨_,Try.underlying157,trivial⟩
instance:SliceT Try.prog 157 167:=⟨Try.underlying157⟩
instance:ElemT Try.prog 157 [.slice none 0 0] 1 24:=⟨by kernel_rfl⟩
-- struct { Name string;Relation impl.Relation }
instance:AggT Try.prog 163 3:=⟨⟨_,Try.underlying163,trivial⟩,by kernel_rfl⟩
instance:FldT Try.prog 163 0 0:=⟨_,_,Try.underlying163,rfl,rfl,by kernel_rfl⟩
instance:FldT Try.prog 163 1 1:=⟨_,_,Try.underlying163,rfl,rfl,by kernel_rfl⟩
instance:BldT Try.prog 163 #[(0,1),(1,2)]:=⟨_,Try.underlying163,fun w=>by kernel_rfl⟩
instance:ElemT Try.prog 163 [.string ByteArray.empty,.int .i64 0,.slice none 0 0] 3 48:=⟨by kernel_rfl⟩
-- impl.Table
instance:AggT Try.prog 164 3:=⟨⟨_,Try.underlying164,trivial⟩,by kernel_rfl⟩
instance:FldT Try.prog 164 0 0:=⟨_,_,Try.underlying164,rfl,rfl,by kernel_rfl⟩
instance:FldT Try.prog 164 1 1:=⟨_,_,Try.underlying164,rfl,rfl,by kernel_rfl⟩
instance:BldT Try.prog 164 #[(0,1),(1,2)]:=⟨_,Try.underlying164,fun w=>by kernel_rfl⟩
instance:ElemT Try.prog 164 [.string ByteArray.empty,.int .i64 0,.slice none 0 0] 3 48:=⟨by kernel_rfl⟩
-- impl.Trie
instance:AggT Try.prog 167 2:=⟨⟨_,Try.underlying167,trivial⟩,by kernel_rfl⟩
instance:FldT Try.prog 167 0 0:=⟨_,_,Try.underlying167,rfl,rfl,by kernel_rfl⟩
instance:FldT Try.prog 167 1 1:=⟨_,_,Try.underlying167,rfl,rfl,by kernel_rfl⟩
instance:BldT Try.prog 167 #[(0,1),(1,1)]:=⟨_,Try.underlying167,fun w=>by kernel_rfl⟩
instance:ElemT Try.prog 167 [.int .i64 0,.slice none 0 0] 2 32:=⟨by kernel_rfl⟩
-- uint32
instance:PlainT Try.prog 197:=⟨_,Try.underlying197,trivial⟩
instance:ElemT Try.prog 197 [.int .u32 0] 1 4:=⟨by kernel_rfl⟩
def AL (P:Program) (n:Nat) (ops:Array Oper) (X:List Nat) (C:World→Prop) (K:Env→World→Prop):Nat→Array Bool→Env→World→Prop
 | 0,L,e,w=>Region.ready .any ops L=[]∧K e w
 | f+1,L,e,w=>(Region.ready .any ops L=[]→K e w) ∧
  ∀ i∈Region.ready .any ops L,∃ o,ops[i]? = some o∧EL P n ops (fun e' w'=>(X.contains i=true→C w')∧AL P n ops X C K f (L.setIfInBounds i true) e' w') [o] e w

section
variable {P:Program} {n:Nat} {ops:Array Oper} {X:List Nat} {C:World→Prop} {K:Env→World→Prop}
theorem ow {o:Oper} {a:Act} {w:World} {N N2:Act→World→Prop} {K1 K2:Env→World→Prop} (h:∀ a w,N a w→N2 a w) (hh:o.wp P a w N (nrm n K1)):o.wp P a w N2 (nrm n K2):=by
  unfold Oper.wp at *
  generalize (execOp a.eval o).run P w=r at *
  cases r with
  | ok m w' =>
    cases m <;> simp only [Oper.upon] at hh ⊢ <;>
      first
        | exact h _ _ hh
        | exact Calls.mono hh (fun e w'' he=>by
            cases e with
            | returned v=>exact h _ _ he
            | panicked ch=>exact absurd he.1 (by simp)
            | outgrown=>obtain ⟨_,_,hx,_⟩:=he;exact absurd hx (by simp))
        | exact Rows.mono hh (fun _ _ he=>h _ _ he)
  | halt x w' =>
    cases x <;> simp only [Oper.upon] at hh ⊢
    exact absurd hh.1 (by simp)
theorem lB {K:Env→World→Prop}:¬ LetsOut (nrm n K):=by
 rintro ⟨_,_,h,_⟩;exact absurd h (by simp)
theorem AL.any:∀ (f:Nat) (L:Array Bool) (e:Env) (a:Act) (w:World),Mt n e a→AL P n ops X C K f L e w→wpAny P .any ops (nrm n K) f L a w
 | 0,_,e,a,_,ha,h=>⟨h.1,rfl,e,ha,h.2⟩
 | f+1,L,e,a,w,ha,h=>by
  refine ⟨fun h0=>⟨rfl,e,ha,h.1 h0⟩,fun i hi=>?_⟩
  obtain ⟨o,ho,hE⟩:=h.2 i hi
  have:=hE a ha
  unfold wpOp
  simp only [ho]
  unfold wpList at this
  have key:∀ a w,wpList P ops (nrm n fun e' w'=>(X.contains i=true→C w')∧AL P n ops X C K f (L.setIfInBounds i true) e' w') [] a w→wpAny P .any ops (nrm n K) f (L.setIfInBounds i true) a w:=by
   rintro a w ⟨_,e',ha',_,h2⟩
   exact AL.any f _ e' a w ha' h2
  split
  ·rename_i hw
   rw [if_pos hw] at this
   rcases this with h1 | ⟨_,h1⟩
   ·exact .inl (ow key h1)
   ·exact absurd h1 lB
  ·rename_i hw
   rw [if_neg hw] at this
   exact key _ _ this
theorem di {id:Nat} {l:List Oper} {Q:Exit→Env→World→Prop} {e:Env} {w:World} (X:List Nat) (C:World→Prop) (hm:P.follows .mixedOrders=true)
  (hx:∀ w',Ext w w'→AL P n l.toArray X C (fun e w=>Q .normal e w) l.length (Array.replicate l.length false) e w'):CW P n (.region id l.toArray true) Q e w:=by
 intro a ha
 have h2:=hx { w with drawn:=w.drawn+1 } ⟨rfl,rfl,rfl,Nat.le_refl _,fun _ _=>rfl⟩
 have:=AL.any _ _ _ a _ ha h2
 refine wp_mono (wp_region_any (Q:=nrm n fun e w=>Q .normal e w) hm (by simpa using this)) ?_
 rintro x a w ⟨rfl,e,he,hk⟩
 exact ⟨e,he,hk⟩

def SV (P:Program) (n:Nat) (ops:Array Oper) (C:World→Prop) (o:Oper) (e:Env) (v:Value):Prop :=
 ∀ a,Mt n e a→(Region.wanted o (yielded ops a.tmps)=true∧∀ w',C w'→(execOp a.eval o).run P w'=.ok (.value v) w')∨(Region.wanted o (yielded ops a.tmps)=false∧v=undef)
def io (ops:Array Oper) (X:List Nat) (L:Array Bool) (i:Nat) (o:Oper):Bool :=
 (List.range ops.size).all fun j=>Nat.beq j i||L.getD j true||(match ops[j]? with
  | some oj=>oj.after.any (fun e=>Region.binds .any e&&Nat.beq e.on i)||(o.apart ops oj&&X.contains j)
  | none=>true)
theorem gx {L:Array Bool} {i:Nat}:i∈Region.ready .any ops L↔L.getD i true=false∧∃ o,ops[i]? = some o∧∀ e∈o.after,Region.binds .any e=true→L.getD e.on false=true:=by
 unfold Region.ready
 simp only [List.mem_filter,List.mem_range,Bool.and_eq_true,Bool.not_eq_true']
 constructor
 ·rintro ⟨h1,h2,h3⟩
  refine ⟨h2,ops[i],Array.getElem?_eq_getElem h1,fun e he hb=>?_⟩
  rw [Array.getElem?_eq_getElem h1] at h3
  simp only [Option.map_some,Option.getD_some,Array.all_eq_true_iff_forall_mem] at h3
  have:=h3 e he
  simpa [hb] using this
 ·rintro ⟨h2,o,h1,h3⟩
  obtain ⟨hlt,rfl⟩:=Array.getElem?_eq_some_iff.1 h1
  refine ⟨hlt,h2,?_⟩
  rw [h1]
  simp only [Option.map_some,Option.getD_some,Array.all_eq_true_iff_forall_mem]
  intro e he
  by_cases hb:Region.binds .any e=true
  ·simp [h3 e he hb]
  ·simp [hb]
theorem gH {L:Array Bool} {i j:Nat} {d:Bool} (h:j≠i):(L.setIfInBounds i true).getD j d=L.getD j d:=by
 simp [Array.getElem?_setIfInBounds_ne (Ne.symm h)]
theorem kz {L:Array Bool} {i j:Nat} (h:L.getD j false=true):(L.setIfInBounds i true).getD j false=true:=by
 by_cases hj:j=i
 ·subst hj
  have:j<L.size:=by
   rcases Nat.lt_or_ge j L.size with h1 | h1
   ·exact h1
   ·simp [Array.getElem?_eq_none h1] at h
  simp [this]
 ·rw [gH hj];exact h
theorem ij {L:Array Bool} {i j:Nat} (hij:j≠i) (h:j∈Region.ready .any ops L):j∈Region.ready .any ops (L.setIfInBounds i true):=by
 obtain ⟨h1,o,h2,h3⟩:=gx.1 h
 exact gx.2 ⟨by rw [gH hij];exact h1,o,h2,fun e he hb=>kz (h3 e he hb)⟩
theorem mu (L:Array Bool) (i j:Nat):(L.setIfInBounds i true).setIfInBounds j true=(L.setIfInBounds j true).setIfInBounds i true:=by
 by_cases h:i=j
 ·subst h;rfl
 ·exact Array.setIfInBounds_comm _ _ h
theorem mm {L:Array Bool} {i j:Nat} {o:Oper} (h:io ops X L i o=true):io ops X (L.setIfInBounds j true) i o=true:=by
 unfold io at *
 rw [List.all_eq_true] at *
 intro k hk
 have:=h k hk
 by_cases hkj:k=j
 ·subst hkj
  have:k<ops.size:=by simpa using hk
  by_cases hkl:k<L.size
  ·simp [hkl]
  ·have hn:L[k]? = none:=Array.getElem?_eq_none (by omega)
   simp [hkl]
 ·rw [gH hkj];exact this
def mM (a:Act):Env:=fun t=>a.tmps.getD t undef
theorem oL {a:Act} (h1:a.tmps.size=n) (h2:a.defers=[]):Mt n (mM a) a:=⟨h1,h2,fun _=>rfl⟩
theorem Mt.uniq {a:Act} {e e':Env} (h:Mt n e a) (h':Mt n e' a):e=e':=by funext t;rw [← h.get,← h'.get]
theorem ms (a:Act) (d:Option Nat) (v:Value):(a.put d v).tmps.size=a.tmps.size:=by cases d <;> simp [Act.put]
theorem nC (a:Act) (d:Option Nat) (v:Value):(a.put d v).defers=a.defers:=by cases d <;> rfl
theorem ka {a b:Act} (h:∀ t,a.tmps.getD t undef=b.tmps.getD t undef) (hs:a.tmps.size=b.tmps.size):a.tmps=b.tmps:=by
 apply Array.ext hs
 intro i h1 h2
 have:=h i
 simpa [Array.getD,h1,h2] using this
theorem mq {o:Oper} {a a':Act} {N N2:Act→World→Prop} {K1 K2:Env→World→Prop} (h:∀ u w,N (a'.put o.dst u) w→N2 (a.put o.dst u) w) (hd:∀ d u w,¬ N (({ a' with defers:=d :: a'.defers }:Act).put o.dst u) w) {r:Result Next}
    (hh:o.upon P a' N (nrm n K1) r):o.upon P a N2 (nrm n K2) r:=by
  cases r with
  | ok m w' =>
    cases m <;> simp only [Oper.upon] at hh ⊢ <;>
      first
        | exact h _ _ hh
        | exact absurd hh (hd _ _ _)
        | exact Calls.mono hh (fun e w'' he=>by
            cases e with
            | returned v=>exact h _ _ he
            | panicked ch=>exact absurd he.1 (by simp)
            | outgrown=>obtain ⟨_,_,hx,_⟩:=he;exact absurd hx (by simp))
        | exact Rows.mono hh (fun _ _ he=>h _ _ he)
  | halt x w' =>
    cases x <;> simp only [Oper.upon] at hh ⊢
    exact absurd hh.1 (by simp)
def iy (ops:Array Oper):Bool:=ops.all fun o=>match o.op with | .select ..=>false | _=>true
theorem kf (h:iy ops=true) {i:Nat} {o:Oper} (hi:ops[i]? = some o):∀ cs b,o.op≠.select cs b:=by
 intro cs b e
 unfold iy at h
 rw [Array.all_eq_true_iff_forall_mem] at h
 have:=h o (Array.mem_of_getElem? hi)
 simp [e] at this
theorem nE (hsel:iy ops=true) (i:Nat) {o:Oper} {d:Nat} {v:Value} (hi:ops[i]? = some o) (hdst:o.dst=some d) (hdn:d<n) :
  ∀ (f:Nat) (L:Array Bool) (e:Env) (w:World),C w→io ops X L i o=true→i∈Region.ready .any ops L→SV P n ops C o e v→AL P n ops X C K f (L.setIfInBounds i true) (upd e d v) w→AL P n ops X C K (f+1) L e w:=by
 intro f
 induction f with
 | zero =>
  intro L e w hC hf hr hy H
  refine ⟨fun h=>(by rw [h] at hr;cases hr),fun j hj=>?_⟩
  by_cases hji:j=i
  ·subst hji
   refine ⟨o,hi,fun a ha=>?_⟩
   unfold wpList
   rcases hy a ha with ⟨hw,hv⟩ | ⟨hw,rfl⟩
   ·rw [if_pos hw]
    refine .inl ?_
    unfold Oper.wp
    rw [hv w hC]
    simp only [Oper.upon,hdst]
    exact ⟨rfl,_,ha.put hdn v,fun _=>hC,H⟩
   ·rw [if_neg (by simp [hw])]
    rw [hdst]
    exact ⟨rfl,_,ha.put hdn _,fun _=>hC,H⟩
  ·have:=ij (i:=i) hji hj
   rw [H.1] at this;cases this
 | succ f ih =>
  intro L e w hC hf hr hy H
  refine ⟨fun h=>(by rw [h] at hr;cases hr),fun j hj=>?_⟩
  by_cases hji:j=i
  ·subst hji
   refine ⟨o,hi,fun a ha=>?_⟩
   unfold wpList
   rcases hy a ha with ⟨hw,hv⟩ | ⟨hw,rfl⟩
   ·rw [if_pos hw]
    refine .inl ?_
    unfold Oper.wp
    rw [hv w hC]
    simp only [Oper.upon,hdst]
    exact ⟨rfl,_,ha.put hdn v,fun _=>hC,H⟩
   ·rw [if_neg (by simp [hw])]
    rw [hdst]
    exact ⟨rfl,_,ha.put hdn _,fun _=>hC,H⟩
  ·obtain ⟨oj,hoj,hE⟩:=H.2 j (ij hji hj)
   have hjL:=(gx.1 hj)
   have hiL:=(gx.1 hr)
   have hap:o.apart ops oj=true∧X.contains j=true:=by
    have h1:=hf
    unfold io at h1
    rw [List.all_eq_true] at h1
    have h2:=h1 j (by simp [(Array.getElem?_eq_some_iff.1 hoj).1])
    have hb:Nat.beq j i=false:=ii hji
    simp only [hb,hjL.1,hoj,Bool.false_or,Bool.or_eq_true,Bool.and_eq_true] at h2
    rcases h2 with h2 | h2
    ·exfalso
     obtain ⟨_,h3,h4⟩:=hjL.2
     rw [hoj] at h3;obtain rfl:=Option.some.inj h3
     rw [Array.any_eq_true'] at h2
     obtain ⟨ed,hm,h5⟩:=h2
     simp only [Bool.and_eq_true] at h5
     have h6:=h4 ed hm h5.1
     have h7:ed.on=i:=Nat.eq_of_beq_eq_true h5.2
     rw [h7] at h6
     have:=hiL.1
     cases hx:L[i]? with
     | none=>simp [Array.getD_eq_getD_getElem?,hx] at this
     | some b=>simp [Array.getD_eq_getD_getElem?,hx] at this h6;simp [this] at h6
    ·exact h2
   obtain ⟨h1,h2,h3⟩:=Oper.apart_spec hap.1
   have hso:=kf hsel hi
   have hsj:=kf hsel hoj
   refine ⟨oj,hoj,fun a ha=>?_⟩
   have h4:=hE _ (ha.put hdn v)
   have key:∀ u w',nrm n (fun e' w'=>(X.contains j=true→C w')∧AL P n ops X C K f ((L.setIfInBounds i true).setIfInBounds j true) e' w') .normal ((a.put (some d) v).put oj.dst u) w' →
     nrm n (fun e' w'=>(X.contains j=true→C w')∧AL P n ops X C K (f+1) (L.setIfInBounds j true) e' w') .normal (a.put oj.dst u) w':=by
    rintro u w' ⟨_,e1,he1,hc1,hA1⟩
    have hm2:Mt n (mM (a.put oj.dst u)) (a.put oj.dst u):=oL (by rw [ms,ha.size]) (by rw [nC,ha.defers])
    have hcm:(a.put (some d) v).put oj.dst u=(a.put oj.dst u).put (some d) v:=Act.put_comm a v u (fun x hx=>by
     have:=h2 d hdst
     simp only [Option.some.injEq] at hx;subst hx;exact this)
    rw [hcm] at he1
    obtain rfl:=he1.uniq (hm2.put hdn v)
    refine ⟨rfl,_,hm2,hc1,ih _ _ _ (hc1 hap.2) (mm hf) (ij (Ne.symm hji) hr) ?_ (by rw [← mu];exact hA1)⟩
    intro b hb
    have hbt:b.tmps=(a.put oj.dst u).tmps:=ka (fun t=>by rw [hb.get t];rfl) (by rw [hb.size,hm2.size])
    have hbe:b.eval=(a.put oj.dst u).eval:=by rw [hb.eval,hm2.eval]
    rw [hbt,hbe,execOp_put o hso a oj.dst u h3,wanted_put o a oj.dst u h3]
    exact hy a ha
   unfold wpList at h4 ⊢
   have hwe:=wanted_put (ops:=ops) oj a (some d) v (fun x hx=>by simp only [Option.some.injEq] at hx;subst hx;exact h1 d hdst)
   have hxe:=execOp_put oj hsj a (some d) v (fun x hx=>by simp only [Option.some.injEq] at hx;subst hx;exact h1 d hdst)
   rw [hwe] at h4
   split
   ·rename_i hw
    rw [if_pos hw] at h4
    rcases h4 with h5 | ⟨_,h5⟩
    ·refine .inl ?_
     unfold Oper.wp at h5 ⊢
     rw [hxe] at h5
     refine mq key ?_ h5
     rintro dd u w' ⟨_,e1,he1,_⟩
     have:=he1.defers
     cases hdj:oj.dst <;> simp [Act.put,hdj] at this
    ·exact absurd h5 lB
   ·rename_i hw
    rw [if_neg hw] at h4
    exact key _ _ h4
theorem cd {f:Nat} {L:Array Bool} {e:Env} {w:World} (h:Region.ready .any ops L=[]) (hK:K e w):AL P n ops X C K f L e w:=by
 cases f with
 | zero=>exact ⟨h,hK⟩
 | succ f=>exact ⟨fun _=>hK,fun i hi=>by rw [h] at hi;cases hi⟩
theorem nS (i:Nat) {f:Nat} {L:Array Bool} {e:Env} {w:World} {o:Oper} (hr:Region.ready .any ops L=[i]) (ho:ops[i]? = some o)
  (h:EL P n ops (fun e' w'=>(X.contains i=true→C w')∧AL P n ops X C K f (L.setIfInBounds i true) e' w') [o] e w):AL P n ops X C K (f+1) L e w :=
 ⟨fun h0=>(by rw [hr] at h0;cases h0),fun j hj=>by
  rw [hr] at hj
  have e:j=i:=by simpa using hj
  rw [e]
  exact ⟨o,ho,h⟩⟩
theorem av {o:Oper} {e:Env} {v:Value} (hg:o.guard=none) (h:∀ w',C w'→PV P o e w' v):SV P n ops C o e v:=fun a ha=>.inl ⟨by simp [Region.wanted,hg],fun w' hw'=>by rw [ha.eval];exact h w' hw' w' (Ext.refl _)⟩
theorem nP (hsel:iy ops=true) (i:Nat) {o:Oper} {d:Nat} {v:Value} {f:Nat} {L:Array Bool} {e:Env} {w:World} (hi:ops[i]? = some o) (hdst:o.dst=some d) (hdn:d<n) (hC:C w) (hf:io ops X L i o=true) (hr:(Region.ready .any ops L).contains i=true)
  (hy:SV P n ops C o e v) (hK:AL P n ops X C K f (L.setIfInBounds i true) (upd e d v) w):AL P n ops X C K (f+1) L e w :=
 nE hsel i hi hdst hdn f L e w hC hf (by simpa using hr) hy hK
section
variable {wA:World} {v:Value} {d:Nat} {ty:TypeId} {pos:String} {af:Array Edge} {x y:Operand} {α:Type} {R:Rep α} {E E':TypeId} {f:Nat} {L:Array Bool} {e:Env} {w:World}
theorem fR (hsel:iy ops=true) (i:Nat) {t:TypeId} [SliceT P t E'] {zz:List Value} {m bytes:Nat} [ElemT P E' zz m bytes] {xs:List α} (hi':ops[i]? = some ⟨some d,.indexAddr t x y,ty,pos,af,none⟩) (hC:C w) (hf:io ops X L i ⟨some d,.indexAddr t x y,ty,pos,af,none⟩=true) (hrd:(Region.ready .any ops L).contains i=true)
  (hs:ev e x=v) (hr:(au R E).rd wA [v] xs) (hn:R.sz=m) (hpos:0<m) {k:IntKind} {j:Int} (hi:ev e y=.int k j) {u:α} (h:ix xs j=some u) (hd:d<n)
  (hK:∀ b off ec,R.rd wA ec u→(∀ j c,ec[j]? = some c→wA.cell? ⟨b,off+j,none⟩=some c)→AL P n ops X C K f (L.setIfInBounds i true) (upd e d (.pointer (some ⟨b,off,none⟩))) w):AL P n ops X C K (f+1) L e w:=by
 obtain ⟨b,off,ec,h1,h2,h3⟩:=iP (P:=P) (d:=some d) (ty:=ty) (pos:=pos) (af:=af) (t:=t) hs hr hn hpos hi h
 exact nP hsel i hi' rfl hd hC hf hrd (av rfl fun w' _=>h3 w') (hK b off ec h1 h2)
end
end
class FlatR {α:Type} (R:Rep α) (f:outParam (α→Value)):Prop where
 h:∀ {w:World} {cs:List Value} {x:α},R.rd w cs x→cs=[f x]
instance:FlatR aT (Value.int .i64):=⟨fun h=>h⟩
instance:FlatR u8R (Value.int .u8):=⟨fun h=>h⟩
instance:FlatR gz Value.bool:=⟨fun h=>h⟩
section
variable {P:Program} {n:Nat} {ops:Array Oper} {K:Env→World→Prop} {KQ:Env→Prop} {rest:List Oper} {e:Env} {w w0:World} {v:Value} {d:Nat} {ty:TypeId} {pos:String} {af:Array Edge} {Γ:List Asn} {x y:Operand} {α:Type} {R:Rep α} {E:TypeId} {f:α→Value}
theorem Sat.ownCell (i:Nat) [hf:FlatR R f] {xs:List α} (hS:Sat w0 w Γ) (hi:Γ[i]? = some (Own (au R E) [v] xs)) {g cap ln:Nat} (hv:v=.slice (some ⟨g,0,none⟩) ln cap) {j:Int} {u:α} (h:ix xs j=some u):w.cell? ⟨g,j.toNat*1,none⟩=some (f u):=by
 obtain ⟨k,rfl,hk,rfl⟩:=eT h
 obtain ⟨fp,ho,_⟩:=(hS.top i hi).head
 rcases ho with ⟨_,h2,_⟩ | ⟨g',cap',cur,ccs,f2,hv',hg,h1,h2,h3,h4,h5,rfl⟩
 ·subst h2;simp at hk
 subst hv
 simp at hv'
 obtain ⟨rfl,rfl,rfl⟩:=hv'
 obtain ⟨ec,hec,hcc⟩:=gN (dN h5) k hk
 obtain rfl:=hf.h hec
 have hsz:R.sz=1:=by have:=R.rd_len hec;simpa using this.symm
 have h0:=hcc 0 _ rfl
 rw [cell_of_row w g _ cur E (0,0) hg,← Array.getElem?_toList]
 rw [← h4,List.getElem?_take] at h0
 simp only [Int.toNat_natCast]
 rw [hsz] at h0
 split at h0
 ·simpa using h0
 ·cases h0
theorem dA (i:Nat) {xs:List α} (hS:Sat w0 w Γ) (hi:Γ[i]? = some (Own (au R E) [v] xs)) {j:Int} {u:α} (h:ix xs j=some u):∃ g cap,v=.slice (some ⟨g,0,none⟩) xs.length cap:=by
 obtain ⟨k,rfl,hk,rfl⟩:=eT h
 rcases (hS.top i hi).shape with ⟨_,h2⟩ | ⟨g,cap,h⟩
 ·subst h2;simp at hk
 ·exact ⟨g,cap,h⟩
theorem c4 {d:Option Nat} {t:TypeId} [ht:SliceT P t E] {zz:List Value} {bytes:Nat} [hz:ElemT P E zz 1 bytes] {xs:List α} (hs:ev e x=v) {g cap:Nat} (hv:v=.slice (some ⟨g,0,none⟩) xs.length cap) {k:IntKind} {j:Int} (hi:ev e y=.int k j) {u:α} (h:ix xs j=some u) :
  PV P ⟨d,.indexAddr t x y,ty,pos,af,none⟩ e w (.pointer (some ⟨g,j.toNat*1,none⟩)):=fun w' _=>by
 obtain ⟨k',rfl,hk,rfl⟩:=eT h
 subst hv
 have hz:=hz.h
 cases hq:P.info? E with
 | none=>simp [hq] at hz
 | some inf =>
  simp [hq] at hz
  have hsz:inf.size=1:=hz.2.1
  unfold execOp
  simp [hs,hi,Instr.indexAt,asIntOf,run_underlying ht.h,sizeOf,typeInfo,hq,hk,Addr.add_lit,hsz]
end
theorem oK:Goes Try.prog 6:=⟨_,Try.func6,by kernel_rfl,by kernel_rfl⟩
theorem nR:Goes Try.prog 17:=⟨_,Try.func17,by kernel_rfl,by kernel_rfl⟩
theorem lM:Goes Try.prog 18:=⟨_,Try.func18,by kernel_rfl,by kernel_rfl⟩
theorem n9:Goes Try.prog 19:=⟨_,Try.func19,by kernel_rfl,by kernel_rfl⟩
theorem n8:Goes Try.prog 20:=⟨_,Try.func20,by kernel_rfl,by kernel_rfl⟩
theorem jq:Goes Try.prog 21:=⟨_,Try.func21,by kernel_rfl,by kernel_rfl⟩
theorem jc:Goes Try.prog 22:=⟨_,Try.func22,by kernel_rfl,by kernel_rfl⟩
theorem lv:Goes Try.prog 34:=⟨_,Try.func34,by kernel_rfl,by kernel_rfl⟩
theorem dX:Goes Try.prog 52:=⟨_,Try.func52,by kernel_rfl,by kernel_rfl⟩
theorem mb:Goes Try.prog 53:=⟨_,Try.func53,by kernel_rfl,by kernel_rfl⟩
theorem l0:Goes Try.prog 54:=⟨_,Try.func54,by kernel_rfl,by kernel_rfl⟩
theorem ke:Goes Try.prog 55:=⟨_,Try.func55,by kernel_rfl,by kernel_rfl⟩
theorem ez:Goes Try.prog 56:=⟨_,Try.func56,by kernel_rfl,by kernel_rfl⟩
theorem lT:Goes Try.prog 57:=⟨_,Try.func57,by kernel_rfl,by kernel_rfl⟩
theorem nO:Goes Try.prog 58:=⟨_,Try.func58,by kernel_rfl,by kernel_rfl⟩
theorem od:Goes Try.prog 59:=⟨_,Try.func59,by kernel_rfl,by kernel_rfl⟩
theorem oy:Goes Try.prog 60:=⟨_,Try.func60,by kernel_rfl,by kernel_rfl⟩
theorem jm:Goes Try.prog 61:=⟨_,Try.func61,by kernel_rfl,by kernel_rfl⟩
theorem hY:Goes Try.prog 62:=⟨_,Try.func62,by kernel_rfl,by kernel_rfl⟩
theorem jp:Goes Try.prog 63:=⟨_,Try.func63,by kernel_rfl,by kernel_rfl⟩
theorem ou:Goes Try.prog 64:=⟨_,Try.func64,by kernel_rfl,by kernel_rfl⟩
theorem fq:Goes Try.prog 65:=⟨_,Try.func65,by kernel_rfl,by kernel_rfl⟩
theorem ej:Goes Try.prog 67:=⟨_,Try.func67,by kernel_rfl,by kernel_rfl⟩
theorem lW:Goes Try.prog 73:=⟨_,Try.func73,by kernel_rfl,by kernel_rfl⟩
theorem oa:Goes Try.prog 86:=⟨_,Try.func86,by kernel_rfl,by kernel_rfl⟩
theorem iW:Goes Try.prog 87:=⟨_,Try.func87,by kernel_rfl,by kernel_rfl⟩
theorem kc:Goes Try.prog 88:=⟨_,Try.func88,by kernel_rfl,by kernel_rfl⟩
theorem iZ:Goes Try.prog 89:=⟨_,Try.func89,by kernel_rfl,by kernel_rfl⟩
theorem nQ:Goes Try.prog 90:=⟨_,Try.func90,by kernel_rfl,by kernel_rfl⟩
theorem og:Goes Try.prog 91:=⟨_,Try.func91,by kernel_rfl,by kernel_rfl⟩
theorem oi:Goes Try.prog 92:=⟨_,Try.func92,by kernel_rfl,by kernel_rfl⟩
theorem oz:Goes Try.prog 93:=⟨_,Try.func93,by kernel_rfl,by kernel_rfl⟩
theorem je:Goes Try.prog 94:=⟨_,Try.func94,by kernel_rfl,by kernel_rfl⟩
theorem oq:Goes Try.prog 95:=⟨_,Try.func95,by kernel_rfl,by kernel_rfl⟩
theorem im:Goes Try.prog 96:=⟨_,Try.func96,by kernel_rfl,by kernel_rfl⟩
theorem oA:Goes Try.prog 97:=⟨_,Try.func97,by kernel_rfl,by kernel_rfl⟩
theorem kp:Goes Try.prog 98:=⟨_,Try.func98,by kernel_rfl,by kernel_rfl⟩
theorem i4:Goes Try.prog 99:=⟨_,Try.func99,by kernel_rfl,by kernel_rfl⟩
theorem it:Goes Try.prog 100:=⟨_,Try.func100,by kernel_rfl,by kernel_rfl⟩
theorem iB:Goes Try.prog 101:=⟨_,Try.func101,by kernel_rfl,by kernel_rfl⟩
theorem nq:Goes Try.prog 102:=⟨_,Try.func102,by kernel_rfl,by kernel_rfl⟩
theorem mW:Goes Try.prog 103:=⟨_,Try.func103,by kernel_rfl,by kernel_rfl⟩
theorem nk:Goes Try.prog 104:=⟨_,Try.func104,by kernel_rfl,by kernel_rfl⟩
theorem nl:Goes Try.prog 105:=⟨_,Try.func105,by kernel_rfl,by kernel_rfl⟩
theorem gJ:Goes Try.prog 108:=⟨_,Try.func108,by kernel_rfl,by kernel_rfl⟩
theorem nh:Goes Try.prog 116:=⟨_,Try.func116,by kernel_rfl,by kernel_rfl⟩
theorem nx:Goes Try.prog 117:=⟨_,Try.func117,by kernel_rfl,by kernel_rfl⟩
theorem m7:Goes Try.prog 118:=⟨_,Try.func118,by kernel_rfl,by kernel_rfl⟩
theorem nr:Goes Try.prog 119:=⟨_,Try.func119,by kernel_rfl,by kernel_rfl⟩
theorem mU:Goes Try.prog 120:=⟨_,Try.func120,by kernel_rfl,by kernel_rfl⟩
theorem kR:Goes Try.prog 121:=⟨_,Try.func121,by kernel_rfl,by kernel_rfl⟩
theorem iA:Goes Try.prog 122:=⟨_,Try.func122,by kernel_rfl,by kernel_rfl⟩
theorem iz:Goes Try.prog 123:=⟨_,Try.func123,by kernel_rfl,by kernel_rfl⟩
theorem nG:Goes Try.prog 124:=⟨_,Try.func124,by kernel_rfl,by kernel_rfl⟩
theorem jJ:Goes Try.prog 131:=⟨_,Try.func131,by kernel_rfl,by kernel_rfl⟩
theorem kG:Goes Try.prog 132:=⟨_,Try.func132,by kernel_rfl,by kernel_rfl⟩
theorem jr:Goes Try.prog 133:=⟨_,Try.func133,by kernel_rfl,by kernel_rfl⟩
theorem nf:Goes Try.prog 134:=⟨_,Try.func134,by kernel_rfl,by kernel_rfl⟩
theorem nB:Goes Try.prog 135:=⟨_,Try.func135,by kernel_rfl,by kernel_rfl⟩
theorem nF:Goes Try.prog 136:=⟨_,Try.func136,by kernel_rfl,by kernel_rfl⟩
theorem ju:Goes Try.prog 140:=⟨_,Try.func140,by kernel_rfl,by kernel_rfl⟩
section
open Go.RowKit Go.ChangeShapes Go.WideShapes Go.ChangeAt
def j4 {α:Type} (P:Program) (R:Rep α) (T:TypeId):Prop :=
 ∀ {H:Type} (enc:TypeId × Value→H) (w:World) (base:Nat) (spare:Nat→Bool) (held:Bool) (fuel:Nat) (cs:List Value) (x:DataW H × List MemPlace),DataW.trod enc P w base spare held fuel T cs=some x→∃ y,R.rd w cs y

theorem kx {α:Type} {P:Program} {R:Rep α} {T e E:TypeId} (ht:P.underlying T=some (.slice e)) (hs:P.cellsOf e=R.sz) (hpos:0<R.sz) (ho:j4 P R e):j4 P (au R E) T:=by
 intro H enc w base spare held fuel cs x h
 rcases DataW.trod_slice ht h with ⟨rfl,_⟩ | ⟨a,len,cap,elems,rst,n,_,rfl,_,hb,hlc,hm,hel,hev,_⟩
 ·exact ⟨[],none,0,[],rfl,Nat.le_refl _,Nat.zero_le _,fun _=>rfl,rfl,.inl rfl⟩
 ·have hone:∀ i,i<len→∃ ec y,R.rd w ec y∧∀ j c,ec[j]? = some c→w.cell? (a.add (i*R.sz) |>.add j)=some c:=by
   intro i hi
   have h1:=hev i hi
   rw [List.getElem?_eq_getElem (by omega),hs] at h1
   obtain ⟨ec,h2,h3⟩:=Option.bind_eq_some_iff.1 h1
   obtain ⟨y,hy⟩:=ho enc w base spare held n ec _ h3
   obtain ⟨_,h4,h5⟩:=World.cells?_some h2
   exact ⟨ec,y,hy,fun j c hj=>by rw [h5 j (by have:=(List.getElem?_eq_some_iff.1 hj).1;omega)];exact hj⟩
  by_cases hl0:len=0
  ·subst hl0
   exact ⟨[],some a,cap,[],rfl,hlc,hm,by simp,rfl,.inl rfl⟩
  obtain ⟨b,off,spot⟩:=a
  have hspot:spot=none:=by
   obtain ⟨ec,y,hy,hc⟩:=hone 0 (by omega)
   have hl:=R.rd_len hy
   have h0:=hc 0 ec[0] (by simp)
   simp only [Nat.zero_mul,Addr.add,if_true] at h0
   cases spot with
   | none=>rfl
   | some s =>
    unfold World.cell? at h0
    split at h0 <;> simp at h0
  subst hspot
  have hall:∀ k,k≤len→∃ ys ccs,ys.length=k∧rdL R w ccs ys∧∀ j c,ccs[j]? = some c→w.cell? ⟨b,off+j,none⟩=some c:=by
   intro k
   induction k with
   | zero=>intro _;exact ⟨[],[],rfl,rfl,by simp⟩
   | succ k ih =>
    intro hk
    obtain ⟨ys,ccs,h1,h2,h3⟩:=ih (by omega)
    obtain ⟨ec,y,hy,hc⟩:=hone k (by omega)
    refine ⟨ys++[y],ccs++ec,by simp [h1],iX (ys:=[y]) ⟨ec,[],by simp,hy,rfl⟩ h2,fun j c hj=>?_⟩
    have hcl:=eC h2
    by_cases hj1:j<ccs.length
    ·rw [List.getElem?_append_left hj1] at hj;exact h3 j c hj
    ·rw [List.getElem?_append_right (by omega)] at hj
     have:=hc (j-ccs.length) c hj
     rw [Addr.add_lit,Addr.add_lit] at this
     rw [show off+j=off+k*R.sz+(j-ccs.length) by rw [hcl,h1] at *;omega]
     exact this
  obtain ⟨ys,ccs,h1,h2,h3⟩:=hall len (Nat.le_refl _)
  exact ⟨ys,some ⟨b,off,none⟩,cap,ccs,by rw [h1],by omega,hm,by simp,h2,.inr ⟨b,off,rfl,h3⟩⟩
def ki (n:Int):Prop:=0≤n∧n≤255
def u8F:Rep Int where
 sz:=1
 rd _ cs n:=cs=[.int .u8 n]∧ki n
 own _ cs n fp:=(cs=[.int .u8 n]∧ki n)∧fp=[]
 rd_len h:=by rw [h.1];rfl
 rd_one h:=by rw [h.1];simp [Value.oneCell']
 rd_ext h _:=h
 own_rd h:=h.1
 own_ext h _:=h
 own_lt h:=by rw [h.2];simp
theorem wf8 {n:Int} (h:(Lit.int .u8 n).wf=true):ki n:=by
 unfold Lit.wf at h
 simp only [Bool.and_eq_true,decide_eq_true_eq] at h
 exact ⟨h.1,h.2⟩
theorem lr {P:Program} {T:TypeId} (ht:P.underlying T=some (.int .u8)):j4 P u8F T:=by
 intro H enc w base spare held fuel cs x h
 obtain ⟨n,rfl,_,hw⟩:=DataW.trod_int ht h
 exact ⟨n,rfl,wf8 hw⟩
theorem lQ {w:World}:∀ {xs:List Int} {ccs:List Value},rdL u8F w ccs xs→rdL u8R w ccs xs∧∀ v∈xs,ki v
 | [],_,h=>⟨h,by simp⟩
 | x :: xs,_,h=>by
  obtain ⟨ec,rest,rfl,h1,h2⟩:=h
  obtain ⟨g1,g2⟩:=lQ h2
  refine ⟨⟨ec,rest,rfl,h1.1,g1⟩,fun v hv=>?_⟩
  rcases List.mem_cons.1 hv with rfl | hv
  ·exact h1.2
  ·exact g2 v hv
theorem mr {E:TypeId} {w:World} {cs:List Value} {xs:List Int} (h:(au u8F E).rd w cs xs):(au u8R E).rd w cs xs∧∀ v∈xs,ki v:=by
 obtain ⟨ao,cap,ccs,rfl,h1,h2,h3,h4,h5⟩:=h
 obtain ⟨g1,g2⟩:=lQ h4
 exact ⟨⟨ao,cap,ccs,rfl,h1,h2,h3,g1,h5⟩,g2⟩
end
theorem bs {α β:Type} (a:α) (f:α→Option β):(some a).bind f=f a:=rfl
theorem aH {α:Type} {xs:List α} {i:Nat} (h:i<xs.length):ix xs (i:Int)=some xs[i]:=by
 unfold ix;rw [if_pos (by omega)];simp [h]
theorem iU {α:Type} {xs:List α} {i:Int} (h0:0≤i) (h:i<xs.length):ix xs i=some (xs[i.toNat]'(by omega)):=by
 unfold ix;rw [if_pos h0];simp
theorem gl {n:Int} (h:-4611686018427387904≤n) (h2:n≤4611686018427387904):rng n=true:=by
 unfold rng;simp only [Bool.and_eq_true,decide_eq_true_eq];omega
theorem dP {a b:Int} (h:-4611686018427387904≤a+b) (h2:a+b≤4611686018427387904):ad a b=some (a+b):=by unfold ad;rw [if_pos (gl h h2)]
theorem dk {a b:Int} (h:-4611686018427387904≤a-b) (h2:a-b≤4611686018427387904):sb a b=some (a-b):=by unfold sb;rw [if_pos (gl h h2)]
theorem d7 {a b:Int} (h:-4611686018427387904≤a*b) (h2:a*b≤4611686018427387904):ml a b=some (a*b):=by unfold ml;rw [if_pos (gl h h2)]
theorem ad1 {i:Nat} (h:i<1099511627776):ad (i:Int) 1=some ((i+1:Nat):Int):=by rw [dP (by omega) (by omega)];simp
theorem dlt {i n:Nat} (h:i<n):decide ((i:Int)<(n:Int))=true:=by simp;omega
theorem dge {i n:Nat} (h:¬ i<n):decide ((i:Int)<(n:Int))=false:=by simp;omega
theorem fC {α:Type} {xs:List α} {i:Nat} {y:α} (h:i<xs.length):sto xs (i:Int) y=some (xs.set i y):=by
 unfold sto;rw [if_pos ⟨by omega,by simpa using h⟩];simp
theorem ov {α:Type} {b:Nat} {xs ys:List α} (h:(xs.length+ys.length)*b≤140737488355328):apd b xs ys=some (xs++ys):=by unfold apd;rw [if_pos h]
theorem de {α:Type} {b:Nat} {xs ys:List α} (hb:b≤64) (h:xs.length+ys.length≤2199023255552):apd b xs ys=some (xs++ys):=by
 refine ov (Nat.le_trans (Nat.mul_le_mul h hb) (by omega))
theorem j0 {α:Type} {b:Nat} {z:α} {n:Nat} (hb:b≤64) (h:n≤2199023255552):mk b z (n:Int)=some (List.replicate n z):=by
 unfold mk;rw [if_pos ⟨by omega,by simpa using Nat.le_trans (Nat.mul_le_mul h hb) (by omega),by simp;omega⟩];simp
theorem hZ {α:Type} {xs:List α} {lo hi:Nat} (h1:lo≤hi) (h2:hi≤xs.length):slc xs (lo:Int) (hi:Int)=some ((xs.take hi).drop lo):=by
 unfold slc;rw [if_pos ⟨by omega,by omega,by omega⟩];simp

theorem jo {R V:Type} (L:Nat→Int→Option (Sum R V)) (n:Nat) (hn:n<1099511627776) (b:R) (p:Nat→Bool) (v:V)
  (hstep:∀ k i,i<n→L (k+1) (i:Int)=bif p i then L k ((i+1:Nat):Int) else some (.inl b))
  (hend:∀ k,L (k+1) (n:Int)=some (.inr v)) :
  ∀ k i,i≤n→n-i<k→L k (i:Int)=some (bif (List.range' i (n-i)).all p then .inr v else .inl b):=by
 intro k
 induction k with
 | zero=>intro i hi hk;omega
 | succ k ih =>
  intro i hi hk
  by_cases h:i<n
  ·rw [hstep k i h,show n-i=(n-(i+1))+1 by omega,List.range'_succ,List.all_cons]
   cases hp:p i with
   | true=>rw [cond_true,Bool.true_and];exact ih (i+1) (by omega) (by omega)
   | false=>rfl
  ·obtain rfl:i=n:=by omega
   rw [hend k,Nat.sub_self];rfl
theorem il {α:Type} (xs:List α) (p:α→Bool) (q:Nat→Bool) (h:∀ i (hi:i<xs.length),q i=p xs[i]):(List.range' 0 xs.length).all q=xs.all p:=by
 rw [Bool.eq_iff_iff,List.all_eq_true,List.all_eq_true]
 constructor
 ·intro hq x hx
  obtain ⟨i,hi,rfl⟩:=List.getElem_of_mem hx
  rw [← h i hi];exact hq i (by simp;omega)
 ·intro hp i hi
  have hi':i<xs.length:=by simpa using hi
  rw [h i hi'];exact hp _ (List.getElem_mem hi')
section
variable {α:Type}
def jD (p:α→Prop) (m:Nat) (xs:List α):Prop:=xs.length≤m∧∀ x∈xs,p x

end
theorem oR (x y:Int):(x == y)=decide (x=y):=by by_cases h:x=y <;> simp [h]
section
open Go.RowKit Go.ChangeShapes Go.WideShapes Go.ChangeAt
theorem mE:ownKnob Try.prog.godebug=none:=by kernel_rfl
theorem mI:laidOutB Try.prog=true:=by kernel_rfl
theorem lY {α:Type} {R:Rep α} {E:TypeId} {p:α→Prop} (h:∀ {w:World} {cs:List Value} {x:α},R.rd w cs x→p x) {w:World} {cs:List Value} {xs:List α} (hr:(au R E).rd w cs xs):jD p 9223372036854775807 xs:=by
 obtain ⟨ao,cap,ccs,rfl,h1,h2,h3,h4,h5⟩:=hr
 refine ⟨by unfold maxLen at h2;omega,fun x hx=>?_⟩
 obtain ⟨j,hj,rfl⟩:=List.getElem_of_mem hx
 obtain ⟨ec,h6,_⟩:=gN h4 j hj
 exact h h6
theorem mB:j4 Try.prog (au u8F 5) 22:=kx Try.underlying22 (by kernel_rfl) (by decide) (lr Try.underlying5)
theorem oM {w:World} {cs:List Value} {x:List Int} (h:((au u8R 5)).rd w cs x):(jD (fun _=>True) 9223372036854775807) x:=lY (fun _=>trivial) h
end
theorem Sat.splitp {w0 w:World} {A B C:Asn} {Γ:List Asn} (h:Sat w0 w (A :: Γ)) (k:∀ f,A.holds w f→∃ p q,(p++q).Perm f∧B.holds w p∧C.holds w q):Sat w0 w (B :: C :: Γ):=by
 obtain ⟨hb,_,⟨f1,f2,rfl,h1,h2⟩,hn,h3⟩:=h
 obtain ⟨p,q,hp,k1,k2⟩:=k f1 h1
 have hpp:(p++(q++f2)).Perm (f1++f2):=by rw [← List.append_assoc];exact List.Perm.append_right _ hp
 exact ⟨hb,p++(q++f2),⟨p,q++f2,rfl,k1,q,f2,rfl,k2,h2⟩,hpp.nodup_iff.2 hn,fun b hb'=>h3 b (hpp.mem_iff.1 hb')⟩
theorem Sat.joinp {w0 w:World} {A B C:Asn} {Γ:List Asn} (h:Sat w0 w (A :: B :: Γ)) (k:∀ f g,A.holds w f→B.holds w g→∃ p,p.Perm (f++g)∧C.holds w p):Sat w0 w (C :: Γ):=by
 obtain ⟨hb,_,⟨f1,_,rfl,h1,f2,f3,rfl,h2,h4⟩,hn,h3⟩:=h
 obtain ⟨p,hp,k1⟩:=k f1 f2 h1 h2
 have hpp:(p++f3).Perm (f1++(f2++f3)):=by rw [← List.append_assoc];exact List.Perm.append_right _ hp
 exact ⟨hb,p++f3,⟨p,f3,rfl,k1,h4⟩,hpp.nodup_iff.2 hn,fun b hb'=>h3 b (hpp.mem_iff.1 hb')⟩
section
variable {α β:Type} {R:Rep α} {S:Rep β} {w0 w:World} {Γ:List Asn} {E:TypeId} {v:Value}
def mA (R:Rep α) (E:TypeId) (v:Value) (xs:List α) (i:Nat) (ec:List Value):Asn where
 holds w fp:=(∀ b∈fp,b<w.heap.size)∧∀ w' y f',(∀ b∈fp,w'.heap[b]? = w.heap[b]?)→R.own w' ec y f'→∃ p,p.Perm (f'++fp)∧(au R E).own w' [v] (xs.set i y) p
 ext h he:=by
  refine ⟨fun b hb=>?_,fun w'' y f' he' ho=>h.2 w'' y f' (fun b hb=>(he' b hb).trans (he b hb)) ho⟩
  have h1:=h.1 b hb
  have h2:=he b hb
  rw [Array.getElem?_eq_getElem h1] at h2
  exact (Array.getElem?_eq_some_iff.1 h2).1
 lt h:=h.1
theorem jH {w:World}:∀ {xs:List α} {ccs:List Value} {f:List Nat},dh R w ccs xs f→∀ (k:Nat) (hk:k<xs.length),
  ∃ ec f1 f2 f3,R.own w ec xs[k] f2∧f=f1++(f2++f3)∧(∀ j c,ec[j]? = some c→ccs[k*R.sz+j]? = some c) ∧
   ∀ w' y f',(∀ b∈f1++f3,w'.heap[b]? = w.heap[b]?)→R.own w' ec y f'→dh R w' ccs (xs.set k y) (f1++(f'++f3))
 | [],_,_,_,k,hk=>absurd hk (by simp)
 | x :: xs,_,_,h,k,hk=>by
  obtain ⟨ec,rest,f1,f2,rfl,rfl,h1,h2⟩:=h
  cases k with
  | zero =>
   refine ⟨ec,[],f1,f2,h1,rfl,fun j c hj=>?_,fun w' y f' he ho=>?_⟩
   ·have hlt:j<ec.length:=(List.getElem?_eq_some_iff.1 hj).1
    rw [Nat.zero_mul,Nat.zero_add,List.getElem?_append_left hlt];exact hj
   ·exact ⟨ec,rest,f',f2,rfl,rfl,ho,et h2 fun b hb=>he b (by simpa using hb)⟩
  | succ k =>
   obtain ⟨ec',g1,g2,g3,k1,rfl,k3,k4⟩:=jH h2 k (by simpa using hk)
   refine ⟨ec',f1++g1,g2,g3,by simpa using k1,by simp,fun j c hj=>?_,fun w' y f' he ho=>?_⟩
   ·have e:(k+1)*R.sz+j=ec.length+(k*R.sz+j):=by rw [R.rd_len (R.own_rd h1),Nat.add_mul];omega
    rw [e,List.getElem?_append_right (by omega),Nat.add_sub_cancel_left]
    exact k3 j c hj
   ·refine ⟨ec,rest,f1,g1++(f'++g3),rfl,by simp,R.own_ext h1 fun b hb=>he b (by simp [hb]),k4 w' y f' (fun b hb=>he b ?_) ho⟩
    rcases List.mem_append.1 hb with h | h
    ·simp [h]
    ·simp [h]
theorem Sat.unpair {c d:List Value} {x:α × β} (hS:Sat w0 w (Own (iY R S) (c++d) x :: Γ)) (hc:c.length=R.sz):Sat w0 w (Own R c x.1 :: Own S d x.2 :: Γ):=by
 refine hS.splitp fun f hf=>?_
 obtain ⟨c1,c2,f1,f2,hcs,rfl,h1,h2⟩:=hf
 have hl:=R.rd_len (R.own_rd h1)
 obtain ⟨rfl,rfl⟩:=List.append_inj hcs (by omega)
 exact ⟨f1,f2,.refl _,h1,h2⟩
end
theorem Sat.drop {w0 w:World} {Γ Δ:List Asn} (h:Sat w0 w (Γ++Δ)):Sat w0 w Δ:=by
 induction Γ with
 | nil=>simpa using h
 | cons A Γ ih=>exact ih h.tail

def dg (a b:Int):Int:=IntKind.i64.wrap ((BitVec.ofInt IntKind.i64.bits a &&& BitVec.ofInt IntKind.i64.bits b).toNat)
def eR (a b:Int):Int:=IntKind.i64.wrap ((BitVec.ofInt IntKind.i64.bits a ^^^ BitVec.ofInt IntKind.i64.bits b).toNat)
def sr (a b:Int):Option Int:=if 0≤b then some (a.fdiv (2 ^ (min b.toNat IntKind.i64.bits))) else none
def f8 (s r:ByteArray):Option ByteArray:=if s.size+r.size≤9223372036854775807 then some (s++r) else none
theorem f5 {s r c:ByteArray} (h:f8 s r=some c):c.size≤9223372036854775807:=by
 unfold f8 at h
 split at h
 ·rename_i h0
  obtain rfl:=Option.some.inj h
  rw [ByteArray.size_append];exact h0
 ·cases h
section
variable {P:Program} {e:Env} {w:World} {d:Option Nat} {ty:TypeId} {pos:String} {af:Array Edge} {x y:Operand}
theorem kg {t u:TypeId} {a b:Int} (hx:ev e x=.int .i64 a) (hy:ev e y=.int .i64 b):PV P ⟨d,.binOp .and t x y u,ty,pos,af,none⟩ e w (.int .i64 (dg a b)):=fun w' _=>by
 unfold execOp dg;simp [hx,hy,eqGuard,binOp,Op.intBits]
theorem n6 {t u:TypeId} {a b:Int} (hx:ev e x=.int .i64 a) (hy:ev e y=.int .i64 b):PV P ⟨d,.binOp .xor t x y u,ty,pos,af,none⟩ e w (.int .i64 (eR a b)):=fun w' _=>by
 unfold execOp eR;simp [hx,hy,eqGuard,binOp,Op.intBits]
theorem lX {t u:TypeId} {k2:IntKind} {a b c:Int} (hx:ev e x=.int .i64 a) (hy:ev e y=.int k2 b) (h:sr a b=some c):PV P ⟨d,.binOp .shr t x y u,ty,pos,af,none⟩ e w (.int .i64 c):=fun w' _=>by
 unfold sr at h
 split at h
 ·rename_i h0
  obtain rfl:=Option.some.inj h
  have h1:¬ b<0:=by omega
  unfold execOp;simp [hx,hy,eqGuard,binOp,Op.shift,h1]
 ·cases h
theorem fz {t u:TypeId} {s r c:ByteArray} (hx:ev e x=.string s) (hy:ev e y=.string r) (h:f8 s r=some c):PV P ⟨d,.binOp .add t x y u,ty,pos,af,none⟩ e w (.string c):=fun w' _=>by
 unfold f8 at h
 split at h
 ·rename_i h0
  obtain rfl:=Option.some.inj h
  have h1:¬ (((s.size+r.size:Nat):Int) > IntKind.i64.max):=by
   have:IntKind.i64.max=9223372036854775807:=by decide
   rw [this];omega
  unfold execOp;simp only [hx,hy,eqGuard,binOp,Op.stringOp,Sem.run_bind,Sem.run_pure,Result.andThen_ok,if_neg h1]
  simp
 ·cases h
instance flat_str:FlatR fK (fun s=>.string s):=⟨fun h=>h.1⟩
theorem lE {E:TypeId} (i:Nat) {xs:List ByteArray} {v:Value} {w0 w:World} {Γ:List Asn} (hS:Sat w0 w Γ) (hi:Γ[i]? = some (Own (au fK E) [v] xs)) {j:Int} {u:ByteArray} (h:ix xs j=some u):u.size≤9223372036854775807:=by
 obtain ⟨k,rfl,hk,rfl⟩:=eT h
 obtain ⟨ao,cap,ccs,_,_,_,_,h4,_⟩:=hS.rdAt (R:=au fK E) i hi
 obtain ⟨ec,hec,_⟩:=gN h4 k hk
 exact hec.2
def ssl (s:ByteArray) (l h:Int):Option ByteArray:=if 0≤l∧l≤h∧h≤(s.size:Int) then some (s.extract l.toNat h.toNat) else none
theorem iH {s c:ByteArray} {l h:Int} (hs:s.size≤9223372036854775807) (hq:ssl s l h=some c):c.size≤9223372036854775807:=by
 unfold ssl at hq
 split at hq
 ·obtain rfl:=Option.some.inj hq
  rw [ByteArray.size_extract];omega
 ·cases hq
theorem ik {t:TypeId} {lo hi:Option Operand} {s c:ByteArray} (ht:P.underlying t=some .string) (hx:ev e x=.string s) {l h:Int} (hlo:(lo.map (ev e)=some (.int .i64 l))∨(lo=none∧l=0)) (hhi:(hi.map (ev e)=some (.int .i64 h))∨(hi=none∧h=s.size)) (hq:ssl s l h=some c):PV P ⟨d,.slice t x lo hi none,ty,pos,af,none⟩ e w (.string c):=fun w' _=>by
  unfold ssl at hq
  split at hq
  case isFalse=>cases hq
  rename_i h0
  obtain rfl:=Option.some.inj hq
  obtain ⟨l',rfl⟩:=Int.eq_ofNat_of_zero_le h0.1
  obtain ⟨h',rfl⟩:=Int.eq_ofNat_of_zero_le (Int.le_trans h0.1 h0.2.1)
  obtain ⟨_,hlh,hh⟩:=h0
  replace hlh:l'≤h':=by omega
  replace hh:h'≤s.size:=by omega
  simp only [Int.toNat_natCast]
  have hb:(Instr.sliceBounds false s.size s.size (lo.map (ev e)) (hi.map (ev e)) none).run P w'=.ok (l',h',s.size) w':=by
    rcases hlo with e1 | ⟨e1,e1'⟩ <;> rcases hhi with e2 | ⟨e2,e2'⟩
    all_goals
      (try rw [e1]);(try rw [e2])
      first
        | (simp [Instr.sliceBounds,Instr.sliceBound,asIntOf,hh,hlh];done)
        | (have:l'=0:=by omega
           subst this
           simp [Instr.sliceBounds,Instr.sliceBound,asIntOf,hh,hlh];done)
        | (have:h'=s.size:=by omega
           subst this
           simp [Instr.sliceBounds,Instr.sliceBound,asIntOf,hlh];done)
        | (have:l'=0:=by omega
           have:h'=s.size:=by omega
           subst_vars
           simp [Instr.sliceBounds,Instr.sliceBound,asIntOf])
  unfold execOp
  simp only [hx,Instr.sliceAt,Sem.run_bind,run_underlying ht,Result.andThen_ok,Instr.slice,hb,Sem.run_pure,Option.map_none,Option.isSome_none,Bool.false_eq_true,if_false]
end
theorem jQ:∀ (vs:List Value) (i:Nat) (cells:List Value),cells.length=i+vs.length→gU (fun i=>some (i*1,1)) cells ((vs.zipIdx i).map fun p=>(p.2,[p.1]))=some (cells.take i++vs)
 | [],i,cells,h=>by
  simp only [List.length_nil,Nat.add_zero] at h
  show some cells=some (cells.take i++[])
  rw [List.append_nil,List.take_of_length_le (by omega)]
 | v :: vs,i,cells,h=>by
  simp only [List.length_cons] at h
  have e1:i*1=i:=Nat.mul_one i
  simp only [List.zipIdx_cons,List.map_cons,gU,List.length_singleton,e1]
  rw [show Nat.beq 1 1=true from rfl,Bool.true_and]
  have hb:Nat.ble (i+1) cells.length=true:=by rw [Nat.ble_eq];omega
  rw [hb,cond_true,jQ vs (i+1) _ (by simp;omega)]
  congr 1
  rw [List.take_append_of_le_length (by simp;omega),List.take_of_length_le (by simp;omega)]
  simp
section
variable {P:Program} {n:Nat} {ops:Array Oper} {K:Env→World→Prop} {rest:List Oper} {e:Env} {w w0:World} {d:Nat} {ty:TypeId} {pos:String} {af:Array Edge} {Γ:List Asn} {E:TypeId} {α:Type} {R:Rep α}
theorem aY {t:TypeId} [ht:SliceT P t E] {z:List Value} {bytes:Nat} [hz:ElemT P E z 1 bytes] {parts:Array (Nat × Operand)} {k:Nat} (vs:List Value) {xs:List α} (hsz:R.sz=1) (hk:vs.length=k) (hxl:xs.length=k) (hk1:Nat.ble k 16777216=true)
  (hp:parts.toList.map (fun p=>(p.1,(ev e p.2).cells))=((vs.zipIdx 0).map fun p=>(p.2,[p.1].toArray))) (hown:∀ w,dh R w vs xs []) (hS:Sat w0 w Γ) (hd:d<n)
  (hK:∀ w' v,Sat w0 w' (Own (au R E) [v] xs :: Γ)→Ext w w'→EL P n ops K rest (upd e d v) w'):EL P n ops K (⟨some d,.buildSlice t k parts,ty,pos,af,none⟩ :: rest) e w:=by
 intro a ha
 refine wpList_plain rfl fun K' hK'=>?_
 have hz:=hz.h
 cases hi:P.info? E with
 | none=>simp [hi] at hz
 | some i =>
 cases hzz:i.zero with
 | none=>simp [hi,hzz] at hz
 | some zv =>
 simp [hi,hzz] at hz
 obtain ⟨hz1,hz2,hz3⟩:=hz
 have hk':¬ (k*1 > 2 ^ 24):=by have:=Nat.le_of_ble_eq_true hk1;omega
 have hfill:∀ A:Array Value,A.size=k→Instr.fill (fun i=>some (i*1,1)) A (parts.toList.map fun p=>(p.1,ev e p.2))=some vs.toArray:=by
  intro A hA
  have:=jL (fun i=>some (i*1,1)) (parts.toList.map fun p=>(p.1,ev e p.2)) ((vs.zipIdx 0).map fun p=>(p.2,[p.1])) A.toList (r:=vs) (by
   rw [List.map_map,List.map_map];exact hp) (by rw [jQ vs 0 A.toList (by simp;omega)];simp)
  simpa using this
 have hr:(Instr.buildSlice t k (parts.map fun p=>(p.1,ev e p.2))).run P w=.ok (.slice (some ⟨w.heap.size,0,none⟩) k k) (w.alloc (.cells vs.toArray E)):=by
  unfold Instr.buildSlice
  simp only [run_underlying ht.h,sizeOf,typeInfo,hi,hz2,Sem.run_bind,Sem.run_pure,run_program,Result.andThen_ok,if_neg hk',Sem.run_ite,Array.toList_map]
  by_cases h0:k*1=0
  ·simp only [h0,if_true,Sem.run_pure,Result.andThen_ok]
   have hk0:k=0:=by omega
   rw [hfill _ (by simp;omega)]
   simp [newRow,hk0]
  ·simp only [h0,if_false,zeroValue,typeInfo,hi,hzz,Sem.run_bind,Sem.run_pure,run_program,Result.andThen_ok]
   rw [hfill _ (by simp)]
   simp [newRow]
 unfold Oper.wp execOp
 simp only [ha.eval,hr,Sem.run_bind,Sem.run_pure,Result.andThen_ok,Oper.upon_value]
 refine hK' _ _ (hK _ _ ?_ (eL _ _) _ (ha.put hd _))
 refine (hS.box E vs).conv fun f hf=>?_
 obtain ⟨rfl,hf⟩:=hf
 have h2:=Nat.le_of_ble_eq_true hk1
 exact .inr ⟨w.heap.size,k,vs.toArray,vs,[],by rw [hxl],hf,by omega,by unfold maxLen;omega,by simp [hsz,hk],by rw [hsz,hxl,Nat.mul_one];exact List.take_of_length_le (by simp;omega),hown _,by simp⟩
theorem dC (xs:List Int) (w:World):dh aT w (xs.map (Value.int .i64)) xs []:=by
 induction xs with
 | nil=>exact ⟨rfl,rfl⟩
 | cons x xs ih=>exact ⟨[.int .i64 x],_,[],[],rfl,rfl,⟨rfl,rfl⟩,ih⟩
theorem g7 {xs:List ByteArray} (h:xs.all (fun s=>Nat.ble s.size 1000000)=true) (w:World):dh fK w (xs.map Value.string) xs []:=by
 induction xs with
 | nil=>exact ⟨rfl,rfl⟩
 | cons x xs ih =>
  rw [List.all_cons,Bool.and_eq_true] at h
  exact ⟨[.string x],_,[],[],rfl,rfl,⟨⟨rfl,by have:=Nat.le_of_ble_eq_true h.1;omega⟩,rfl⟩,ih h.2⟩
end
theorem fh {P:Program} {n:Nat} {ops:Array Oper} {X:List Nat} {C:World→Prop} {K:Env→World→Prop} (i j:Nat) {f:Nat} {L:Array Bool} {e:Env} {w:World} {o o':Oper} (hr:Region.ready .any ops L=[i,j]) (ho:ops[i]? = some o) (ho':ops[j]? = some o')
  (h:EL P n ops (fun e' w'=>(X.contains i=true→C w')∧AL P n ops X C K f (L.setIfInBounds i true) e' w') [o] e w) (h':EL P n ops (fun e' w'=>(X.contains j=true→C w')∧AL P n ops X C K f (L.setIfInBounds j true) e' w') [o'] e w):AL P n ops X C K (f+1) L e w :=
 ⟨fun h0=>(by rw [h0] at hr;cases hr),fun k hk=>by
  rw [hr] at hk
  rcases List.mem_cons.1 hk with rfl | hk
  ·exact ⟨o,ho,h⟩
  ·obtain rfl:k=j:=by simpa using hk
   exact ⟨o',ho',h'⟩⟩
theorem gI {P:Program} {n:Nat} {c:Code} {Q:Exit→Env→World→Prop} {e:Env} {w:World} (I:Env→World→Prop) (h1:CW P n c (fun x e w=>x=.normal∧I e w) e w) (h2:∀ e w,I e w→Q .normal e w):CW P n c Q e w:=by
 intro a ha
 refine wp_mono (h1 a ha) ?_
 rintro x' a' w' ⟨e',he',rfl,hI⟩
 exact ⟨e',he',h2 _ _ hI⟩
def bT (m:Nat):Value→Int→Int→Value
 | .slice ao _ cap,lo,hi=>.slice (if cap=lo.toNat then ao else ao.map (·.add (lo.toNat*m))) (hi.toNat-lo.toNat) (cap-lo.toNat)
 | v,_,_=>v
section
variable {α:Type} {R:Rep α} {E:TypeId} {w w0:World} {v:Value} {xs ys:List α} {Γ:List Asn}
theorem km {xs ys:List α} {lo hi:Int} (h:slc xs lo hi=some ys):∃ l k:Nat,lo=(l:Int)∧hi=(k:Int)∧l≤k∧k≤xs.length∧ys=(xs.take k).drop l:=by
 unfold slc at h
 split at h
 ·rename_i h0
  exact ⟨lo.toNat,hi.toNat,by omega,by omega,by omega,by omega,(Option.some.inj h).symm⟩
 ·cases h
theorem jO {w:World}:∀ (k:Nat) {xs:List α} {ccs:List Value} {f:List Nat},dh R w ccs xs f→∃ f1 f2,f=f1++f2∧dh R w (ccs.take (k*R.sz)) (xs.take k) f1∧(∀ b∈f2,b<w.heap.size)
 | 0,xs,ccs,f,h=>⟨[],f,rfl,by simp [dh],eS h⟩
 | k+1,[],ccs,f,h=>by
  obtain ⟨rfl,rfl⟩:=h
  exact ⟨[],[],rfl,⟨by simp,rfl⟩,by simp⟩
 | k+1,x :: xs,ccs,f,h=>by
  obtain ⟨ec,rest,g1,g2,rfl,rfl,h1,h2⟩:=h
  obtain ⟨f1,f2,rfl,h3,h4⟩:=jO k h2
  refine ⟨g1++f1,f2,by simp,⟨ec,rest.take (k*R.sz),g1,f1,?_,rfl,h1,h3⟩,h4⟩
  have e:(k+1)*R.sz=ec.length+k*R.sz:=by rw [R.rd_len (R.own_rd h1),Nat.add_mul];omega
  rw [e,List.take_append,List.take_of_length_le (by omega),Nat.add_sub_cancel_left]
theorem Sat.prefix {m:Nat} {hi:Int} (hn:R.sz=m) (hS:Sat w0 w (Own (au R E) [v] xs :: Γ)) (hq:slc xs 0 hi=some ys):Sat w0 w (Own (au R E) [bT m v 0 hi] ys :: Γ):=by
 obtain ⟨l,k,hl,rfl,hlk,hk,rfl⟩:=km hq
 obtain rfl:l=0:=by omega
 subst hn
 obtain ⟨ao,hao⟩:∃ A,A=Asn.mk (fun w fp=>True∧∀ b∈fp,b<w.heap.size) (fun h he=>⟨trivial,fun b hb=>by
  have h1:=h.2 b hb
  have h2:=he b hb
  rw [Array.getElem?_eq_getElem h1] at h2
  exact (Array.getElem?_eq_some_iff.1 h2).1⟩) (fun h=>h.2):=⟨_,rfl⟩
 refine Sat.tail (A:=ao) ?_
 refine hS.splitp fun f hf=>?_
 subst hao
 rcases hf with ⟨hv,rfl,rfl⟩ | ⟨g,cap,cur,ccs,f2,hv,hg,h1,h2,h3,h4,h5,rfl⟩
 ·obtain rfl:v=.slice none 0 0:=by simpa using hv
  simp only [List.length_nil,Nat.le_zero] at hk
  subst hk
  exact ⟨[],[],.refl _,⟨trivial,by simp⟩,.inl ⟨by simp [bT],by simp,rfl⟩⟩
 ·obtain rfl:v=.slice (some ⟨g,0,none⟩) xs.length cap:=by simpa using hv
  obtain ⟨f1,f3,rfl,h6,h7⟩:=jO k h5
  refine ⟨f3,g :: f1,?_,⟨trivial,h7⟩,.inr ⟨g,cap,cur,_,f1,?_,hg,?_,h2,h3,?_,h6,rfl⟩⟩
  ·exact List.perm_middle.trans (.cons _ List.perm_append_comm)
  ·have hl:(xs.take k).length=k:=by simp;omega
   simp only [List.drop_zero,hl,bT,Int.toNat_natCast]
   by_cases hc:cap=0
   ·simp [hc]
   ·simp [hc,Addr.add_lit]
  ·simp;omega
  ·rw [← h4]
   simp only [List.drop_zero,List.length_take,List.take_take]
   congr 1
   rw [Nat.min_eq_left hk]
   exact (Nat.min_eq_left (Nat.mul_le_mul_right _ hk)).symm
end
theorem jy {P:Program} {e:Env} {w wA:World} {d:Option Nat} {ty:TypeId} {pos:String} {af:Array Edge} {x:Operand} {v:Value} {α:Type} {R:Rep α} {E E':TypeId} {t:TypeId} {lo hi:Option Operand} [ht:SliceT P t E'] {z:List Value} {m bytes:Nat} [hz:ElemT P E' z m bytes]
    (hx:ev e x=v) {xs ys:List α} (hr:(au R E).rd wA [v] xs) {l h:Int} (hlo:(lo.map (ev e)=some (.int .i64 l))∨(lo=none∧l=0)) (hhi:(hi.map (ev e)=some (.int .i64 h))∨(hi=none∧h=xs.length)) (hq:slc xs l h=some ys) :
    PV P ⟨d,.slice t x lo hi none,ty,pos,af,none⟩ e w (bT m v l h):=fun w' _=>by
  obtain ⟨l',h',rfl,rfl,hlh,hh,_⟩:=km hq
  obtain ⟨ao,cap,ccs,hv,h1,h2,h3,h4,h5⟩:=hr
  obtain rfl:v=.slice ao xs.length cap:=by simpa using hv
  have hz:=hz.h
  cases hq':P.info? E' with
  | none=>simp [hq'] at hz
  | some inf =>
    simp [hq'] at hz
    have hcap:h'≤cap:=by omega
    have hsz:inf.size=m:=hz.2.1
    have hb:(Instr.sliceBounds true xs.length cap (lo.map (ev e)) (hi.map (ev e)) none).run P w'=.ok (l',h',cap) w':=by
      rcases hlo with e1 | ⟨e1,e1'⟩ <;> rcases hhi with e2 | ⟨e2,e2'⟩
      all_goals
        (try rw [e1]);(try rw [e2])
        first
          | (simp [Instr.sliceBounds,Instr.sliceBound,asIntOf,hcap,hlh];done)
          | (have:l'=0:=by omega
             subst this
             simp [Instr.sliceBounds,Instr.sliceBound,asIntOf,hcap,hlh];done)
          | (have:h'=xs.length:=by omega
             subst this
             simp [Instr.sliceBounds,Instr.sliceBound,asIntOf,hcap,hlh];done)
          | (have:l'=0:=by omega
             have:h'=xs.length:=by omega
             subst_vars
             simp [Instr.sliceBounds,Instr.sliceBound,asIntOf])
    unfold execOp
    simp only [hx,Instr.sliceAt,Sem.run_bind,run_underlying ht.h,Result.andThen_ok,Instr.slice,hb,sizeOf,typeInfo,hq',run_program,Sem.run_pure,Option.map_none,bT,hsz,Int.toNat_natCast]
theorem kX {w W:World} {b o:Nat} (h:w.heap[b]? = W.heap[b]?):w.cell? ⟨b,o,none⟩=W.cell? ⟨b,o,none⟩:=by
 unfold World.cell?;simp [h]
section
variable {α:Type} {R:Rep α} {w0 w:World} {Γ:List Asn} {E:TypeId} {v:Value}
def iw (R:Rep α) (E:TypeId) (v:Value) (xs:List α) (i:Nat) (ec:List Value) (g m:Nat):Asn where
 holds w fp:=(mA R E v xs i ec).holds w fp∧g∈fp∧∀ j c,ec[j]? = some c→w.cell? ⟨g,i*m+j,none⟩=some c
 ext h he:=⟨(mA R E v xs i ec).ext h.1 he,h.2.1,fun j c hj=>by rw [kX (he g h.2.1)];exact h.2.2 j c hj⟩
 lt h:=(mA R E v xs i ec).lt h.1
theorem Sat.takeOutC {xs:List α} {m:Nat} {i:Int} {u:α} (hS:Sat w0 w (Own (au R E) [v] xs :: Γ)) (h:ix xs i=some u) (hn:R.sz=m) :
  ∃ g cap ec,v=.slice (some ⟨g,0,none⟩) xs.length cap∧R.rd w ec u∧Sat w0 w (Own R ec u :: iw R E v xs i.toNat ec g m :: Γ):=by
 obtain ⟨k,rfl,hk,rfl⟩:=eT h
 subst hn
 obtain ⟨fp,ho,_⟩:=hS.head
 rcases ho with ⟨_,h2,_⟩ | ⟨g,cap,cur,ccs,fe,hv,hg,h1,h2,h3,h4,h5,rfl⟩
 ·subst h2;simp at hk
 obtain ⟨ec,f1,f2,f3,k1,rfl,k3,k4⟩:=jH h5 k hk
 have hv:v=.slice (some ⟨g,0,none⟩) xs.length cap:=by simpa using hv
 have hm:∀ j c,ec[j]? = some c→w.cell? ⟨g,(k:Int).toNat*R.sz+j,none⟩=some c:=fun j c hj=>by
  have e2:=k3 j c hj
  simp only [Int.toNat_natCast]
  rw [cell_of_row w g _ cur E (0,0) hg,← Array.getElem?_toList]
  rw [← h4,List.getElem?_take] at e2
  split at e2
  ·exact e2
  ·cases e2
 refine ⟨g,cap,ec,hv,R.own_rd k1,?_⟩
 have hrl:=R.rd_len (R.own_rd k1)
 clear k1 k3 k4 h5 h4 h3 h2 h1 hg
 subst hv
 refine hS.splitp fun f hf=>?_
 rcases hf with ⟨_,h2,_⟩ | ⟨g',cap',cur,ccs,fe,hv,hg,h1,h2,h3,h4,h5,rfl⟩
 ·subst h2;simp at hk
 obtain ⟨rfl,rfl⟩:g=g'∧cap=cap':=by simpa using hv
 obtain ⟨ec',f1,f2,f3,k1,rfl,k3,k4⟩:=jH h5 k hk
 have hec:ec=ec':=by
  refine List.ext_getElem (by rw [hrl,R.rd_len (R.own_rd k1)]) fun j hj1 hj2=>?_
  have e1:=hm j ec[j] (List.getElem?_eq_getElem hj1)
  have e2:=k3 j ec'[j] (List.getElem?_eq_getElem hj2)
  simp only [Int.toNat_natCast] at e1
  rw [cell_of_row w g _ cur E (0,0) hg,← Array.getElem?_toList] at e1
  rw [← h4,List.getElem?_take] at e2
  split at e2
  ·rw [e1] at e2;exact Option.some.inj e2
  ·cases e2
 subst hec
 refine ⟨f2,g :: (f1++f3),?_,k1,⟨⟨fun b hb=>?_,fun w' y f' he ho=>⟨g :: (f1++(f'++f3)),?_,.inr ⟨g,cap,cur,ccs,_,by simp,by rw [he g (by simp)];exact hg,by simpa using h1,h2,h3,by simpa using h4,by
  simp only [Int.toNat_natCast]
  exact k4 w' y f' (fun b hb=>he b (List.mem_cons_of_mem _ hb)) ho,rfl⟩⟩⟩,List.mem_cons_self,hm⟩⟩
 ·refine List.perm_middle.trans (.cons _ ?_)
  rw [← List.append_assoc,← List.append_assoc]
  exact List.Perm.append_right _ List.perm_append_comm
 ·rcases List.mem_cons.1 hb with rfl | hb
  ·exact (Array.getElem?_eq_some_iff.1 hg).1
  ·refine eS h5 b ?_
   rcases List.mem_append.1 hb with h | h <;> simp [h]
 ·refine .trans (.cons _ ?_) List.perm_middle.symm
  rw [← List.append_assoc,← List.append_assoc]
  exact List.Perm.append_right _ List.perm_append_comm
theorem Sat.putBackC {xs ys:List α} {i:Int} {y:α} {ec:List Value} {g m:Nat} (hS:Sat w0 w (Own R ec y :: iw R E v xs i.toNat ec g m :: Γ)) (h:sto xs i y=some ys):Sat w0 w (Own (au R E) [v] ys :: Γ):=by
 have e:ys=xs.set i.toNat y:=by
  unfold sto at h;split at h
  ·exact (Option.some.inj h).symm
  ·cases h
 subst e
 exact hS.joinp fun f g h1 h2=>h2.1.2 w y f (fun _ _=>rfl) h1
theorem Sat.holeCells (a:Nat) {xs:List α} {i g m:Nat} {ec:List Value} (hS:Sat w0 w Γ) (hi:Γ[a]? = some (iw R E v xs i ec g m)):∀ j c,ec[j]? = some c→w.cell? ⟨g,i*m+j,none⟩=some c:=by
 obtain ⟨fp,ho,_⟩:=(hS.top a hi).head
 exact ho.2.2
end
theorem lq {P:Program} {e:Env} {w:World} {v:Value} {ty:TypeId} {pos:String} {af:Array Edge} {x y:Operand} {α:Type} {E:TypeId} {d:Option Nat} {t:TypeId} [ht:SliceT P t E] {zz:List Value} {m bytes:Nat} [hz:ElemT P E zz m bytes] {xs:List α} (hs:ev e x=v) {g cap:Nat} (hv:v=.slice (some ⟨g,0,none⟩) xs.length cap) {k:IntKind} {j:Int} (hi:ev e y=.int k j) {u:α} (h:ix xs j=some u) :
  PV P ⟨d,.indexAddr t x y,ty,pos,af,none⟩ e w (.pointer (some ⟨g,j.toNat*m,none⟩)):=fun w' _=>by
 obtain ⟨k',rfl,hk,rfl⟩:=eT h
 subst hv
 have hz:=hz.h
 cases hq:P.info? E with
 | none=>simp [hq] at hz
 | some inf =>
  simp [hq] at hz
  have hsz:inf.size=m:=hz.2.1
  unfold execOp
  simp [hs,hi,Instr.indexAt,asIntOf,run_underlying ht.h,sizeOf,typeInfo,hq,hk,Addr.add_lit,hsz]
def gq {α β:Type} (R:Rep α) (S:Rep β) (j:Nat) (u:α) (z:β) (y:α):Prop :=
 ∀ w ec f cs fa,R.own w ec u f→S.own w cs z fa→j+cs.length≤ec.length∧∃ f' g',R.own w (ec.take j++cs++ec.drop (j+cs.length)) y f'∧(f'++g').Perm (f++fa)
theorem nK {α:Type} {R:Rep α} (u z:α):gq R R 0 u z z:=fun w ec f cs fa h k=>by
 have e1:=R.rd_len (R.own_rd h)
 have e2:=R.rd_len (R.own_rd k)
 refine ⟨by omega,fa,f,?_,List.perm_append_comm⟩
 rw [Nat.zero_add,List.drop_of_length_le (by omega)];simpa using k
theorem nY {α β γ:Type} {R:Rep α} {T:Rep γ} {S:Rep β} {j k':Nat} {u:α × γ} {z:β} {y:γ} (h:gq T S j u.2 z y) (hk:k'=R.sz+j):gq (iY R T) S k' u z (u.1,y):=fun w ec f cs fa hf k=>by
 obtain ⟨c1,c2,f1,f2,rfl,rfl,h1,h2⟩:=hf
 obtain ⟨k1,f',g',k2,k3⟩:=h w c2 f2 cs fa h2 k
 have hl:=R.rd_len (R.own_rd h1)
 subst hk
 refine ⟨by simp;omega,f1++f',g',⟨c1,_,f1,f',?_,rfl,h1,k2⟩,List.perm_iff_count.2 fun a=>?_⟩
 ·rw [← hl,List.take_append,List.drop_append,List.take_of_length_le (by omega),List.drop_of_length_le (by omega)]
  simp [Nat.add_assoc]
 ·have:=List.perm_iff_count.1 k3 a
  simp only [List.count_append] at this ⊢;omega
theorem iI {α β:Type} {R:Rep α} {S:Rep β} {w:World} {j:Nat} {cs:List Value} {z:β} {fa:List Nat} (hz:S.own w cs z fa) {y:α}:∀ {xs:List α} {ccs:List Value} {f:List Nat},dh R w ccs xs f→∀ (k:Nat) (hk:k<xs.length),gq R S j xs[k] z y →
  k*R.sz+j+cs.length≤ccs.length∧∃ f' g',dh R w (ccs.take (k*R.sz+j)++cs++ccs.drop (k*R.sz+j+cs.length)) (xs.set k y) f'∧(f'++g').Perm (f++fa)
 | [],_,_,_,k,hk,_=>absurd hk (by simp)
 | x :: xs,_,_,h,k,hk,hu=>by
  obtain ⟨ec,rest,f1,f2,rfl,rfl,h1,h2⟩:=h
  cases k with
  | zero =>
   obtain ⟨k1,f',g',k2,k3⟩:=hu w ec f1 cs fa h1 hz
   refine ⟨by simp;omega,f'++f2,g',⟨_,rest,f',f2,?_,rfl,k2,h2⟩,List.perm_iff_count.2 fun a=>?_⟩
   ·rw [Nat.zero_mul,Nat.zero_add,List.take_append_of_le_length (by omega),List.drop_append_of_le_length (by omega)];simp
   ·have:=List.perm_iff_count.1 k3 a
    simp only [List.count_append] at this ⊢;omega
  | succ k =>
   have hl:=R.rd_len (R.own_rd h1)
   obtain ⟨k1,f',g',k2,k3⟩:=iI hz h2 k (by simpa using hk) (by simpa using hu)
   have e:(k+1)*R.sz+j=ec.length+(k*R.sz+j):=by rw [Nat.succ_mul];omega
   refine ⟨by rw [e,List.length_append];omega,f1++f',g',⟨ec,_,f1,f',?_,rfl,h1,k2⟩,List.perm_iff_count.2 fun a=>?_⟩
   ·rw [e,List.take_append,List.drop_append,List.take_of_length_le (by omega),List.drop_of_length_le (by omega)]
    simp [Nat.add_assoc]
   ·have:=List.perm_iff_count.1 k3 a
    simp only [List.count_append] at this ⊢;omega
section
variable {P:Program} {n:Nat} {ops:Array Oper} {K:Env→World→Prop} {rest:List Oper} {e:Env} {w w0:World} {v:Value} {ty:TypeId} {pos:String} {af:Array Edge} {Γ:List Asn} {x y:Operand} {α β:Type} {R:Rep α} {S:Rep β} {E:TypeId}
theorem lJ {t:TypeId} {z:List Value} {m' bytes:Nat} [hz:ElemT P t z m' bytes] {xs ys:List α} {g ln cap o j m:Nat} {u yv:α} {zv:β} {cs:List Value} (hv:v=.slice (some ⟨g,0,none⟩) ln cap)
  (hS:Sat w0 w (Own S cs zv :: Own (au R E) [v] xs :: Γ)) {i:Int} (hix:ix xs i=some u) (h:sto xs i yv=some ys) (hn:R.sz=m) (hs:S.sz=m') (ho:o=i.toNat*m+j) (hx:ev e x=.pointer (some ⟨g,o,none⟩)) (hy:(ev e y).cells=cs.toArray)
  (hup:gq R S j u zv yv) (hK:∀ w',Sat w0 w' (Own (au R E) [v] ys :: Γ)→EL P n ops K rest e w'):EL P n ops K (⟨none,.store t x y,ty,pos,af,none⟩ :: rest) e w:=by
 intro a ha
 refine wpList_plain rfl fun K' hK'=>?_
 obtain ⟨k,rfl,hk,rfl⟩:=eT hix
 have hys:ys=xs.set k yv:=by
  unfold sto at h;split at h
  ·simpa using (Option.some.inj h).symm
  ·cases h
 subst hys hv hn ho
 simp only [Int.toNat_natCast] at hx
 have hz:=hz.h
 cases hi:P.info? t with
 | none=>simp [hi] at hz
 | some inf =>
  simp [hi] at hz
  have hS':Sat w0 w (kY (Own S cs zv) (Own (au R E) [.slice (some ⟨g,0,none⟩) ln cap] xs) :: Γ):=hS.join fun f g h1 h2=>⟨f,g,rfl,h1,h2⟩
  obtain ⟨fp,⟨fy,f,rfl,hyo,hv⟩,hnd,_⟩:=hS'.head
  have hel:cs.length=S.sz:=S.rd_len (S.own_rd hyo)
  obtain ⟨cur,hh,hcs⟩:∃ cur,w.heap[g]? = some (.cells cur E (0,0))∧k*R.sz+j+cs.length≤cur.size:=by
   rcases hv with ⟨_,h,_⟩ | ⟨g',cap',cur,ccs,f2,h,hg',h1,h2,h3,h4,h5,_⟩
   ·subst h;simp at hk
   ·simp at h
    obtain ⟨rfl,_⟩:=h
    have:=(iI hyo h5 k hk hup).1
    have hcl:ccs.length=xs.length*R.sz:=eC (dN h5)
    exact ⟨cur,hg',by rw [h3];exact Nat.le_trans (by omega) (Nat.mul_le_mul_right _ h1)⟩
  have hh':w.heap[g]? = some (.cells cur.toList.toArray E (0,0)):=by simpa using hh
  obtain ⟨w',hr,hnew,hc⟩:=dY (P:=P) cs (k*R.sz+j) 0 cur.toList w hh' (by simp;omega) (S.rd_one (S.own_rd hyo))
  have hsz:¬ (cs.toArray.size≠inf.size):=by simp;omega
  unfold Oper.wp execOp
  simp only [ha.eval,hx,Instr.storeAt,Instr.sureAddr,storeVar,sizeOf,typeInfo,hi,hy,Sem.run_bind,Sem.run_pure,run_program,Result.andThen_ok,hsz,if_false,Sem.run_ite,List.toList_toArray,hr,Oper.upon_skip]
  refine hK' _ _ (hK w' ?_ _ ha)
  refine hS'.upd ?_
  rintro _ ⟨gy,gf,rfl,hy2,hv2⟩ hnd2
  rcases hv2 with ⟨_,h,_⟩ | ⟨g',cap',cur',ccs,f2,h,hg',h1,h2,h3,h4,h5,rfl⟩
  ·subst h;simp at hk
  ·simp at h
   obtain ⟨rfl,rfl,rfl⟩:=h
   obtain ⟨rfl⟩:cur'=cur:=by rw [hh] at hg';simpa using hg'.symm
   obtain ⟨hle,f',g',h6,hp⟩:=iI hy2 h5 k hk hup
   have hoth:∀ x,x≠g→x<w.heap.size→w'.heap[x]? = w.heap[x]?:=fun x hx hlt=>hc.block x hlt (by simpa using hx)
   have hcl:ccs.length=xs.length*R.sz:=eC (dN h5)
   have hpp:(f'++g'++[g]).Perm (gy++g :: f2):=List.perm_iff_count.2 fun a=>by
    have:=List.perm_iff_count.1 hp a
    simp only [List.count_append,List.count_cons,List.count_nil] at this ⊢;omega
   have hnd3:=hpp.nodup_iff.2 hnd2
   have hgn:g∉f':=fun hm=>by
    have:=(List.nodup_append.1 hnd3).2.2 g (List.mem_append_left _ hm) g (by simp)
    exact this rfl
   refine ⟨g :: f',.inr ⟨g,cap,_,ccs.take (k*R.sz+j)++cs++ccs.drop (k*R.sz+j+cs.length),f',by simp,hnew,by simpa using h1,h2,?_,?_,et h6 (fun b hb=>hoth b (fun e=>hgn (e ▸ hb)) (eS h6 b hb)),rfl⟩,?_,hc.mono (by simp),fun b hb=>.inl ?_⟩
   ·simp only [List.size_toArray,List.length_append,List.length_take,List.length_drop,Array.length_toList,Nat.add_zero]
    omega
   ·rw [← h4,List.length_set]
    have:=iG cur.toList cs (k*R.sz+j) cs.length (xs.length*R.sz) (by omega) (by simp;have:=Nat.mul_le_mul_right R.sz h1;omega) rfl
    simp only [Nat.add_zero] at this ⊢
    rw [this]
   ·exact List.nodup_cons.2 ⟨hgn,(List.nodup_append.1 (List.nodup_append.1 hnd3).1).1⟩
   ·refine hpp.mem_iff.1 ?_
    rcases List.mem_cons.1 hb with rfl | hb
    ·simp
    ·simp [hb]
end
theorem gP {e:Env} {i:Nat} {x:Operand} {v:Value} {l:List (Nat × Operand)} {vs:List Value} (h:(ev e x).cells=[v].toArray) (t:l.map (fun p=>(p.1,(ev e p.2).cells))=((vs.zipIdx (i+1)).map fun p=>(p.2,[p.1].toArray))) :
  ((i,x) :: l).map (fun p=>(p.1,(ev e p.2).cells))=(((v :: vs).zipIdx i).map fun p=>(p.2,[p.1].toArray)):=by rw [List.map_cons,List.zipIdx_cons,List.map_cons,h,t]
def gW (N:Nat) (a0:List Int):Option Bool :=
  some (decide (1048576<(a0.length:Int)))
def dB (N:Nat):Nat→(List Int)→Int→Int→Option (Int × Int)
 | 0,_,_,_=>none
 | k+1,J,U,D =>
  (bif decide (D<(J.length:Int)) then
  (bif decide (D<4000) then
  (ml U 131).bind fun Y =>
  (ix J D).bind fun Z =>
  (ad Y (IntKind.i64.wrap Z)).bind fun o3 =>
  (ad o3 7).bind fun o4 =>
  (ad D 1).bind fun o5 =>
  dB N k J (dg o4 1073741823) o5
  else
  some (U,D))
  else
  some (U,D))
def eY (N:Nat) (a0:List Int):Option (Int × Int) :=
  (ad 10101 (a0.length:Int)).bind fun D =>
  (dB N N a0 D 0).bind fun J =>
  lpB J fun (U,Y) =>
  some (0,U)
def dl (N:Nat) (a0:List Int) (a1:Int) (a2:Int):Option (Int × Int × Int) :=
  (sr (IntKind.i64.wrap ((IntKind.i64.wrap (a2*6364136223846793005))+1442695040888963407)) 33).bind fun D =>
  (sr (IntKind.i64.wrap ((IntKind.i64.wrap (a2*6364136223846793005))+1442695040888963407)) 45).bind fun J =>
  (bif decide (a1<(a0.length:Int)) then
  (ix a0 a1).bind fun U =>
  some ((dg (IntKind.i64.wrap ((dg (eR D J) 255)+(IntKind.i64.wrap U))) 255),(IntKind.i64.wrap (a1+1)),(IntKind.i64.wrap ((IntKind.i64.wrap (a2*6364136223846793005))+1442695040888963407)))
  else
  some ((dg (eR D J) 255),a1,(IntKind.i64.wrap ((IntKind.i64.wrap (a2*6364136223846793005))+1442695040888963407))))
def bf (N:Nat) (a0:List Int) (a1:Int) (a2:Int) (a3:Int):Option (Int × Int × Int) :=
  (bif decide (a3≤0) then
  some (0,a1,a2)
  else
  (bif decide (a3≤256) then
  (dl N a0 a1 a2).bind fun D =>
  (rm D.1 a3).bind fun o3 =>
  some (o3,D.2.1,D.2.2)
  else
  (dl N a0 a1 a2).bind fun J =>
  (dl N a0 J.2.1 J.2.2).bind fun U =>
  (dl N a0 U.2.1 U.2.2).bind fun Y =>
  (dl N a0 Y.2.1 Y.2.2).bind fun Z =>
  (ml J.1 16777216).bind fun o4 =>
  (ml U.1 65536).bind fun o5 =>
  (ad o4 o5).bind fun o6 =>
  (ml Y.1 256).bind fun o7 =>
  (ad o6 o7).bind fun o8 =>
  (ad o8 Z.1).bind fun o9 =>
  (rm o9 a3).bind fun pc =>
  some (pc,Z.2.1,Z.2.2)))
def aZ (N:Nat) (a0:List Int) (a1:Int) (a2:Int) (a3:List Int):Option (Int × Int × Int) :=
  (bf N a0 a1 a2 (a3.length:Int)).bind fun D =>
  (ix a3 D.1).bind fun J =>
  some (J,D.2.1,D.2.2)
def bM (N:Nat) (a0:Int) (a1:Int) (a2:Int):Option Bool :=
  (bif decide (a1≤a0) then
  some (decide (a0≤a2))
  else
  some false)
def bW (N:Nat) (a0:Int) (a1:Int) (a2:Int):Option Bool :=
  (bif decide (a1≤a0) then
  some (decide (a0≤a2))
  else
  some false)
def dc (N:Nat) (a0:Int) (a1:Int):Option Int :=
  (bif decide (a0<a1) then
  some (-1)
  else
  (bif decide (a1<a0) then
  some 1
  else
  some 0))
def dZ (N:Nat):Nat→Int→(List Int)→Int→Int→Option (Sum Int Int)
 | 0,_,_,_,_=>none
 | k+1,J,U,Y,D =>
  (bif decide (D<Y) then
  (ix U D).bind fun Z =>
  (bif (Z == J) then
  some (.inl D)
  else
  (ad D 1).bind fun o3 =>
  dZ N k J U Y o3)
  else
  some (.inr D))
def eP (N:Nat) (a0:List Int) (a1:Int):Option Int :=
  (dZ N N a1 a0 (a0.length:Int) 0).bind fun D =>
  lpS D (fun q=>some q) fun J =>
  some (-1)
def ff (N:Nat) (a0:List Int) (a1:Int):Option Bool :=
  (eP N a0 a1).bind fun D =>
  some (decide (0≤D))
def cB (N:Nat):Nat→(List Int)→Int→(List Int)→Int→Int→Option (Sum Bool Int)
 | 0,_,_,_,_,_=>none
 | k+1,J,U,Y,Z,D =>
  (bif decide (D<Z) then
  (ix Y D).bind fun o3 =>
  (sb U 1).bind fun o4 =>
  (bW N o3 0 o4).bind fun o5 =>
  (bif o5 then
  (slc J 0 D).bind fun o6 =>
  (ff N o6 o3).bind fun o7 =>
  (bif o7 then
  some (.inl false)
  else
  (ad D 1).bind fun o8 =>
  cB N k J U Y Z o8)
  else
  some (.inl false))
  else
  some (.inr D))
def eQ (N:Nat) (a0:List Int) (a1:Int):Option Bool :=
  (cB N N a0 a1 a0 (a0.length:Int) 0).bind fun D =>
  lpS D (fun q=>some q) fun J =>
  some true
def cE (N:Nat):Nat→ByteArray→Int→Option (Sum Bool Int)
 | 0,_,_=>none
 | k+1,J,D =>
  (bif decide (D<(J.size:Int)) then
  (bx J D).bind fun U =>
  (bif decide (U<97) then
  some (.inl false)
  else
  (bx J D).bind fun Y =>
  (bif decide (122<Y) then
  some (.inl false)
  else
  (ad D 1).bind fun Z =>
  cE N k J Z))
  else
  some (.inr D))
def dO (N:Nat) (a0:ByteArray):Option Bool :=
  (cE N N a0 0).bind fun D =>
  lpS D (fun q=>some q) fun U =>
  (bM N (a0.size:Int) 1 4).bind fun J =>
  some J
def aW (N:Nat):Nat→Int→ByteArray→(List Int)→Int→Option (Sum Bool Int)
 | 0,_,_,_,_=>none
 | k+1,U,Y,J,D =>
  (bif decide (D<(J.length:Int)) then
  (ix J D).bind fun Z =>
  (bif (Z == U) then
  some (.inl true)
  else
  (ad D 1).bind fun o3 =>
  aW N k U Y J o3)
  else
  some (.inr D))
def cM (N:Nat) (a0:ByteArray) (a1:List Int) (a2:Int):Option Bool :=
  (aW N N a2 a0 a1 0).bind fun D =>
  lpS D (fun q=>some q) fun J =>
  some false
def ek (N:Nat):Nat→(List Int)→Int→Int→Option (Sum Int Int)
 | 0,_,_,_=>none
 | k+1,J,U,D =>
  (bif decide (D<(J.length:Int)) then
  (ix J D).bind fun Y =>
  (bif (Y == U) then
  some (.inl D)
  else
  (ad D 1).bind fun Z =>
  ek N k J U Z)
  else
  some (.inr D))
def fm (N:Nat) (a0:List Int) (a1:Int):Option Int :=
  (ek N N a0 a1 0).bind fun D =>
  lpS D (fun q=>some q) fun J =>
  some (-1)
def bv (N:Nat):Nat→Int→(List (ByteArray × List Int))→(List Int)→Int→Int→Option (Sum Bool Int)
 | 0,_,_,_,_,_=>none
 | k+1,Y,J,Z,U,D =>
  (ix J U).bind fun o3 =>
  (bif decide (D<(o3.2.length:Int)) then
  (ix J U).bind fun o4 =>
  (ix o4.2 D).bind fun o5 =>
  (sb Y 1).bind fun o6 =>
  (bM N o5 0 o6).bind fun o7 =>
  (bif o7 then
  (ad D 1).bind fun o8 =>
  bv N k Y J Z U o8
  else
  some (.inl false))
  else
  some (.inr D))
def bu (N:Nat):Nat→Int→(List (ByteArray × List Int))→(List Int)→Int→Option (Sum Bool Int)
 | 0,_,_,_,_=>none
 | k+1,U,J,Y,D =>
  (bif decide (D<(J.length:Int)) then
  (ix J D).bind fun Z =>
  (dO N Z.1).bind fun o3 =>
  (bif o3 then
  (ix J D).bind fun o4 =>
  (bM N (o4.2.length:Int) 1 5).bind fun o5 =>
  (bif o5 then
  (bv N N U J Y D 0).bind fun o6 =>
  lpS o6 (fun q=>some (.inl q)) fun o8 =>
  (ad D 1).bind fun o7 =>
  bu N k U J Y o7
  else
  some (.inl false))
  else
  some (.inl false))
  else
  some (.inr D))
def bk (N:Nat):Nat→Int→(List (ByteArray × List Int))→(List Int)→Int→Bool→Int→Option (Bool × Int)
 | 0,_,_,_,_,_,_=>none
 | k+1,Y,J,Z,U,o3,D =>
  (bif decide (D<(J.length:Int)) then
  (bif o3 then
  (ad D 1).bind fun o5 =>
  bk N k Y J Z U true o5
  else
  (ix J D).bind fun o4 =>
  (cM N o4.1 o4.2 U).bind fun o6 =>
  (ad D 1).bind fun o7 =>
  bk N k Y J Z U o6 o7)
  else
  some (o3,D))
def bC (N:Nat):Nat→Int→(List (ByteArray × List Int))→(List Int)→Int→Option (Sum Bool Int)
 | 0,_,_,_,_=>none
 | k+1,J,U,Y,D =>
  (bif decide (D<J) then
  (bk N N J U Y D false 0).bind fun Z =>
  lpB Z fun (o3,o5) =>
  (bif o3 then
  (ad D 1).bind fun o4 =>
  bC N k J U Y o4
  else
  some (.inl false))
  else
  some (.inr D))
def bA (N:Nat):Nat→Int→(List (ByteArray × List Int))→(List Int)→Int→Option (Sum Bool Int)
 | 0,_,_,_,_=>none
 | k+1,U,Y,J,D =>
  (bif decide (D<(J.length:Int)) then
  (ix J D).bind fun Z =>
  (sb U 1).bind fun o3 =>
  (bM N Z 0 o3).bind fun o4 =>
  (bif o4 then
  (slc J 0 D).bind fun o5 =>
  (ix J D).bind fun o6 =>
  (fm N o5 o6).bind fun o7 =>
  (bif decide (0≤o7) then
  some (.inl false)
  else
  (ad D 1).bind fun o8 =>
  bA N k U Y J o8)
  else
  some (.inl false))
  else
  some (.inr D))
def cl (N:Nat) (a0:Int) (a1:List (ByteArray × List Int)) (a2:List Int):Option Bool :=
  (bM N a0 1 5).bind fun D =>
  (bif D then
  (bM N (a1.length:Int) 1 4).bind fun J =>
  (bif J then
  (bif decide (a0<(a2.length:Int)) then
  some false
  else
  (bu N N a0 a1 a2 0).bind fun U =>
  lpS U (fun q=>some q) fun o3 =>
  (bC N N a0 a1 a2 0).bind fun Y =>
  lpS Y (fun q=>some q) fun o4 =>
  (bA N N a0 a1 a2 0).bind fun Z =>
  lpS Z (fun q=>some q) fun o5 =>
  some true)
  else
  some false)
  else
  some false)
def eB (N:Nat) (a0:List Int) (a1:Int) (a2:Int) (a3:List ByteArray):Option (ByteArray × Int × Int) :=
  (bf N a0 a1 a2 (a3.length:Int)).bind fun D =>
  (ix a3 D.1).bind fun J =>
  some (J,D.2.1,D.2.2)
def dI (N:Nat) (a0:List Int) (a1:Int) (a2:Int) (a3:Int):Option (Bool × Int × Int) :=
  (bf N a0 a1 a2 a3).bind fun D =>
  some ((D.1 == 0),D.2.1,D.2.2)
def fv (N:Nat):Nat→ByteArray→Int→(List ByteArray)→Int→Int→Option ((List ByteArray) × Int × Int)
 | 0,_,_,_,_,_=>none
 | k+1,J,U,Y,Z,D =>
  (bif decide (D<(J.size:Int)) then
  (bx J D).bind fun o3 =>
  (bif (o3 == U) then
  (ssl J Z D).bind fun o4 =>
  (apd 16 Y [o4]).bind fun o5 =>
  (ad D 1).bind fun o6 =>
  (ad D 1).bind fun o7 =>
  fv N k J U o5 o6 o7
  else
  (ad D 1).bind fun o8 =>
  fv N k J U Y Z o8)
  else
  some (Y,Z,D))
def fG (N:Nat) (a0:ByteArray) (a1:Int):Option (List ByteArray) :=
  (fv N N a0 a1 [] 0 0).bind fun D =>
  lpB D fun (J,U,o3) =>
  (ssl a0 U (a0.size:Int)).bind fun Y =>
  (apd 16 J [Y]).bind fun Z =>
  some Z
def dD (N:Nat) (a0:Int):Option ByteArray :=
  (bM N a0 0 4).bind fun D =>
  (bif D then
  (ad a0 1).bind fun J =>
  (ssl (⟨#[88,89,90,85,86]⟩:ByteArray) a0 J).bind fun U =>
  some U
  else
  some ByteArray.empty)
def eZ (N:Nat):Nat→ByteArray→(List Int)→Int→Int→Option ((List Int) × Int)
 | 0,_,_,_,_=>none
 | k+1,U,Y,J,D =>
  (bif decide (D<5) then
  (dD N D).bind fun Z =>
  (ad J 1).bind fun o3 =>
  (ssl U J o3).bind fun o4 =>
  (bif (eqS Z o4) then
  (apd 8 Y [D]).bind fun o5 =>
  (ad D 1).bind fun o6 =>
  eZ N k U o5 J o6
  else
  (ad D 1).bind fun o7 =>
  eZ N k U Y J o7)
  else
  some (Y,D))
def fS (N:Nat):Nat→ByteArray→(List Int)→Int→Option ((List Int) × Int)
 | 0,_,_,_=>none
 | k+1,J,U,D =>
  (bif decide (D<(J.size:Int)) then
  (eZ N N J U D 0).bind fun Y =>
  lpB Y fun (Z,o4) =>
  (ad D 1).bind fun o3 =>
  fS N k J Z o3
  else
  some (U,D))
def fV (N:Nat) (a0:ByteArray):Option (List Int) :=
  (fS N N a0 [] 0).bind fun D =>
  lpB D fun (J,U) =>
  some J
def fP (N:Nat):Nat→(List Int)→ByteArray→Int→Option (ByteArray × Int)
 | 0,_,_,_=>none
 | k+1,J,U,D =>
  (bif decide (D<(J.length:Int)) then
  (ix J D).bind fun Y =>
  (dD N Y).bind fun Z =>
  (f8 U Z).bind fun o3 =>
  (ad D 1).bind fun o4 =>
  fP N k J o3 o4
  else
  some (U,D))
def fi (N:Nat) (a0:List Int):Option ByteArray :=
  (fP N N a0 (⟨#[40]⟩:ByteArray) 0).bind fun D =>
  lpB D fun (J,Y) =>
  (f8 J (⟨#[41]⟩:ByteArray)).bind fun U =>
  some U
def dQ (N:Nat):Nat→Int→(List (ByteArray × List Int))→(List Int)→ByteArray→Int→Option (ByteArray × Int)
 | 0,_,_,_,_,_=>none
 | k+1,Y,J,Z,U,D =>
  (bif decide (D<(J.length:Int)) then
  (bif decide (0<D) then
  (f8 U (⟨#[44]⟩:ByteArray)).bind fun o3 =>
  (ix J D).bind fun o4 =>
  (f8 o3 o4.1).bind fun o5 =>
  (ix J D).bind fun o6 =>
  (fi N o6.2).bind fun o7 =>
  (f8 o5 o7).bind fun o8 =>
  (ad D 1).bind fun o9 =>
  dQ N k Y J Z o8 o9
  else
  (ix J D).bind fun pc =>
  (f8 U pc.1).bind fun pd =>
  (ix J D).bind fun pf =>
  (fi N pf.2).bind fun pg =>
  (f8 pd pg).bind fun ph =>
  (ad D 1).bind fun pi =>
  dQ N k Y J Z ph pi)
  else
  some (U,D))
def fx (N:Nat) (a0:Int) (a1:List (ByteArray × List Int)) (a2:List Int):Option ByteArray :=
  (cl N a0 a1 a2).bind fun D =>
  (bif D then
  (fi N a2).bind fun J =>
  (f8 J (⟨#[61]⟩:ByteArray)).bind fun U =>
  (dQ N N a0 a1 a2 U 0).bind fun Y =>
  lpB Y fun (Z,o3) =>
  some Z
  else
  some ByteArray.empty)
def d4 (N:Nat):Nat→ByteArray→Int→(List (ByteArray × List Int))→(List Int)→Int→(List (ByteArray × List Int))→(List Int)→(List ByteArray)→Int→Int→Int→Option (Int × Int)
 | 0,_,_,_,_,_,_,_,_,_,_,_=>none
 | k+1,Z,o3,o4,o5,o6,o7,o8,U,Y,J,D =>
  (bif decide (D<5) then
  (dD N D).bind fun o9 =>
  (ix U Y).bind fun pc =>
  (ad J 1).bind fun pd =>
  (ssl pc J pd).bind fun pf =>
  (bif (eqS o9 pf) then
  (ad D 1).bind fun pg =>
  (ad D 1).bind fun ph =>
  d4 N k Z o3 o4 o5 pg o7 o8 U Y J ph
  else
  (ad D 1).bind fun pi =>
  d4 N k Z o3 o4 o5 o6 o7 o8 U Y J pi)
  else
  some (o6,D))
def eI (N:Nat):Nat→ByteArray→Int→(List (ByteArray × List Int))→(List Int)→Int→(List (ByteArray × List Int))→(List Int)→(List ByteArray)→Int→Int→Option (Int × Int)
 | 0,_,_,_,_,_,_,_,_,_,_=>none
 | k+1,Z,o3,o4,o5,J,o6,o7,U,Y,D =>
  (ix U Y).bind fun o8 =>
  (bif decide (D<(o8.size:Int)) then
  (d4 N N Z o3 o4 o5 J o6 o7 U Y D J).bind fun o9 =>
  lpB o9 fun (pc,pf) =>
  (ad D 1).bind fun pd =>
  eI N k Z o3 o4 o5 pc o6 o7 U Y pd
  else
  some (J,D))
def eM (N:Nat):Nat→ByteArray→Int→(List (ByteArray × List Int))→(List Int)→Int→(List (ByteArray × List Int))→(List Int)→(List ByteArray)→Int→Option (Int × (List (ByteArray × List Int)) × Int)
 | 0,_,_,_,_,_,_,_,_,_=>none
 | k+1,U,Y,Z,o3,o4,o5,o6,J,D =>
  (bif decide (D<(J.length:Int)) then
  (ix J D).bind fun o8 =>
  (fG N o8 40).bind fun o9 =>
  (ix o9 0).bind fun pc =>
  (ix J D).bind fun pd =>
  (fV N pd).bind fun pf =>
  (apd 40 o5 [(pc,pf)]).bind fun o7 =>
  (eI N N U Y Z o3 o4 o7 o6 J D 0).bind fun pg =>
  lpB pg fun (ph,pj) =>
  (ad D 1).bind fun pi =>
  eM N k U Y Z o3 ph o7 o6 J pi
  else
  some (o4,o5,D))
def aX (N:Nat) (a0:ByteArray):Option ((Int × List (ByteArray × List Int) × List Int) × Bool) :=
  (fG N a0 61).bind fun D =>
  (bif ((D.length:Int) != 2) then
  some ((0,[],[]),false)
  else
  (ix D 0).bind fun Z =>
  (fV N Z).bind fun J =>
  (ix D 1).bind fun o3 =>
  (fG N o3 44).bind fun o4 =>
  (eM N N a0 0 [] [] 0 [] J o4 0).bind fun o5 =>
  lpB o5 fun (U,Y,o7) =>
  (fx N U Y J).bind fun o6 =>
  (bif (eqS o6 a0) then
  (bif (eqS a0 ByteArray.empty) then
  some ((0,[],[]),false)
  else
  some ((U,Y,J),true))
  else
  some ((0,[],[]),false)))
def dw (N:Nat):Nat→(List Int)→Int→Int→Int→(List (ByteArray × List Int))→(List Int)→Int→(List (ByteArray × List Int))→(List Int)→Int→(List (ByteArray × List Int))→(List Int)→Int→ByteArray→(List Int)→Int→Option (Int × Int × (List Int) × Int)
 | 0,_,_,_,_,_,_,_,_,_,_,_,_,_,_,_,_=>none
 | k+1,U,Y,Z,o5,o6,o7,o8,o9,pc,o3,pd,pf,pg,ph,o4,D =>
  (bif decide (0<D) then
  (bf N U Y Z o3).bind fun J =>
  (apd 8 o4 [J.1]).bind fun pi =>
  (sb D 1).bind fun pj =>
  dw N k U J.2.1 J.2.2 o5 o6 o7 o8 o9 pc o3 pd pf pg ph pi pj
  else
  some (Y,Z,o4,D))
def dx (N:Nat):Nat→(List Int)→Int→Int→Int→(List (ByteArray × List Int))→(List Int)→Int→(List (ByteArray × List Int))→(List Int)→Int→(List (ByteArray × List Int))→(List Int)→Int→Option (Int × Int × (List (ByteArray × List Int)) × Int)
 | 0,_,_,_,_,_,_,_,_,_,_,_,_,_=>none
 | k+1,U,Z,o3,o4,o5,o6,o7,o8,o9,pc,Y,pd,D =>
  (bif decide (0<D) then
  (bf N U Z o3 5).bind fun J =>
  (ix ([(⟨#[114]⟩:ByteArray),(⟨#[115]⟩:ByteArray),(⟨#[116]⟩:ByteArray),(⟨#[117]⟩:ByteArray),(⟨#[118]⟩:ByteArray)]:List ByteArray) J.1).bind fun pf =>
  (qt J.1 4).bind fun pg =>
  (ad 2 pg).bind fun ph =>
  (dw N N U J.2.1 J.2.2 o4 o5 o6 o7 o8 o9 pc Y pd D pf [] ph).bind fun pi =>
  lpB pi fun (pj,pk,pn,pq) =>
  (apd 40 Y [(pf,pn)]).bind fun po =>
  (sb D 1).bind fun pp =>
  dx N k U pj pk o4 o5 o6 o7 o8 o9 pc po pd pp
  else
  some (Z,o3,Y,D))
def cA (N:Nat):Nat→(List Int)→Int→Int→Int→(List (ByteArray × List Int))→(List Int)→Int→(List (ByteArray × List Int))→(List Int)→Int→(List (ByteArray × List Int))→(List Int)→Int→Option (Int × Int × (List Int) × Int)
 | 0,_,_,_,_,_,_,_,_,_,_,_,_,_=>none
 | k+1,U,o3,o4,o5,o6,o7,o8,o9,pc,Y,pd,Z,D =>
  (bif decide (D<Y) then
  (dI N U o3 o4 2).bind fun J =>
  (bif J.1 then
  (apd 8 ([D]) Z).bind fun pf =>
  (ad D 1).bind fun pg =>
  cA N k U J.2.1 J.2.2 o5 o6 o7 o8 o9 pc Y pd pf pg
  else
  (ad D 1).bind fun ph =>
  cA N k U J.2.1 J.2.2 o5 o6 o7 o8 o9 pc Y pd Z ph)
  else
  some (o3,o4,Z,D))
def eK (N:Nat) (a0:List Int) (a1:Int) (a2:Int):Option ((Int × List (ByteArray × List Int) × List Int) × Int × Int) :=
  (eB N a0 a1 a2 ([(⟨#[40,88,89,90,41,61,114,40,88,89,41,44,115,40,89,90,41,44,116,40,90,88,41]⟩:ByteArray),(⟨#[40,88,89,90,85,41,61,114,40,88,89,41,44,115,40,89,90,41,44,116,40,90,85,41,44,117,40,85,88,41]⟩:ByteArray),(⟨#[40,88,89,90,41,61,114,40,88,89,41,44,115,40,89,90,41]⟩:ByteArray),(⟨#[40,88,41,61,114,40,88,89,41,44,115,40,89,90,41,44,116,40,90,85,41]⟩:ByteArray),(⟨#[40,88,89,90,41,61,118,40,88,89,90,41,44,114,40,88,89,41]⟩:ByteArray),(⟨#[40,88,89,41,61,114,40,88,89,41,44,114,40,89,88,41]⟩:ByteArray),(⟨#[40,88,89,90,85,41,61,118,40,88,89,90,41,44,115,40,90,85,41,44,116,40,85,88,41]⟩:ByteArray),(⟨#[40,88,41,61,114,40,88,88,41]⟩:ByteArray),(⟨#[40,88,89,41,61,114,40,88,90,41,44,115,40,90,89,41,44,114,40,88,85,41,44,115,40,85,89,41]⟩:ByteArray),(⟨#[40,41,61,114,40,88,89,41,44,115,40,89,88,41]⟩:ByteArray),(⟨#[40,88,89,90,85,86,41,61,114,40,88,89,41,44,115,40,89,90,41,44,116,40,90,85,41,44,117,40,85,86,41]⟩:ByteArray)]:List ByteArray)).bind fun Y =>
  (aX N Y.1).bind fun D =>
  (dI N a0 Y.2.1 Y.2.2 3).bind fun J =>
  (bif J.1 then
  (bf N a0 J.2.1 J.2.2 4).bind fun Z =>
  (ad 1 Z.1).bind fun U =>
  (bf N a0 Z.2.1 Z.2.2 4).bind fun o3 =>
  (ad 1 o3.1).bind fun o8 =>
  (dx N N a0 o3.2.1 o3.2.2 0 [] [] D.1.1 D.1.2.1 D.1.2.2 U [] [] o8).bind fun o9 =>
  lpB o9 fun (pc,pd,o4,ph) =>
  (cA N N a0 pc pd 0 [] [] D.1.1 D.1.2.1 D.1.2.2 U o4 [] 0).bind fun pf =>
  lpB pf fun (o5,o6,o7,pi) =>
  (cl N U o4 o7).bind fun pg =>
  (bif pg then
  some ((U,o4,o7),o5,o6)
  else
  some ((D.1.1,D.1.2.1,D.1.2.2),o5,o6))
  else
  some ((D.1.1,D.1.2.1,D.1.2.2),J.2.1,J.2.2))
def eV (N:Nat) (a0:List Int) (a1:Int) (a2:Int):Option ((Int × List (ByteArray × List Int) × List Int) × Int × Int) :=
  (eK N a0 a1 a2).bind fun D =>
  (bf N a0 D.2.1 D.2.2 14).bind fun J =>
  (bif (J.1 == 0) then
  (ad D.1.1 1).bind fun o5 =>
  (aZ N a0 J.2.1 J.2.2 ([0,6,o5]:List Int)).bind fun U =>
  some ((U.1,D.1.2.1,D.1.2.2),U.2.1,U.2.2)
  else
  (bif (J.1 == 1) then
  (eB N a0 J.2.1 J.2.2 ([ByteArray.empty,(⟨#[119]⟩:ByteArray),(⟨#[114]⟩:ByteArray)]:List ByteArray)).bind fun Y =>
  (apd 40 D.1.2.1 [(Y.1,[0])]).bind fun o6 =>
  some ((D.1.1,o6,D.1.2.2),Y.2.1,Y.2.2)
  else
  (bif (J.1 == 2) then
  (bf N a0 J.2.1 J.2.2 6).bind fun Z =>
  (sb Z.1 1).bind fun o7 =>
  (apd 8 D.1.2.2 [o7]).bind fun o8 =>
  some ((D.1.1,D.1.2.1,o8),Z.2.1,Z.2.2)
  else
  (bif (J.1 == 3) then
  (ix D.1.2.1 0).bind fun o9 =>
  (sto D.1.2.1 0 (o9.1,[])).bind fun pc =>
  some ((D.1.1,pc,D.1.2.2),J.2.1,J.2.2)
  else
  (bif (J.1 == 4) then
  (ix D.1.2.1 0).bind fun o3 =>
  (aZ N a0 J.2.1 J.2.2 ([(-1),5]:List Int)).bind fun o4 =>
  (ix o3.2 0).bind fun pg =>
  (sto o3.2 0 o4.1).bind fun pd =>
  (sto D.1.2.1 0 (o3.1,pd)).bind fun pf =>
  some ((D.1.1,pf,D.1.2.2),o4.2.1,o4.2.2)
  else
  some ((D.1.1,D.1.2.1,D.1.2.2),J.2.1,J.2.2))))))
def c7 (N:Nat):Nat→(List Int)→Int→Int→Int→(List Int)→Option (Int × Int × (List Int))
 | 0,_,_,_,_,_=>none
 | k+1,U,Y,Z,o3,D =>
  (bif decide ((D.length:Int)<o3) then
  (aZ N U Y Z ([0,1,2,3,5,9,16]:List Int)).bind fun J =>
  (apd 8 D [J.1]).bind fun o4 =>
  c7 N k U J.2.1 J.2.2 o3 o4
  else
  some (Y,Z,D))
def eA (N:Nat) (a0:List Int) (a1:Int) (a2:Int) (a3:Int):Option ((List Int) × Int × Int) :=
  (c7 N N a0 a1 a2 a3 []).bind fun D =>
  lpB D fun (J,U,Y) =>
  some (Y,J,U)
def dU (N:Nat):Nat→Int→Int→Option (Int × Int)
 | 0,_,_=>none
 | k+1,J,D =>
  (bif (D != 0) then
  (rm J D).bind fun U =>
  dU N k D U
  else
  some (J,D))
def dW (N:Nat) (a0:Int) (a1:Int):Option Int :=
  (dU N N a0 a1).bind fun D =>
  lpB D fun (J,U) =>
  some J
def b7 (N:Nat) (a0:Int) (a1:Int):Option Bool :=
  (bM N a1 1 1000000000).bind fun D =>
  (bif D then
  (bM N a0 (-1000000000) 1000000000).bind fun J =>
  (bif J then
  (sb 0 a0).bind fun U =>
  (dW N (imx a0 U) a1).bind fun Y =>
  some (Y == 1)
  else
  some false)
  else
  some false)
def cI (N:Nat) (a0:Int) (a1:Int):Option ((Int × Int) × Bool) :=
  (bif (a1 == 0) then
  some ((0,0),false)
  else
  (sb 0 4000000000000000000).bind fun o6 =>
  (bM N a0 o6 4000000000000000000).bind fun o7 =>
  (bif o7 then
  (sb 0 4000000000000000000).bind fun o8 =>
  (bM N a1 o8 4000000000000000000).bind fun o9 =>
  (bif o9 then
  (bif decide (a1<0) then
  (sb 0 a0).bind fun D =>
  (sb 0 a1).bind fun J =>
  (sb 0 D).bind fun pc =>
  (dW N (imx D pc) J).bind fun U =>
  (qt D U).bind fun Y =>
  (qt J U).bind fun Z =>
  (b7 N Y Z).bind fun pd =>
  (bif pd then
  some ((Y,Z),true)
  else
  some ((0,0),false))
  else
  (sb 0 a0).bind fun pf =>
  (dW N (imx a0 pf) a1).bind fun o3 =>
  (qt a0 o3).bind fun o4 =>
  (qt a1 o3).bind fun o5 =>
  (b7 N o4 o5).bind fun pg =>
  (bif pg then
  some ((o4,o5),true)
  else
  some ((0,0),false)))
  else
  some ((0,0),false))
  else
  some ((0,0),false)))
def gc (N:Nat) (a0:List Int) (a1:Int) (a2:Int):Option ((Int × Int) × Int × Int) :=
  (bf N a0 a1 a2 41).bind fun J =>
  (sb J.1 20).bind fun o5 =>
  (bf N a0 J.2.1 J.2.2 12).bind fun U =>
  (ad 1 U.1).bind fun o6 =>
  (cI N o5 o6).bind fun o3 =>
  (dI N a0 U.2.1 U.2.2 12).bind fun D =>
  (bif D.1 then
  (aZ N a0 D.2.1 D.2.2 ([1000000000,(-1000000000),999999937,1]:List Int)).bind fun Y =>
  (aZ N a0 Y.2.1 Y.2.2 ([1,1000000000,999999893]:List Int)).bind fun Z =>
  (cI N Y.1 Z.1).bind fun o4 =>
  some ((o4.1.1,o4.1.2),Z.2.1,Z.2.2)
  else
  some ((o3.1.1,o3.1.2),D.2.1,D.2.2))
def fH (N:Nat) (a0:List Int) (a1:Int) (a2:Int):Option ((Int × Int) × Int × Int) :=
  (gc N a0 a1 a2).bind fun J =>
  (bf N a0 J.2.1 J.2.2 14).bind fun D =>
  (bif (D.1 == 0) then
  (aZ N a0 D.2.1 D.2.2 ([0,(-1),1000000001]:List Int)).bind fun U =>
  some ((J.1.1,U.1),U.2.1,U.2.2)
  else
  (bif (D.1 == 1) then
  (ml 2 J.1.2).bind fun Z =>
  (aZ N a0 D.2.1 D.2.2 ([1000000001,(-1000000001),Z]:List Int)).bind fun Y =>
  some ((Y.1,J.1.2),Y.2.1,Y.2.2)
  else
  some ((J.1.1,J.1.2),D.2.1,D.2.2)))
def cN (N:Nat):Nat→(List Int)→Int→Int→Int→(List (Int × Int))→Option (Int × Int × (List (Int × Int)))
 | 0,_,_,_,_,_=>none
 | k+1,D,Z,o3,o4,J =>
  (bif decide ((J.length:Int)<o4) then
  (bf N D Z o3 4).bind fun U =>
  (aZ N D U.2.1 U.2.2 ([1,2,2,3]:List Int)).bind fun Y =>
  (cI N U.1 Y.1).bind fun o5 =>
  (apd 16 J [(o5.1.1,o5.1.2)]).bind fun o6 =>
  cN N k D Y.2.1 Y.2.2 o4 o6
  else
  some (Z,o3,J))
def dV (N:Nat) (a0:List Int) (a1:Int) (a2:Int) (a3:Int):Option ((List (Int × Int)) × Int × Int) :=
  (cN N N a0 a1 a2 a3 []).bind fun o3 =>
  lpB o3 fun (Y,Z,D) =>
  (bif decide (0<(D.length:Int)) then
  (dI N a0 Y Z 12).bind fun J =>
  (bif J.1 then
  (fH N a0 J.2.1 J.2.2).bind fun U =>
  (ix D 0).bind fun o5 =>
  (sto D 0 (U.1.1,U.1.2)).bind fun o4 =>
  some (o4,U.2.1,U.2.2)
  else
  some (D,J.2.1,J.2.2))
  else
  some (D,Y,Z))
def ce (N:Nat) (a0:List Int):Option ((Int × List (ByteArray × List Int) × List Int) × (List Int) × (List (Int × Int)) × Int) :=
  (eY N a0).bind fun Y =>
  (eV N a0 Y.1 Y.2).bind fun D =>
  (eA N a0 D.2.1 D.2.2 (D.1.2.1.length:Int)).bind fun J =>
  (dV N a0 J.2.1 J.2.2 (D.1.2.1.length:Int)).bind fun U =>
  (aZ N a0 U.2.1 U.2.2 ([0,1,30,300,5000,(-1)]:List Int)).bind fun Z =>
  some ((D.1.1,D.1.2.1,D.1.2.2),J.1,U.1,Z.1)
def cY (N:Nat):Nat→ByteArray→Int→Option (Sum Bool Int)
 | 0,_,_=>none
 | k+1,J,D =>
  (bif decide (D<(J.size:Int)) then
  (bx J D).bind fun U =>
  (bif decide (U<97) then
  some (.inl false)
  else
  (bx J D).bind fun Y =>
  (bif decide (122<Y) then
  some (.inl false)
  else
  (ad D 1).bind fun Z =>
  cY N k J Z))
  else
  some (.inr D))
def eX (N:Nat) (a0:ByteArray) (a1:Int):Option Bool :=
  (bif decide ((a0.size:Int)<1) then
  some false
  else
  (bif decide (a1<(a0.size:Int)) then
  some false
  else
  (cY N N a0 0).bind fun D =>
  lpS D (fun q=>some q) fun J =>
  some true))
def dK (N:Nat) (a0:ByteArray):Option Bool :=
  (eX N a0 4).bind fun D =>
  some D
def bl (N:Nat):Nat→Int→(List Bool)→(List (ByteArray × List Int))→Int→Int→(List Int)→Int→Int→Option (Sum Bool ((List Bool) × Int))
 | 0,_,_,_,_,_,_,_,_=>none
 | k+1,Y,J,o4,o5,o6,Z,o3,D =>
  (bif decide (D<o3) then
  (ix Z D).bind fun U =>
  (sb Y 1).bind fun o7 =>
  (bW N U 0 o7).bind fun o8 =>
  (bif o8 then
  (ix J U).bind fun pd =>
  (sto J U true).bind fun o9 =>
  (ad D 1).bind fun pc =>
  bl N k Y o9 o4 o5 o6 Z o3 pc
  else
  some (.inl false))
  else
  some (.inr (J,D)))
def bj (N:Nat):Nat→Int→(List Bool)→(List (ByteArray × List Int))→Int→Int→Option (Sum Bool ((List Bool) × Int))
 | 0,_,_,_,_,_=>none
 | k+1,Z,o3,U,Y,D =>
  (bif decide (D<Y) then
  (ix U D).bind fun J =>
  (dK N J.1).bind fun o4 =>
  (bif o4 then
  (bW N (J.2.length:Int) 1 5).bind fun o5 =>
  (bif o5 then
  (bl N N Z o3 U Y D J.2 (J.2.length:Int) 0).bind fun o6 =>
  lpS o6 (fun q=>some (.inl q)) fun (o7,o9) =>
  (ad D 1).bind fun o8 =>
  bj N k Z o7 U Y o8
  else
  some (.inl false))
  else
  some (.inl false))
  else
  some (.inr (o3,D)))
def bB (N:Nat):Nat→(List Bool)→Int→Int→Option (Sum Bool Int)
 | 0,_,_,_=>none
 | k+1,J,U,D =>
  (bif decide (D<U) then
  (ix J D).bind fun Y =>
  (bif Y then
  (ad D 1).bind fun Z =>
  bB N k J U Z
  else
  some (.inl false))
  else
  some (.inr D))
def cW (N:Nat) (a0:Int) (a1:List (ByteArray × List Int)) (a2:List Int):Option Bool :=
  (bW N a0 1 5).bind fun J =>
  (bif J then
  (bW N (a1.length:Int) 1 4).bind fun U =>
  (bif U then
  (eQ N a2 a0).bind fun Y =>
  (bif Y then
  (mk 1 (false:Bool) a0).bind fun Z =>
  (bj N N a0 Z a1 (a1.length:Int) 0).bind fun o3 =>
  lpS o3 (fun q=>some q) fun (D,o5) =>
  (bB N N D (D.length:Int) 0).bind fun o4 =>
  lpS o4 (fun q=>some q) fun o6 =>
  some true
  else
  some false)
  else
  some false)
  else
  some false)
def cK (N:Nat) (a0:Int) (a1:List (ByteArray × List Int)) (a2:List Int) (a3:Int):Option Int :=
  (cW N a0 a1 a2).bind fun D =>
  (bif D then
  (bW N a3 0 1000000).bind fun J =>
  (bif J then
  (ml 2 a0).bind fun U =>
  (ml U (a1.length:Int)).bind fun Y =>
  (ml Y a3).bind fun Z =>
  some Z
  else
  some 0)
  else
  some 0)
def dj (N:Nat):Nat→Int→Int→Option (Int × Int)
 | 0,_,_=>none
 | k+1,J,D =>
  (bif (D != 0) then
  (rm J D).bind fun U =>
  dj N k D U
  else
  some (J,D))
def d5 (N:Nat) (a0:Int) (a1:Int):Option Int :=
  (dj N N a0 a1).bind fun D =>
  lpB D fun (J,U) =>
  some J
def gp (N:Nat) (a0:Int):Option Int :=
  (sb 0 a0).bind fun D =>
  some (imx a0 D)
def aV (N:Nat) (a0:Int) (a1:Int):Option Bool :=
  (bW N a1 1 1000000000).bind fun D =>
  (bif D then
  (bW N a0 (-1000000000) 1000000000).bind fun J =>
  (bif J then
  (gp N a0).bind fun U =>
  (d5 N U a1).bind fun Y =>
  some (Y == 1)
  else
  some false)
  else
  some false)
def bJ (N:Nat):Nat→(List (Int × Int))→Int→(List (Int × Int))→Int→Int→Option (Sum ((List Int) × Int) Int)
 | 0,_,_,_,_,_=>none
 | k+1,Z,o3,U,Y,D =>
  (bif decide (D<Y) then
  (ix U D).bind fun J =>
  (aV N J.1 J.2).bind fun o4 =>
  (bif o4 then
  (bif decide (J.1<0) then
  some (.inl ([],0))
  else
  (ad D 1).bind fun o5 =>
  bJ N k Z o3 U Y o5)
  else
  some (.inl ([],0)))
  else
  some (.inr D))
def bI (N:Nat):Nat→(List (Int × Int))→Int→(List (Int × Int))→Int→Int→Option (Sum ((List Int) × Int) (Int × Int))
 | 0,_,_,_,_,_=>none
 | k+1,o4,J,U,Y,D =>
  (bif decide (D<Y) then
  (ix U D).bind fun Z =>
  (d5 N J Z.2).bind fun o5 =>
  (qt J o5).bind fun o6 =>
  (ml o6 Z.2).bind fun o3 =>
  (bif decide (1000<o3) then
  some (.inl ([],0))
  else
  (ad D 1).bind fun o7 =>
  bI N k o4 o3 U Y o7)
  else
  some (.inr (J,D)))
def be (N:Nat):Nat→Int→(List Int)→(List (Int × Int))→Int→Int→Option ((List Int) × Int)
 | 0,_,_,_,_,_=>none
 | k+1,J,U,Y,Z,D =>
  (bif decide (D<Z) then
  (ix Y D).bind fun o3 =>
  (qt J o3.2).bind fun o4 =>
  (ml o3.1 o4).bind fun o5 =>
  (apd 8 U [o5]).bind fun o6 =>
  (ad D 1).bind fun o7 =>
  be N k J o6 Y Z o7
  else
  some (U,D))
def cS (N:Nat) (a0:List (Int × Int)):Option ((List Int) × Int) :=
  (bJ N N a0 1 a0 (a0.length:Int) 0).bind fun J =>
  lpS J (fun q=>some q) fun o3 =>
  (bI N N a0 1 a0 (a0.length:Int) 0).bind fun U =>
  lpS U (fun q=>some q) fun (D,o4) =>
  (be N N D [] a0 (a0.length:Int) 0).bind fun Y =>
  lpB Y fun (Z,o5) =>
  some (Z,D)
def bE (N:Nat):Nat→(List Int)→Int→(List Int)→Int→Int→Option (Sum Bool Int)
 | 0,_,_,_,_,_=>none
 | k+1,Y,Z,J,U,D =>
  (bif decide (D<U) then
  (ix J D).bind fun o3 =>
  (bW N o3 0 9).bind fun o4 =>
  (bif o4 then
  (ad D 1).bind fun o5 =>
  bE N k Y Z J U o5
  else
  some (.inl false))
  else
  some (.inr D))
def bY (N:Nat) (a0:List Int):Option Bool :=
  (bE N N a0 (a0.length:Int) a0 (a0.length:Int) 0).bind fun D =>
  lpS D (fun q=>some q) fun Y =>
  (bif decide ((a0.length:Int)≤60) then
  (bif ((a0.length:Int) == 0) then
  some true
  else
  (sb (a0.length:Int) 1).bind fun J =>
  (ix a0 J).bind fun U =>
  some (U != 0))
  else
  some false)
def aN (N:Nat):Nat→(List Int)→(List Int)→(List Int)→Int→Int→Option ((List Int) × Int × Int)
 | 0,_,_,_,_,_=>none
 | k+1,U,Z,Y,D,J =>
  (bif decide (J<(U.length:Int)) then
  (ix U J).bind fun o4 =>
  (ad D o4).bind fun o3 =>
  (rm o3 10).bind fun o5 =>
  (apd 8 Y [o5]).bind fun o6 =>
  (qt o3 10).bind fun o7 =>
  (ad J 1).bind fun o8 =>
  aN N k U Z o6 o7 o8
  else
  (bif decide (0<D) then
  (rm D 10).bind fun o9 =>
  (apd 8 Y [o9]).bind fun pc =>
  (qt D 10).bind fun pd =>
  (ad J 1).bind fun pf =>
  aN N k U Z pc pd pf
  else
  some (Y,D,J)))
def dz (N:Nat):Nat→(List Int)→(List Int)→Int→Option Int
 | 0,_,_,_=>none
 | k+1,U,J,D =>
  (bif decide (0<D) then
  (sb D 1).bind fun Y =>
  (ix J Y).bind fun Z =>
  (bif (Z == 0) then
  (sb D 1).bind fun o3 =>
  dz N k U J o3
  else
  some D)
  else
  some D)
def cF (N:Nat) (a0:List Int):Option ((List Int) × Bool) :=
  (aN N N a0 [] [] 0 0).bind fun U =>
  lpB U fun (D,o3,o4) =>
  (dz N N [] D (D.length:Int)).bind fun Y =>
  lpB Y fun J =>
  (slc D 0 J).bind fun Z =>
  (bif decide (60<J) then
  some ([],false)
  else
  some (Z,true))
def a9 (N:Nat):Nat→(List Int)→(List Int)→(List Int)→Int→Int→(List Int)→Int→Int→(List Int)→Int→Int→Option ((List Int) × Int)
 | 0,_,_,_,_,_,_,_,_,_,_,_=>none
 | k+1,o5,o6,J,Y,Z,o7,o8,o9,o3,o4,D =>
  (bif decide (D<o4) then
  (ix o3 D).bind fun pc =>
  (ad Y D).bind fun U =>
  (ix J U).bind fun pd =>
  (ml Z pc).bind fun pf =>
  (ad pd pf).bind fun pg =>
  (ix J U).bind fun pj =>
  (sto J U pg).bind fun ph =>
  (ad D 1).bind fun pi =>
  a9 N k o5 o6 ph Y Z o7 o8 o9 o3 o4 pi
  else
  some (J,D))
def ba (N:Nat):Nat→(List Int)→(List Int)→(List Int)→(List Int)→Int→Int→Option ((List Int) × Int)
 | 0,_,_,_,_,_,_=>none
 | k+1,J,Z,o3,U,Y,D =>
  (bif decide (D<Y) then
  (ix U D).bind fun o4 =>
  (a9 N N J Z o3 D o4 U Y D J (J.length:Int) 0).bind fun o5 =>
  lpB o5 fun (o6,o8) =>
  (ad D 1).bind fun o7 =>
  ba N k J Z o6 U Y o7
  else
  some (o3,D))
def bV (N:Nat) (a0:List Int) (a1:List Int):Option ((List Int) × Bool) :=
  (bY N a0).bind fun J =>
  (bif J then
  (bY N a1).bind fun U =>
  (bif U then
  (ad (a0.length:Int) (a1.length:Int)).bind fun Y =>
  (mk 8 (0:Int) Y).bind fun Z =>
  (ba N N a1 [] Z a0 (a0.length:Int) 0).bind fun o3 =>
  lpB o3 fun (o4,o5) =>
  (cF N o4).bind fun D =>
  some (D.1,D.2)
  else
  some ([],false))
  else
  some ([],false))
def aS (N:Nat):Nat→Int→(List Int)→(List Int)→Option (Int × (List Int))
 | 0,_,_,_=>none
 | k+1,D,U,J =>
  (bif decide (0<D) then
  (rm D 10).bind fun Y =>
  (apd 8 J [Y]).bind fun Z =>
  (qt D 10).bind fun o3 =>
  aS N k o3 U Z
  else
  some (D,J))
def bm (N:Nat) (a0:Int):Option (List Int) :=
  (aS N N a0 [] []).bind fun D =>
  lpB D fun (U,J) =>
  some J
def aM (N:Nat):Nat→Int→Int→(List Int)→(List Int)→Int→Option (Sum ((List Int) × Bool) ((List Int) × Int))
 | 0,_,_,_,_,_=>none
 | k+1,J,U,o3,Y,D =>
  (bif decide (D<U) then
  (bm N J).bind fun o4 =>
  (bV N Y o4).bind fun Z =>
  (bif Z.2 then
  (ad D 1).bind fun o5 =>
  aM N k J U o3 Z.1 o5
  else
  some (.inl ([],false)))
  else
  some (.inr (Y,D)))
def cr (N:Nat) (a0:Int) (a1:Int):Option ((List Int) × Bool) :=
  (bif decide (a0<0) then
  some ([],false)
  else
  (bW N a1 0 100).bind fun D =>
  (bif D then
  (bm N 1).bind fun J =>
  (aM N N a0 a1 [] J 0).bind fun U =>
  lpS U (fun q=>some q) fun (Y,Z) =>
  some (Y,true)
  else
  some ([],false)))
def aK (N:Nat):Nat→(List Int)→(List Int)→(List Int)→(List Int)→Int→Int→Option (Sum ((List Int) × Bool) ((List Int) × Int))
 | 0,_,_,_,_,_,_=>none
 | k+1,J,U,o5,Y,Z,D =>
  (bif decide (D<Z) then
  (ix J D).bind fun o6 =>
  (ix U D).bind fun o7 =>
  (cr N o6 o7).bind fun o3 =>
  (bV N Y o3.1).bind fun o4 =>
  (bif o3.2 then
  (bif o4.2 then
  (ad D 1).bind fun o8 =>
  aK N k J U o5 o4.1 Z o8
  else
  some (.inl ([],false)))
  else
  some (.inl ([],false)))
  else
  some (.inr (Y,D)))
def cV (N:Nat) (a0:List Int) (a1:List Int):Option ((List Int) × Bool) :=
  (bif ((a0.length:Int) != (a1.length:Int)) then
  some ([],false)
  else
  (bm N 1).bind fun D =>
  (aK N N a0 a1 [] D (a0.length:Int) 0).bind fun J =>
  lpS J (fun q=>some q) fun (U,Y) =>
  some (U,true))
def aU (N:Nat):Nat→(List Int)→(List Int)→Int→Option (Sum Int Int)
 | 0,_,_,_=>none
 | k+1,J,U,D =>
  (bif decide (0≤D) then
  (ix J D).bind fun Y =>
  (ix U D).bind fun Z =>
  (bif (Y != Z) then
  (ix J D).bind fun o3 =>
  (ix U D).bind fun o4 =>
  (dc N o3 o4).bind fun o5 =>
  some (.inl o5)
  else
  (sb D 1).bind fun o6 =>
  aU N k J U o6)
  else
  some (.inr D))
def cm (N:Nat) (a0:List Int) (a1:List Int):Option Int :=
  (bY N a0).bind fun D =>
  (bif D then
  (bY N a1).bind fun J =>
  (bif J then
  (bif ((a0.length:Int) != (a1.length:Int)) then
  (dc N (a0.length:Int) (a1.length:Int)).bind fun U =>
  some U
  else
  (sb (a0.length:Int) 1).bind fun Y =>
  (aU N N a0 a1 Y).bind fun Z =>
  lpS Z (fun q=>some q) fun o3 =>
  some 0)
  else
  some 0)
  else
  some 0)
def bw (N:Nat):Nat→(List Int)→Int→Int→(List Int)→Int→(List Int)→Int→Int→Option (Sum Bool Int)
 | 0,_,_,_,_,_,_,_,_=>none
 | k+1,Y,Z,o3,o4,o5,J,U,D =>
  (bif decide (D<U) then
  (ix J D).bind fun o6 =>
  (bif decide (o6<0) then
  some (.inl false)
  else
  (ad D 1).bind fun o7 =>
  bw N k Y Z o3 o4 o5 J U o7)
  else
  some (.inr D))
def bN (N:Nat) (a0:List Int) (a1:List (Int × Int)) (a2:Int) (a3:Int):Option Bool :=
  (cS N a1).bind fun D =>
  (bif decide (a2<0) then
  some false
  else
  (bif decide (D.2<1) then
  some false
  else
  (bif decide (100<D.2) then
  some false
  else
  (bw N N a0 a2 a3 D.1 D.2 a0 (a0.length:Int) 0).bind fun o3 =>
  lpS o3 (fun q=>some q) fun o5 =>
  (cr N a2 D.2).bind fun J =>
  (cV N a0 D.1).bind fun U =>
  (cr N a3 D.2).bind fun Y =>
  (bV N U.1 Y.1).bind fun Z =>
  (bif J.2 then
  (bif U.2 then
  (bif Y.2 then
  (bif Z.2 then
  (cm N J.1 Z.1).bind fun o4 =>
  some (decide (o4≤0))
  else
  some false)
  else
  some false)
  else
  some false)
  else
  some false))))
def bi (N:Nat) (a0:Int) (a1:List (ByteArray × List Int)) (a2:List Int) (a3:List Int) (a4:List (Int × Int)) (a5:Int):Option Bool :=
  (cW N a0 a1 a2).bind fun D =>
  (bif D then
  (cK N a0 a1 a2 1).bind fun J =>
  (bN N a3 a4 a5 J).bind fun U =>
  some U
  else
  some false)
def dp (N:Nat) (a0:List Int):Option ((Int × List (ByteArray × List Int) × List Int) × Int) :=
  (eY N a0).bind fun J =>
  (eV N a0 J.1 J.2).bind fun D =>
  (aZ N a0 D.2.1 D.2.2 ([(-1),0,1,7,1000000,1000001]:List Int)).bind fun U =>
  some ((D.1.1,D.1.2.1,D.1.2.2),U.1)
def cL (N:Nat) (a0:Int) (a1:List (ByteArray × List Int)) (a2:List Int) (a3:Int):Option Int :=
  (cl N a0 a1 a2).bind fun D =>
  (bif D then
  (bM N a3 0 1000000).bind fun J =>
  (bif J then
  (ml 2 a0).bind fun U =>
  (ml U (a1.length:Int)).bind fun Y =>
  (ml Y a3).bind fun Z =>
  some Z
  else
  some 0)
  else
  some 0)
def bH (N:Nat):Nat→(List (Int × Int))→Int→Int→Option (Sum ((List Int) × Int) (Int × Int))
 | 0,_,_,_=>none
 | k+1,J,U,D =>
  (bif decide (D<(J.length:Int)) then
  (ix J D).bind fun Y =>
  (b7 N Y.1 Y.2).bind fun o3 =>
  (bif o3 then
  (ix J D).bind fun o4 =>
  (bif decide (o4.1<0) then
  some (.inl ([],0))
  else
  (ix J D).bind fun o5 =>
  (dW N U o5.2).bind fun o6 =>
  (qt U o6).bind fun o7 =>
  (ix J D).bind fun o8 =>
  (ml o7 o8.2).bind fun Z =>
  (bif decide (1000<Z) then
  some (.inl ([],0))
  else
  (ad D 1).bind fun o9 =>
  bH N k J Z o9))
  else
  some (.inl ([],0)))
  else
  some (.inr (U,D)))
def bb (N:Nat):Nat→(List (Int × Int))→Int→(List Int)→Int→Option ((List Int) × Int)
 | 0,_,_,_,_=>none
 | k+1,J,U,Y,D =>
  (bif decide (D<(J.length:Int)) then
  (ix J D).bind fun Z =>
  (ix J D).bind fun o3 =>
  (qt U o3.2).bind fun o4 =>
  (ml Z.1 o4).bind fun o5 =>
  (apd 8 Y [o5]).bind fun o6 =>
  (ad D 1).bind fun o7 =>
  bb N k J U o6 o7
  else
  some (Y,D))
def cU (N:Nat) (a0:List (Int × Int)):Option ((List Int) × Int) :=
  (bH N N a0 1 0).bind fun J =>
  lpS J (fun q=>some q) fun (D,Z) =>
  (bb N N a0 D [] 0).bind fun U =>
  lpB U fun (Y,o3) =>
  some (Y,D)
def bG (N:Nat):Nat→(List Int)→Int→Option (Sum Bool Int)
 | 0,_,_=>none
 | k+1,J,D =>
  (bif decide (D<(J.length:Int)) then
  (ix J D).bind fun U =>
  (bM N U 0 9).bind fun Y =>
  (bif Y then
  (ad D 1).bind fun Z =>
  bG N k J Z
  else
  some (.inl false))
  else
  some (.inr D))
def bX (N:Nat) (a0:List Int):Option Bool :=
  (bG N N a0 0).bind fun D =>
  lpS D (fun q=>some q) fun Y =>
  (bif decide ((a0.length:Int)≤60) then
  (bif ((a0.length:Int) == 0) then
  some true
  else
  (sb (a0.length:Int) 1).bind fun J =>
  (ix a0 J).bind fun U =>
  some (U != 0))
  else
  some false)
def cC (N:Nat):Nat→(List Int)→(List Int)→(List Int)→Int→Int→Option ((List Int) × Int × Int)
 | 0,_,_,_,_,_=>none
 | k+1,U,Z,Y,D,J =>
  (bif decide (J<(U.length:Int)) then
  (ix U J).bind fun o4 =>
  (ad D o4).bind fun o3 =>
  (rm o3 10).bind fun o5 =>
  (apd 8 Y [o5]).bind fun o6 =>
  (qt o3 10).bind fun o7 =>
  (ad J 1).bind fun o8 =>
  cC N k U Z o6 o7 o8
  else
  (bif decide (0<D) then
  (rm D 10).bind fun o9 =>
  (apd 8 Y [o9]).bind fun pc =>
  (qt D 10).bind fun pd =>
  (ad J 1).bind fun pf =>
  cC N k U Z pc pd pf
  else
  some (Y,D,J)))
def du (N:Nat):Nat→(List Int)→(List Int)→Option (List Int)
 | 0,_,_=>none
 | k+1,J,D =>
  (bif decide (0<(D.length:Int)) then
  (sb (D.length:Int) 1).bind fun U =>
  (ix D U).bind fun Y =>
  (bif (Y == 0) then
  (sb (D.length:Int) 1).bind fun Z =>
  (slc D 0 Z).bind fun o3 =>
  du N k J o3
  else
  some D)
  else
  some D)
def dM (N:Nat) (a0:List Int):Option ((List Int) × Bool) :=
  (cC N N a0 [] [] 0 0).bind fun J =>
  lpB J fun (U,Z,o3) =>
  (du N N [] U).bind fun Y =>
  lpB Y fun D =>
  (bif decide (60<(D.length:Int)) then
  some ([],false)
  else
  some (D,true))
def bQ (N:Nat):Nat→(List Int)→(List Int)→(List Int)→(List Int)→Int→Int→Option ((List Int) × Int)
 | 0,_,_,_,_,_,_=>none
 | k+1,Z,Y,o4,J,U,D =>
  (bif decide (D<(Y.length:Int)) then
  (ad U D).bind fun o3 =>
  (ad U D).bind fun o5 =>
  (ix J o5).bind fun o6 =>
  (ix Z U).bind fun o7 =>
  (ix Y D).bind fun o8 =>
  (ml o7 o8).bind fun o9 =>
  (ad o6 o9).bind fun pc =>
  (ix J o3).bind fun pg =>
  (sto J o3 pc).bind fun pd =>
  (ad D 1).bind fun pf =>
  bQ N k Z Y o4 pd U pf
  else
  some (J,D))
def bO (N:Nat):Nat→(List Int)→(List Int)→(List Int)→(List Int)→Int→Option ((List Int) × Int)
 | 0,_,_,_,_,_=>none
 | k+1,J,U,Y,Z,D =>
  (bif decide (D<(J.length:Int)) then
  (bQ N N J U Y Z D 0).bind fun o3 =>
  lpB o3 fun (o4,o6) =>
  (ad D 1).bind fun o5 =>
  bO N k J U Y o4 o5
  else
  some (Z,D))
def c8 (N:Nat) (a0:List Int) (a1:List Int):Option ((List Int) × Bool) :=
  (bX N a0).bind fun J =>
  (bif J then
  (bX N a1).bind fun U =>
  (bif U then
  (ad (a0.length:Int) (a1.length:Int)).bind fun Y =>
  (mk 8 (0:Int) Y).bind fun Z =>
  (bO N N a0 a1 [] Z 0).bind fun o3 =>
  lpB o3 fun (o4,o5) =>
  (dM N o4).bind fun D =>
  some (D.1,D.2)
  else
  some ([],false))
  else
  some ([],false))
def cn (N:Nat):Nat→Int→(List Int)→(List Int)→Option (Int × (List Int))
 | 0,_,_,_=>none
 | k+1,D,U,J =>
  (bif decide (0<D) then
  (rm D 10).bind fun Y =>
  (apd 8 J [Y]).bind fun Z =>
  (qt D 10).bind fun o3 =>
  cn N k o3 U Z
  else
  some (D,J))
def cq (N:Nat) (a0:Int):Option (List Int) :=
  (cn N N a0 [] []).bind fun D =>
  lpB D fun (U,J) =>
  some J
def bt (N:Nat):Nat→Int→Int→(List Int)→(List Int)→Int→Option (Sum ((List Int) × Bool) ((List Int) × Int))
 | 0,_,_,_,_,_=>none
 | k+1,J,U,o3,Y,D =>
  (bif decide (D<U) then
  (cq N J).bind fun o4 =>
  (c8 N Y o4).bind fun Z =>
  (bif Z.2 then
  (ad D 1).bind fun o5 =>
  bt N k J U o3 Z.1 o5
  else
  some (.inl ([],false)))
  else
  some (.inr (Y,D)))
def df (N:Nat) (a0:Int) (a1:Int):Option ((List Int) × Bool) :=
  (bif decide (a0<0) then
  some ([],false)
  else
  (bM N a1 0 100).bind fun D =>
  (bif D then
  (cq N 1).bind fun J =>
  (bt N N a0 a1 [] J 0).bind fun U =>
  lpS U (fun q=>some q) fun (Y,Z) =>
  some (Y,true)
  else
  some ([],false)))
def aL (N:Nat):Nat→(List Int)→(List Int)→(List Int)→(List Int)→Int→Option (Sum ((List Int) × Bool) ((List Int) × Int))
 | 0,_,_,_,_,_=>none
 | k+1,J,U,o4,Y,D =>
  (bif decide (D<(J.length:Int)) then
  (ix J D).bind fun o5 =>
  (ix U D).bind fun o6 =>
  (df N o5 o6).bind fun Z =>
  (c8 N Y Z.1).bind fun o3 =>
  (bif Z.2 then
  (bif o3.2 then
  (ad D 1).bind fun o7 =>
  aL N k J U o4 o3.1 o7
  else
  some (.inl ([],false)))
  else
  some (.inl ([],false)))
  else
  some (.inr (Y,D)))
def cQ (N:Nat) (a0:List Int) (a1:List Int):Option ((List Int) × Bool) :=
  (bif ((a0.length:Int) != (a1.length:Int)) then
  some ([],false)
  else
  (cq N 1).bind fun D =>
  (aL N N a0 a1 [] D 0).bind fun J =>
  lpS J (fun q=>some q) fun (U,Y) =>
  some (U,true))
def ck (N:Nat):Nat→(List Int)→(List Int)→Int→Option (Sum Int Int)
 | 0,_,_,_=>none
 | k+1,J,U,D =>
  (bif decide (0≤D) then
  (ix J D).bind fun Y =>
  (ix U D).bind fun Z =>
  (bif decide (Y<Z) then
  some (.inl (-1))
  else
  (ix J D).bind fun o3 =>
  (ix U D).bind fun o4 =>
  (bif decide (o4<o3) then
  some (.inl 1)
  else
  (sb D 1).bind fun o5 =>
  ck N k J U o5))
  else
  some (.inr D))
def c6 (N:Nat) (a0:List Int) (a1:List Int):Option Int :=
  (bX N a0).bind fun D =>
  (bif D then
  (bX N a1).bind fun J =>
  (bif J then
  (bif ((a0.length:Int) != (a1.length:Int)) then
  (bif decide ((a0.length:Int)<(a1.length:Int)) then
  some (-1)
  else
  some 1)
  else
  (sb (a0.length:Int) 1).bind fun U =>
  (ck N N a0 a1 U).bind fun Y =>
  lpS Y (fun q=>some q) fun Z =>
  some 0)
  else
  some 0)
  else
  some 0)
def cG (N:Nat) (a0:Int) (a1:List (ByteArray × List Int)) (a2:List Int) (a3:List Int) (a4:List (Int × Int)) (a5:Int):Option Bool :=
  (cU N a4).bind fun D =>
  (cQ N a3 D.1).bind fun J =>
  (df N a5 D.2).bind fun U =>
  (cL N a0 a1 a2 1).bind fun o3 =>
  (df N o3 D.2).bind fun Y =>
  (c8 N J.1 Y.1).bind fun Z =>
  (bif decide (0<D.2) then
  (bif J.2 then
  (bif U.2 then
  (bif Y.2 then
  (bif Z.2 then
  (cl N a0 a1 a2).bind fun o4 =>
  (bif o4 then
  (c6 N U.1 Z.1).bind fun o5 =>
  some (decide (o5≤0))
  else
  some false)
  else
  some false)
  else
  some false)
  else
  some false)
  else
  some false)
  else
  some false)
def cu (N:Nat) (a0:List Int):Option Bool :=
  (gW N a0).bind fun Y =>
  (bif Y then
  some true
  else
  (ce N a0).bind fun J =>
  (bi N J.1.1 J.1.2.1 J.1.2.2 J.2.1 J.2.2.1 J.2.2.2).bind fun U =>
  (dp N a0).bind fun D =>
  (cG N J.1.1 J.1.2.1 J.1.2.2 J.2.1 J.2.2.1 J.2.2.2).bind fun Z =>
  (bif (U == Z) then
  (bif U then
  (bif decide (J.2.2.2<1) then
  (cK N D.1.1 D.1.2.1 D.1.2.2 D.2).bind fun o3 =>
  (cL N D.1.1 D.1.2.1 D.1.2.2 D.2).bind fun o4 =>
  some (o3 == o4)
  else
  (sb J.2.2.2 1).bind fun o5 =>
  (bi N J.1.1 J.1.2.1 J.1.2.2 J.2.1 J.2.2.1 o5).bind fun o6 =>
  (bif o6 then
  (cK N D.1.1 D.1.2.1 D.1.2.2 D.2).bind fun o7 =>
  (cL N D.1.1 D.1.2.1 D.1.2.2 D.2).bind fun o8 =>
  some (o7 == o8)
  else
  some false))
  else
  (cK N D.1.1 D.1.2.1 D.1.2.2 D.2).bind fun o9 =>
  (cL N D.1.1 D.1.2.1 D.1.2.2 D.2).bind fun pc =>
  some (o9 == pc))
  else
  some false))
def inR (n lo hi:Int):Bool:=decide (lo≤n)&&decide (n≤hi)
theorem cJ (N:Nat) (n lo hi:Int):bW N n lo hi=some (inR n lo hi):=by
 unfold bW inR;cases decide (lo≤n) <;> rfl
theorem dJ (N:Nat) (n lo hi:Int):bM N n lo hi=some (inR n lo hi):=by
 unfold bM inR;cases decide (lo≤n) <;> rfl
theorem cp {n lo hi:Int}:inR n lo hi=true↔lo≤n∧n≤hi:=by unfold inR;simp
def ic (a b:Int):Int:=if a<b then -1 else if b<a then 1 else 0
def nZ:List Int→List Int→Int
 | [],[]=>0
 | [],_ :: _=>-1
 | _ :: _,[]=>1
 | a :: xs,b :: ys=>if a<b then -1 else if b<a then 1 else nZ xs ys
theorem eU (N:Nat) (a b:Int):dc N a b=some (ic a b):=by
 unfold dc ic
 by_cases h1:a<b
 ·rw [decide_eq_true h1,if_pos h1];rfl
 ·rw [decide_eq_false h1,if_neg h1]
  by_cases h2:b<a
  ·rw [decide_eq_true h2,if_pos h2];rfl
  ·rw [decide_eq_false h2,if_neg h2];rfl
theorem fA {α:Type} {xs:List α} {i:Nat} (h:i<xs.length):xs.drop i=xs[i] :: xs.drop (i+1):=List.drop_eq_getElem_cons h
section
variable {N:Nat} {xs ys:List Int}
def fnd (v:Int):List Int→Int→Int
 | [],_=>-1
 | x :: xs,i=>if x=v then i else fnd v xs (i+1)
def gB (xs:List Int) (v:Int):Int:=fnd v xs 0
theorem kq (v:Int):∀ (xs:List Int) (i:Nat),(v∉xs∧fnd v xs i=-1)∨∃ j,∃ h:j<xs.length,xs[j]=v∧fnd v xs i=((i+j:Nat):Int)∧v∉xs.take j
 | [],i=>.inl ⟨by simp,rfl⟩
 | x :: xs,i=>by
  unfold fnd
  by_cases h:x=v
  ·rw [if_pos h];exact .inr ⟨0,by simp,by simpa using h,by simp,by simp⟩
  ·rw [if_neg h]
   rcases kq v xs (i+1) with ⟨h1,h2⟩ | ⟨j,hj,h1,h2,h3⟩
   ·exact .inl ⟨by simp [h1,Ne.symm h],by simpa using h2⟩
   ·exact .inr ⟨j+1,by simpa using hj,by simpa using h1,by rw [show ((i:Int)+1)=((i+1:Nat):Int) by simp,h2];congr 1;omega,by simp [h3,Ne.symm h]⟩
theorem ll (xs:List Int) (v:Int):(v∉xs∧gB xs v=-1)∨∃ j,∃ h:j<xs.length,xs[j]=v∧gB xs v=(j:Int)∧v∉xs.take j:=by
 have:=kq v xs 0
 simpa [gB] using this
theorem ig (xs:List Int) (v:Int):decide (0≤gB xs v)=decide (v∈xs):=by
 rcases ll xs v with ⟨h1,h2⟩ | ⟨j,hj,h1,h2,_⟩
 ·rw [h2,decide_eq_false (by omega),decide_eq_false h1]
 ·rw [h2,decide_eq_true (by omega),decide_eq_true (h1 ▸ List.getElem_mem hj)]
theorem lj (hN:1073741824≤N) (hx:xs.length≤1048576) (v:Int):eP N xs v=some (gB xs v):=by
 have key:∀ k i,i≤xs.length→xs.length-i<k→∃ s,dZ N k v xs (xs.length:Int) (i:Int)=some s∧(match s with | .inl r=>fnd v (xs.drop i) i=r | .inr _=>fnd v (xs.drop i) i=-1):=by
  intro k
  induction k with
  | zero=>intro i h1 h2;omega
  | succ k ih =>
   intro i h1 h2
   rw [dZ]
   by_cases h:i<xs.length
   ·rw [dlt h,cond_true,aH h,bs,fA h,fnd]
    by_cases he:xs[i]=v
    ·rw [show (xs[i] == v)=true by simpa using he,cond_true,if_pos he];exact ⟨_,rfl,rfl⟩
    ·rw [show (xs[i] == v)=false by simpa using he,cond_false,if_neg he,ad1 (by omega),bs]
     have:=ih (i+1) (by omega) (by omega)
     simpa using this
   ·rw [dge h,cond_false,List.drop_of_length_le (by omega)];exact ⟨_,rfl,rfl⟩
 obtain ⟨s,h1,h2⟩:=key N 0 (by omega) (by omega)
 unfold eP gB
 rw [show ((0:Int))=((0:Nat):Int) from rfl,h1,bs]
 simp only [List.drop_zero] at h2
 cases s with
 | inl r=>rw [h2];rfl
 | inr r=>rw [h2];rfl
theorem lS (hN:1073741824≤N) (hx:xs.length≤1048576) (v:Int):fm N xs v=some (gB xs v):=by
 have key:∀ k i,i≤xs.length→xs.length-i<k→∃ s,ek N k xs v (i:Int)=some s∧(match s with | .inl r=>fnd v (xs.drop i) i=r | .inr _=>fnd v (xs.drop i) i=-1):=by
  intro k
  induction k with
  | zero=>intro i h1 h2;omega
  | succ k ih =>
   intro i h1 h2
   rw [ek]
   by_cases h:i<xs.length
   ·rw [dlt h,cond_true,aH h,bs,fA h,fnd]
    by_cases he:xs[i]=v
    ·rw [show (xs[i] == v)=true by simpa using he,cond_true,if_pos he];exact ⟨_,rfl,rfl⟩
    ·rw [show (xs[i] == v)=false by simpa using he,cond_false,if_neg he,ad1 (by omega),bs]
     have:=ih (i+1) (by omega) (by omega)
     simpa using this
   ·rw [dge h,cond_false,List.drop_of_length_le (by omega)];exact ⟨_,rfl,rfl⟩
 obtain ⟨s,h1,h2⟩:=key N 0 (by omega) (by omega)
 unfold fm gB
 rw [show ((0:Int))=((0:Nat):Int) from rfl,h1,bs]
 simp only [List.drop_zero] at h2
 cases s with
 | inl r=>rw [h2];rfl
 | inr r=>rw [h2];rfl
theorem l9 (hN:1073741824≤N) (hx:xs.length≤1048576) (v:Int):ff N xs v=some (decide (v∈xs)):=by
 unfold ff;rw [lj hN hx,bs,ig]
def gA (xs:List Int):Bool:=xs.all fun x=>inR x 0 99
def asc:List Int→Bool
 | []=>true
 | [_]=>true
 | x :: y :: t=>decide (x<y)&&asc (y :: t)
def eO (xs:List Int) (n:Int):Bool:=(List.range' 0 xs.length).all fun i=>inR (xs.getD i 0) 0 (n-1)&&!decide (xs.getD i 0∈xs.take i)
theorem fB {xs:List Int} {i:Nat} (h:i<xs.length):xs.getD i 0=xs[i]:=by simp [h]
theorem lh (hN:1073741824≤N) (hx:xs.length≤1048576) {n:Int} (hn:-1099511627776≤n∧n≤1099511627776):eQ N xs n=some (eO xs n):=by
 have:=jo (L:=fun k i=>cB N k xs n xs (xs.length:Int) i) xs.length (by omega) false (fun i=>inR (xs.getD i 0) 0 (n-1)&&!decide (xs.getD i 0∈xs.take i)) (xs.length:Int)
  (fun k i h=>by
   show cB N (k+1) xs n xs _ (i:Int)=_
   rw [cB,dlt h,cond_true,aH h,bs,dk (by omega) (by omega),bs,cJ,bs,show ((0:Int))=((0:Nat):Int) from rfl,hZ (Nat.zero_le _) (by omega),bs,List.drop_zero,l9 hN (by simp;omega),bs,ad1 (by omega),bs]
   simp only [show ((0:Nat):Int)=0 from rfl,fB h]
   cases inR xs[i] 0 (n-1)
   ·rfl
   ·cases decide (xs[i]∈xs.take i) <;> rfl)
  (fun k=>by
   show cB N (k+1) xs n xs _ (xs.length:Int)=_
   rw [cB,dge (by omega),cond_false]) N 0 (by omega) (by omega)
 unfold eQ eO
 rw [show ((0:Int))=((0:Nat):Int) from rfl,this,bs,Nat.sub_zero]
 simp only [show ((0:Nat):Int)=0 from rfl]
 cases (List.range' 0 xs.length).all fun i=>inR (xs.getD i 0) 0 (n-1)&&!decide (xs.getD i 0∈xs.take i) <;> rfl
end
abbrev okI (xs:List Int):Prop:=jD (fun _=>True) 1048576 xs
def oD (n:Int) (rows:List (List Int)) (i:Nat):Bool :=
 decide (((rows.getD i []).length:Int)=n)&&gA (rows.getD i [])&&(Nat.beq i 0||decide (nZ (rows.getD (i-1) []) (rows.getD i [])<0))
def lA (n:Int) (rows:List (List Int)):Bool:=inR n 0 5&&decide ((rows.length:Int)≤4000)&&(List.range' 0 rows.length).all (oD n rows)
section
variable {N:Nat}
theorem j6 {a b:Int} (h:b≠0):rm a b=some (a.tmod b):=by unfold rm;rw [if_pos h]
theorem jt {a b:Int} (ha:0≤a) (hb:0<b):0≤a.tmod b∧a.tmod b<b:=⟨Int.tmod_nonneg _ ha,Int.tmod_lt_of_pos _ hb⟩
end
abbrev eF:=List Int × List Int
def mG (far:List Int) (i:Nat) (ch:List Int) (j:Nat):Bool:=inR (ch.getD j 0) 0 ((i:Int)-1)&&decide (far.getD (ch.getD j 0).toNat 0=far.getD (ch.getD 0 0).toNat 0)
def kH (nodes:List eF) (i:Nat) (x:eF):Bool:=((nodes.take i).drop 1).all fun m=>!decide (m=x)
def mK (nodes:List eF) (olen:Nat) (far:List Int) (i:Nat) (x:eF):Option Int :=
 bif decide (x.1.length=x.2.length)&&gA x.1&&asc x.1 then
  bif decide (x.1.length=0) then (bif decide (i+1=nodes.length) then some (olen:Int) else none)
  else bif (List.range' 0 x.2.length).all (mG far i x.2)&&kH nodes i x then some (far.getD (x.2.getD 0 0).toNat 0+1) else none
 else none
structure VF (olen:Nat) (nodes:List eF) (far:List Int):Prop where
 pos:1≤nodes.length
 le:nodes.length≤4000
 z1:(nodes.getD 0 ([],[])).1=[]
 z2:(nodes.getD 0 ([],[])).2=[]
 len:far.length=nodes.length
 f0:far.getD 0 0=0
 last:far.getD (nodes.length-1) 0=(olen:Int)
 nd:∀ i,1≤i→i<nodes.length→mK nodes olen (far.take i) i (nodes.getD i ([],[]))=some (far.getD i 0)
theorem lD {xs:List Int} {i j:Nat} (h:j<i):(xs.take i).getD j 0=xs.getD j 0:=by
 rw [List.getD_eq_getElem?_getD,List.getD_eq_getElem?_getD,List.getElem?_take,if_pos h]
theorem VF.node {olen:Nat} {nodes:List eF} {far:List Int} (V:VF olen nodes far) {i:Nat} (h1:1≤i) (h2:i<nodes.length) :
    (nodes.getD i ([],[])).1.length=(nodes.getD i ([],[])).2.length∧asc (nodes.getD i ([],[])).1=true ∧
    ((nodes.getD i ([],[])).1=[]∧i+1=nodes.length∧far.getD i 0=olen ∨
     (nodes.getD i ([],[])).1≠[]∧∀ j,j<(nodes.getD i ([],[])).2.length→0≤(nodes.getD i ([],[])).2.getD j 0∧(nodes.getD i ([],[])).2.getD j 0<i∧far.getD ((nodes.getD i ([],[])).2.getD j 0).toNat 0+1=far.getD i 0):=by
  have h:=V.nd i h1 h2
  generalize nodes.getD i ([],[])=x at *
  unfold mK at h
  cases e1:(decide (x.1.length=x.2.length)&&gA x.1&&asc x.1) with
  | false=>rw [e1] at h;cases h
  | true =>
    rw [e1,cond_true] at h
    simp only [Bool.and_eq_true,decide_eq_true_eq] at e1
    refine ⟨e1.1.1,e1.2,?_⟩
    by_cases hz:x.1.length=0
    · rw [decide_eq_true hz,cond_true] at h
      by_cases hi:i+1=nodes.length
      · rw [decide_eq_true hi,cond_true] at h
        exact .inl ⟨List.length_eq_zero_iff.1 hz,hi,(Option.some.inj h).symm⟩
      · rw [decide_eq_false hi] at h;cases h
    · rw [decide_eq_false hz,cond_false] at h
      cases ha:(List.range' 0 x.2.length).all (mG (far.take i) i x.2) with
      | false=>rw [ha] at h;cases h
      | true =>
        rw [ha,Bool.true_and] at h
        cases hb:kH nodes i x with
        | false=>rw [hb] at h;cases h
        | true =>
          rw [hb,cond_true] at h
          refine .inr ⟨fun e=>hz (by simp [e]),fun j hj=>?_⟩
          have hc:∀ j,j<x.2.length→0≤x.2.getD j 0∧x.2.getD j 0<i∧far.getD (x.2.getD j 0).toNat 0=(far.take i).getD (x.2.getD 0 0).toNat 0:=by
            intro j hj
            have:=(List.all_eq_true.1 ha) j (by simp;omega)
            unfold mG at this
            simp only [Bool.and_eq_true,decide_eq_true_eq] at this
            have g:=cp.1 this.1
            refine ⟨g.1,by omega,?_⟩
            rw [← this.2,lD (by omega)]
          obtain ⟨q1,q2,q3⟩:=hc j hj
          exact ⟨q1,q2,by rw [q3];exact Option.some.inj h⟩
theorem lm {σ V:Type} (L:Nat→σ→Int→Option V) (n:Nat) (A:Nat→σ) (v:V)
  (hstep:∀ k i,i<n→L (k+1) (A i) (i:Int)=L k (A (i+1)) ((i+1:Nat):Int)) (hend:∀ k,L (k+1) (A n) (n:Int)=some v) :
  ∀ k i,i≤n→n-i<k→L k (A i) (i:Int)=some v:=by
 intro k
 induction k with
 | zero=>intro i hi hk;omega
 | succ k ih =>
  intro i hi hk
  by_cases h:i<n
  ·rw [hstep k i h];exact ih (i+1) (by omega) (by omega)
  ·obtain rfl:i=n:=by omega
   exact hend k
theorem VF.lens {olen:Nat} {nodes:List eF} {far:List Int} (V:VF olen nodes far) {i:Nat} (h2:i<nodes.length):(nodes.getD i ([],[])).1.length=(nodes.getD i ([],[])).2.length:=by
 by_cases h1:1≤i
 ·exact (V.node h1 h2).1
 ·obtain rfl:i=0:=by omega
  rw [V.z1,V.z2]
theorem VF.asc {olen:Nat} {nodes:List eF} {far:List Int} (V:VF olen nodes far) {i:Nat} (h2:i<nodes.length):Go.Proofs.Ytdapplkijobjoaa.asc (nodes.getD i ([],[])).1=true:=by
 by_cases h1:1≤i
 ·exact (V.node h1 h2).2.1
 ·obtain rfl:i=0:=by omega
  rw [V.z1];rfl
theorem mJ {α R V:Type} (L:Nat→Int→Option (Sum R V)) (xs:List α) (q:α→Bool) (g:α→R) (v:V) (hl:xs.length<1099511627776)
  (hstep:∀ k i (h:i<xs.length),L (k+1) (i:Int)=bif q xs[i] then some (.inl (g xs[i])) else L k ((i+1:Nat):Int)) (hend:∀ k,L (k+1) (xs.length:Int)=some (.inr v)) :
  ∀ k i,i≤xs.length→xs.length-i<k→L k (i:Int)=some (match (xs.drop i).find? q with | some x=>.inl (g x) | none=>.inr v):=by
 intro k
 induction k with
 | zero=>intro i h1 h2;omega
 | succ k ih =>
  intro i h1 h2
  by_cases h:i<xs.length
  ·rw [hstep k i h,fA h,List.find?_cons]
   cases hq:q xs[i]
   ·rw [cond_false];exact ih (i+1) (by omega) (by omega)
   ·rfl
  ·obtain rfl:i=xs.length:=by omega
   rw [hend,List.drop_length];rfl
abbrev f7:=ByteArray × (Int × List (List Int))
def gR (s:ByteArray) (i:Nat):Int:=match s[i]? with | some b=>(b.toNat:Int) | none=>0
theorem nU {s:ByteArray} {i:Nat} (h:i<s.size):bx s (i:Int)=some (gR s i):=by
 unfold bx gR
 rw [if_pos (by omega),Int.toNat_natCast,getElem?_pos s i h];rfl
def fQ (s:ByteArray) (i:Nat):Bool:=!decide (gR s i<97)&&!decide (122<gR s i)
def fW (s:ByteArray):Bool:=inR s.size 1 4&&(List.range' 0 s.size).all (fQ s)
def oE (ts:List f7) (i:Nat):Bool :=
 let t:=ts.getD i (ByteArray.empty,0,[])
 fW t.1&&(Nat.beq i 0||ltS (ts.getD (i-1) (ByteArray.empty,0,[])).1 t.1)&&lA t.2.1 t.2.2&&!decide (t.2.1<1)&&!decide (16<(t.2.2.length:Int))
def oY (ts:List f7):Bool:=decide ((ts.length:Int)≤6)&&(List.range' 0 ts.length).all (oE ts)
def mL (ts:List f7) (s:ByteArray):(Int × List (List Int)) × Bool :=
 bif oY ts then (match ts.find? (fun t=>decide (t.1=s)) with | some t=>(t.2,true) | none=>((0,[]),false)) else ((0,[]),false)
section
variable {N:Nat}
theorem nV {L:Nat→Int→Option (Sum Bool Int)} {s:ByteArray} (hs:s.size≤1048576) (hN:1073741824≤N)
  (hstep:∀ k i,L (k+1) i=(bif decide (i<(s.size:Int)) then (bx s i).bind fun a=>(bif decide (a<97) then some (.inl false) else (bx s i).bind fun b=>(bif decide (122<b) then some (.inl false) else (ad i 1).bind fun j=>L k j)) else some (.inr i))) :
  L N 0=some (bif (List.range' 0 s.size).all (fQ s) then .inr (s.size:Int) else .inl false):=by
 have:=jo L s.size (by omega) false (fQ s) (s.size:Int)
  (fun k i h=>by
   rw [hstep,dlt h,cond_true,nU h,bs,bs,ad1 (by omega),bs]
   unfold fQ
   cases decide (gR s i<97)
   ·cases decide (122<gR s i) <;> rfl
   ·rfl)
  (fun k=>by rw [hstep,dge (by omega),cond_false]) N 0 (by omega) (by omega)
 rw [Nat.sub_zero] at this
 exact this
theorem hU (hN:1073741824≤N) {s:ByteArray} (hs:s.size≤1048576):dK N s=some (fW s):=by
 unfold dK eX fW
 by_cases h1:(s.size:Int)<1
 ·rw [decide_eq_true h1,show inR (s.size:Int) 1 4=false by rw [← Bool.not_eq_true,cp];omega];rfl
 by_cases h4:(4:Int)<s.size
 ·rw [decide_eq_false h1,decide_eq_true h4,show inR (s.size:Int) 1 4=false by rw [← Bool.not_eq_true,cp];omega];rfl
 rw [decide_eq_false h1,decide_eq_false h4,show inR (s.size:Int) 1 4=true by rw [cp];omega,cond_false,cond_false,nV (L:=fun k i=>cY N k s i) hs hN (fun k i=>by
  show cY N (k+1) s i=_
  rw [cY]),bs]
 cases (List.range' 0 s.size).all (fQ s) <;> rfl
theorem hO (hN:1073741824≤N) {s:ByteArray} (hs:s.size≤1048576):dO N s=some (fW s):=by
 unfold dO fW
 rw [nV (L:=fun k i=>cE N k s i) hs hN (fun k i=>by
  show cE N (k+1) s i=_
  rw [cE]),bs]
 cases (List.range' 0 s.size).all (fQ s)
 ·cases inR (s.size:Int) 1 4 <;> rfl
 ·simp only [cond_true,lpS,dJ,bs,Bool.and_true]
end
section
variable {N:Nat}
theorem jx {α:Type} {N:Nat} (L:Nat→Int→Option (Sum Bool Int)) (xs:List α) (q:α→Bool) (hN:1073741824≤N) (hl:xs.length≤1048576)
  (hstep:∀ k i (h:i<xs.length),L (k+1) (i:Int)=bif q xs[i] then L k ((i+1:Nat):Int) else some (.inl false)) (hend:∀ k,L (k+1) (xs.length:Int)=some (.inr (xs.length:Int))) :
  L N 0=some (bif xs.all q then .inr (xs.length:Int) else .inl false):=by
 have:=jo L xs.length (by omega) false (fun i=>if h:i<xs.length then q xs[i] else true) (xs.length:Int) (fun k i h=>by rw [hstep k i h];simp only [dif_pos h]) hend N 0 (by omega) (by omega)
 rw [Nat.sub_zero,il xs q _ (fun i hi=>by rw [dif_pos hi])] at this
 exact this
end
theorem me {σ R V:Type} (L:Nat→σ→Int→Option (Sum R V)) (n:Nat) (b:R) (p:Nat→Bool) (A:Nat→σ) (v:V)
  (hstep:∀ k i,i<n→L (k+1) (A i) (i:Int)=bif p i then L k (A (i+1)) ((i+1:Nat):Int) else some (.inl b)) (hend:∀ k,L (k+1) (A n) (n:Int)=some (.inr v)) :
  ∀ k i,i≤n→n-i<k→L k (A i) (i:Int)=some (bif (List.range' i (n-i)).all p then .inr v else .inl b):=by
 intro k
 induction k with
 | zero=>intro i hi hk;omega
 | succ k ih =>
  intro i hi hk
  by_cases h:i<n
  ·rw [hstep k i h,show n-i=(n-(i+1))+1 by omega,List.range'_succ,List.all_cons]
   cases hp:p i with
   | true=>rw [cond_true,Bool.true_and];exact ih (i+1) (by omega) (by omega)
   | false=>rfl
  ·obtain rfl:i=n:=by omega
   rw [hend k,Nat.sub_self];rfl
theorem gF {R V S:Type} {v:V} {f:R→Option S} {g:V→Option S}:lpS (.inr v) f g=g v:=rfl
theorem h8 {R V S:Type} {v:R} {f:R→Option S} {g:V→Option S}:lpS (.inl v) f g=f v:=rfl
abbrev bz:=ByteArray × List Int
abbrev dT (xs:List bz):Prop:=jD (fun x=>x.1.size≤1048576∧(jD (fun _=>True) 1048576) x.2) 1048576 xs
def eJ (n:Int) (a:bz):Bool:=fW a.1&&inR a.2.length 1 5&&a.2.all fun v=>inR v 0 (n-1)
def fO (n:Int) (atoms:List bz):Bool:=(List.range' 0 n.toNat).all fun v=>atoms.any fun a=>decide ((v:Int)∈a.2)
def c9 (n:Int) (atoms:List bz) (out:List Int):Bool:=inR n 1 5&&inR atoms.length 1 4&&eO out n&&atoms.all (eJ n)&&fO n atoms
theorem kC:∀ (n:Nat) (xs:List Int),xs.Nodup→(∀ x∈xs,0≤x∧x<n)→xs.length≤n:=by
 intro n
 induction n with
 | zero =>
  intro xs _ h
  cases xs with
  | nil=>simp
  | cons x xs=>have:=h x (by simp);omega
 | succ n ih =>
  intro xs hn h
  by_cases hm:(n:Int)∈xs
  ·have h1:=ih (xs.erase (n:Int)) (hn.erase _) (fun x hx=>by
    have h2:=h x (List.mem_of_mem_erase hx)
    have h3:x≠n:=by rintro rfl;exact (hn.mem_erase_iff.1 hx).1 rfl
    omega)
   rw [List.length_erase_of_mem hm] at h1
   omega
  ·have:=ih xs hn (fun x hx=>by
    have h2:=h x hx
    have h3:x≠n:=by rintro rfl;exact hm hx
    omega)
   omega
theorem kE {xs:List Int} {n:Int} (h:eO xs n=true):xs.Nodup∧∀ x∈xs,0≤x∧x≤n-1:=by
 unfold eO at h
 rw [List.all_eq_true] at h
 have hk:∀ i (hi:i<xs.length),(0≤xs[i]∧xs[i]≤n-1)∧xs[i]∉xs.take i:=by
  intro i hi
  have:=h i (by simp;omega)
  simp only [fB hi,Bool.and_eq_true,cp,Bool.not_eq_true',decide_eq_false_iff_not] at this
  exact this
 refine ⟨?_,fun x hx=>?_⟩
 ·rw [List.nodup_iff_pairwise_ne,List.pairwise_iff_getElem]
  intro i j hi hj hij e
  refine (hk j hj).2 ?_
  rw [← e]
  have:(xs.take j)[i]'(by simp;omega)=xs[i]:=List.getElem_take
  rw [← this];exact List.getElem_mem _
 ·obtain ⟨i,hi,rfl⟩:=List.getElem_of_mem hx
  exact (hk i hi).1
theorem k8 {xs:List Int} {n:Int} (h0:0≤n) (h:eO xs n=true):(xs.length:Int)≤n:=by
 obtain ⟨h1,h2⟩:=kE h
 have:=kC n.toNat xs h1 (fun x hx=>by have:=h2 x hx;omega)
 omega
def e8 (m:Nat) (g:Nat→Bool):List Bool:=(List.range' 0 m).map g
theorem iQ (m:Nat) (g:Nat→Bool):(e8 m g).length=m:=by simp [e8]
theorem nv {m:Nat} {g:Nat→Bool} {i:Nat} (h:i<m):ix (e8 m g) (i:Int)=some (g i):=by
 rw [aH (by rw [iQ];exact h)];simp [e8]
theorem mH {m:Nat} {g:Nat→Bool} {c:Nat} (h:c<m):sto (e8 m g) (c:Int) true=some (e8 m fun v=>g v||decide (v=c)):=by
 rw [fC (by rw [iQ];exact h)]
 congr 1
 refine List.ext_getElem (by simp [e8]) fun i h1 h2=>?_
 simp only [e8,List.getElem_set,List.getElem_map,List.getElem_range']
 simp only [Nat.zero_add,Nat.one_mul]
 by_cases e:c=i
 ·subst e;simp
 ·have e2:¬ i=c:=fun h=>e h.symm
  rw [if_neg e,decide_eq_false e2,Bool.or_false]
theorem iT {m:Nat} {f g:Nat→Bool} (h:∀ v,f v=g v):e8 m f=e8 m g:=by rw [show f=g from funext h]
theorem mF (m:Nat) (g:Nat→Bool):(e8 m g).all id=(List.range' 0 m).all g:=by simp [e8,List.all_map]
theorem g9 {α:Type} {p:α→Bool} {xs:List α} {i:Nat} (h:i<xs.length):(xs.take (i+1)).any p=((xs.take i).any p||p xs[i]):=by
 rw [List.take_succ_eq_append_getElem h,List.any_append];simp
theorem jZ {xs:List Int} {i:Nat} (h:i<xs.length) (v:Int):decide (v∈xs.take (i+1))=(decide (v∈xs.take i)||decide (v=xs[i])):=by
 have e:v∈xs.take (i+1)↔v∈xs.take i∨v=xs[i]:=by
  rw [List.take_succ_eq_append_getElem h,List.mem_append,List.mem_singleton]
 rw [Bool.eq_iff_iff];simp only [decide_eq_true_eq,Bool.or_eq_true];exact e
section
variable {N:Nat}
def eG (m:Nat) (atoms:List bz) (i:Nat):List Bool:=e8 m fun v=>(atoms.take i).any fun a=>decide ((v:Int)∈a.2)
def fJ (m:Nat) (atoms:List bz) (i:Nat) (xs:List Int) (j:Nat):List Bool:=e8 m fun v=>(atoms.take i).any (fun a=>decide ((v:Int)∈a.2))||decide ((v:Int)∈xs.take j)
theorem nI (m:Nat) (atoms:List bz) (i:Nat) (xs:List Int):fJ m atoms i xs 0=eG m atoms i:=iT fun v=>by simp
theorem lH (m:Nat) (atoms:List bz) {i:Nat} (h:i<atoms.length):fJ m atoms i atoms[i].2 atoms[i].2.length=eG m atoms (i+1):=iT fun v=>by rw [List.take_length,g9 h]
theorem kZ {m:Nat} {atoms:List bz} {i:Nat} {xs:List Int} {j c:Nat} (hj:j<xs.length) (hc:xs[j]=(c:Int)) (hm:c<m):sto (fJ m atoms i xs j) (c:Int) true=some (fJ m atoms i xs (j+1)):=by
 unfold fJ
 rw [mH hm]
 congr 1
 refine iT fun v=>?_
 rw [jZ hj,hc,Bool.or_assoc]
 congr 2
 rw [decide_eq_decide];omega
theorem mt {m:Nat} {atoms:List bz} {i:Nat} {xs:List Int} {j c:Nat} (hm:c<m):∃ b,ix (fJ m atoms i xs j) (c:Int)=some b:=⟨_,nv hm⟩
theorem mR (m:Nat) (atoms:List bz):List.replicate m false=eG m atoms 0:=by
 refine List.ext_getElem (by simp [eG,e8]) fun i h1 h2=>?_
 simp [eG,e8]
theorem ky {m:Nat} {atoms:List bz} {i:Nat} {xs:List Int} {t:List bz} {tl ti:Int} (hx:xs.length≤1048576) (hm:m≤5) (k j:Nat) (hj:j<xs.length) :
  bl N (k+1) (m:Int) (fJ m atoms i xs j) t tl ti xs (xs.length:Int) (j:Int)=bif (if h:j<xs.length then inR xs[j] 0 ((m:Int)-1) else true) then bl N k (m:Int) (fJ m atoms i xs (j+1)) t tl ti xs (xs.length:Int) ((j+1:Nat):Int) else some (.inl false):=by
 rw [bl,dlt hj,cond_true,aH hj,bs,dk (by omega) (by omega),bs,cJ,bs,dif_pos hj]
 cases hc:inR xs[j] 0 ((m:Int)-1) with
 | false=>rw [cond_false,cond_false]
 | true =>
  have hc':=cp.1 hc
  obtain ⟨c,hcc⟩:=Int.eq_ofNat_of_zero_le hc'.1
  obtain ⟨b,hb⟩:=mt (m:=m) (atoms:=atoms) (i:=i) (xs:=xs) (j:=j) (c:=c) (by omega)
  rw [cond_true,cond_true,hcc,hb,bs,kZ hj hcc (by omega),bs,ad1 (by omega),bs]
theorem ot (hN:1073741824≤N) {m:Nat} {atoms:List bz} {i:Nat} {xs:List Int} {t:List bz} {tl ti:Int} (hx:xs.length≤1048576) (hm:m≤5) :
  bl N N (m:Int) (eG m atoms i) t tl ti xs (xs.length:Int) 0=some (bif xs.all (fun v=>inR v 0 ((m:Int)-1)) then .inr (fJ m atoms i xs xs.length,(xs.length:Int)) else .inl false):=by
 have h:=me (fun k (s:List Bool) j=>bl N k (m:Int) s t tl ti xs (xs.length:Int) j) xs.length false (fun j=>if h:j<xs.length then inR xs[j] 0 ((m:Int)-1) else true) (fJ m atoms i xs) (fJ m atoms i xs xs.length,(xs.length:Int))
  (fun k j hj=>ky hx hm k j hj)
  (fun k=>by
   show bl N (k+1) (m:Int) _ t tl ti xs _ (xs.length:Int)=_
   rw [bl,dge (by omega),cond_false]) N 0 (by omega) (by omega)
 rw [Nat.sub_zero,il xs (fun v=>inR v 0 ((m:Int)-1)) _ (fun j hj=>by rw [dif_pos hj]),nI] at h
 exact h
theorem kA (hN:1073741824≤N) {m:Nat} {atoms:List bz} (ha:dT atoms) (hm:m≤5) (k i:Nat) (h:i<atoms.length) :
  bj N (k+1) (m:Int) (eG m atoms i) atoms (atoms.length:Int) (i:Int)=bif (if h:i<atoms.length then eJ m atoms[i] else true) then bj N k (m:Int) (eG m atoms (i+1)) atoms (atoms.length:Int) ((i+1:Nat):Int) else some (.inl false):=by
 have hl:=ha.1
 obtain ⟨g1,g2⟩:=ha.2 _ (List.getElem_mem h)
 rw [bj,dlt h,cond_true,aH h,bs,hU hN g1,bs,cJ,bs,dif_pos h]
 unfold eJ
 cases fW atoms[i].1 with
 | false=>simp only [Bool.false_and,Bool.and_false,Bool.true_and,cond_false,cond_true]
 | true =>
  cases inR (atoms[i].2.length:Int) 1 5 with
  | false=>simp only [Bool.false_and,Bool.and_false,Bool.true_and,cond_false,cond_true]
  | true =>
   simp only [cond_true,Bool.true_and]
   rw [ot hN g2.1 hm,bs]
   cases atoms[i].2.all fun v=>inR v 0 ((m:Int)-1) with
   | false=>simp only [cond_false,lpS]
   | true =>
    rw [cond_true,gF,ad1 (by omega),bs,lH m atoms h,cond_true]
theorem nX (hN:1073741824≤N) {m:Nat} {atoms:List bz} (ha:dT atoms) (hm:m≤5) :
  bj N N (m:Int) (List.replicate m false) atoms (atoms.length:Int) 0=some (bif atoms.all (eJ m) then .inr (eG m atoms atoms.length,(atoms.length:Int)) else .inl false):=by
 have hl:=ha.1
 have h:=me (fun k (s:List Bool) i=>bj N k (m:Int) s atoms (atoms.length:Int) i) atoms.length false (fun i=>if h:i<atoms.length then eJ m atoms[i] else true) (eG m atoms) (eG m atoms atoms.length,(atoms.length:Int))
  (fun k i h=>kA hN ha hm k i h)
  (fun k=>by
   show bj N (k+1) (m:Int) _ atoms _ (atoms.length:Int)=_
   rw [bj,dge (by omega),cond_false]) N 0 (by omega) (by omega)
 rw [Nat.sub_zero,il atoms (eJ m) _ (fun i hi=>by rw [dif_pos hi]),← mR] at h
 exact h
theorem ox (hN:1073741824≤N) {xs:List Bool} (hx:xs.length≤1048576):bB N N xs (xs.length:Int) 0=some (bif xs.all id then .inr (xs.length:Int) else .inl false) :=
 jx (fun k i=>bB N k xs (xs.length:Int) i) xs id hN hx
  (fun k i h=>by
   show bB N (k+1) _ _ (i:Int)=_
   rw [bB,dlt h,cond_true,aH h,bs,ad1 (by omega),bs];rfl)
  (fun k=>by
   show bB N (k+1) _ _ (xs.length:Int)=_
   rw [bB,dge (by omega),cond_false])
theorem lP {m:Nat} {atoms:List bz}:(eG m atoms atoms.length).all id=fO m atoms:=by
 unfold eG fO
 rw [mF,Int.toNat_natCast,List.take_length]
theorem i9 {n:Int} {atoms:List bz} {out:List Int} (h:inR n 1 5=false):c9 n atoms out=false:=by unfold c9;rw [h];rfl
theorem ep (hN:1073741824≤N) {n:Int} {atoms:List bz} {out:List Int} (ha:dT atoms) (ho:okI out):cW N n atoms out=some (c9 n atoms out):=by
 have hl:=ha.1
 unfold cW
 rw [cJ,bs,cJ,bs]
 cases hn:inR n 1 5 with
 | false=>rw [i9 hn];rfl
 | true =>
  have hn':=cp.1 hn
  unfold c9
  rw [hn,cond_true,lh hN ho.1 (by omega),bs]
  cases inR (atoms.length:Int) 1 4 with
  | false=>rfl
  | true =>
   cases eO out n with
   | false=>rfl
   | true =>
    obtain ⟨m,rfl⟩:=Int.eq_ofNat_of_zero_le (by omega:0≤n)
    simp only [cond_true,Bool.and_self,Bool.true_and]
    rw [j0 (by decide) (by omega),bs,nX hN ha (by omega),bs]
    cases atoms.all (eJ m) with
    | false=>rfl
    | true =>
     simp only [cond_true,lpS,Bool.true_and]
     rw [ox hN (by unfold eG;rw [iQ];omega),bs,lP]
     cases fO m atoms <;> rfl
theorem go (hN:1073741824≤N) {s:ByteArray} {xs:List Int} {v:Int} (hx:okI xs):cM N s xs v=some (decide (v∈xs)):=by
 have hl:=hx.1
 have:=mJ (fun k i=>aW N k v s xs i) xs (fun x=>decide (x=v)) (fun _=>true) (xs.length:Int) (by omega)
  (fun k i h=>by
   show aW N (k+1) v s xs (i:Int)=_
   rw [aW,dlt h,cond_true,aH h,bs,ad1 (by omega),bs,oR])
  (fun k=>by
   show aW N (k+1) v s xs (xs.length:Int)=_
   rw [aW,dge (by omega),cond_false]) N 0 (by omega) (by omega)
 rw [List.drop_zero] at this
 have this':aW N N v s xs 0=_:=this
 unfold cM
 rw [this',bs]
 cases hf:xs.find? (fun x=>decide (x=v)) with
 | none =>
  have:v∉xs:=fun hm=>by have:=(List.find?_eq_none.1 hf) v hm;simp at this
  simp [lpS,this]
 | some y =>
  have h1:=List.find?_some hf
  have h2:=List.mem_of_find?_eq_some hf
  have:v∈xs:=by simp at h1;rw [← h1];exact h2
  simp [lpS,this]
theorem nT (hN:1073741824≤N) {n:Int} {atoms:List bz} {out:List Int} {i:Nat} (h:i<atoms.length) (hn:n≤5) (h0:0≤n) (hx:atoms[i].2.length≤1048576) :
  bv N N n atoms out (i:Int) 0=some (bif atoms[i].2.all (fun v=>inR v 0 (n-1)) then .inr (atoms[i].2.length:Int) else .inl false) :=
 jx (fun k2 j=>bv N k2 n atoms out (i:Int) j) atoms[i].2 (fun v=>inR v 0 (n-1)) hN hx
  (fun k2 j hj=>by
   show bv N (k2+1) n atoms out (i:Int) (j:Int)=_
   rw [bv,aH h,bs,dlt hj,cond_true,bs,aH hj,bs,dk (by omega) (by omega),bs,dJ,bs,ad1 (by omega),bs])
  (fun k2=>by
   show bv N (k2+1) n atoms out (i:Int) (atoms[i].2.length:Int)=_
   rw [bv,aH h,bs,dge (by omega),cond_false])
theorem oC (hN:1073741824≤N) {n:Int} {atoms:List bz} {out:List Int} (ha:dT atoms) (hn:n≤5) (h0:0≤n) :
  bu N N n atoms out 0=some (bif atoms.all (eJ n) then .inr (atoms.length:Int) else .inl false) :=
 jx (fun k i=>bu N k n atoms out i) atoms (eJ n) hN ha.1
  (fun k i h=>by
   have hl:=ha.1
   obtain ⟨g1,g2⟩:=ha.2 _ (List.getElem_mem h)
   show bu N (k+1) n atoms out (i:Int)=_
   rw [bu,dlt h,cond_true,aH h,bs,hO hN g1,bs,bs,dJ,bs]
   unfold eJ
   cases fW atoms[i].1 with
   | false=>simp only [Bool.false_and,Bool.and_false,Bool.true_and,cond_false,cond_true]
   | true =>
    cases inR (atoms[i].2.length:Int) 1 5 with
    | false=>simp only [Bool.false_and,Bool.and_false,Bool.true_and,cond_false,cond_true]
    | true =>
     simp only [cond_true,Bool.true_and]
     rw [nT hN h hn h0 g2.1,bs]
     cases atoms[i].2.all fun v=>inR v 0 (n-1) with
     | false=>simp only [cond_false,lpS]
     | true =>
      rw [cond_true,gF,ad1 (by omega),bs,cond_true])
  (fun k=>by
   show bu N (k+1) n atoms out (atoms.length:Int)=_
   rw [bu,dge (by omega),cond_false])
theorem n0 (hN:1073741824≤N) {n v:Int} {atoms:List bz} {out:List Int} (ha:dT atoms) :
  bk N N n atoms out v false 0=some (atoms.any (fun a=>decide (v∈a.2)),(atoms.length:Int)):=by
 have hl:=ha.1
 exact lm (fun k2 (s:Bool) j=>bk N k2 n atoms out v s j) atoms.length (fun j=>(atoms.take j).any fun a=>decide (v∈a.2)) (atoms.any (fun a=>decide (v∈a.2)),(atoms.length:Int))
  (fun k2 j hj=>by
   obtain ⟨g1,g2⟩:=ha.2 _ (List.getElem_mem hj)
   show bk N (k2+1) n atoms out v _ (j:Int)=_
   rw [bk,dlt hj,cond_true,g9 hj,ad1 (by omega),bs,aH hj,bs,go hN g2,bs,bs]
   cases (atoms.take j).any fun a=>decide (v∈a.2) <;> rfl)
  (fun k2=>by
   show bk N (k2+1) n atoms out v _ (atoms.length:Int)=_
   rw [bk,dge (by omega),cond_false,List.take_length]) N 0 (by omega) (by omega)
theorem nW (hN:1073741824≤N) {m:Nat} {atoms:List bz} {out:List Int} (ha:dT atoms) (hm:m≤5) :
  bC N N (m:Int) atoms out 0=some (bif fO m atoms then .inr (m:Int) else .inl false):=by
 have h:=jo (fun k i=>bC N k (m:Int) atoms out i) m (by omega) false (fun v=>atoms.any fun a=>decide ((v:Int)∈a.2)) (m:Int)
  (fun k v h=>by
   show bC N (k+1) (m:Int) atoms out (v:Int)=_
   rw [bC,dlt h,cond_true,n0 hN ha,bs,lpB]
   simp only []
   rw [ad1 (by omega),bs])
  (fun k=>by
   show bC N (k+1) (m:Int) atoms out (m:Int)=_
   rw [bC,dge (by omega),cond_false]) N 0 (by omega) (by omega)
 unfold fO
 rw [Int.toNat_natCast]
 rw [Nat.sub_zero] at h
 exact h
theorem oo (hN:1073741824≤N) {n:Int} {atoms:List bz} {out:List Int} (ho:out.length≤1048576) (hn:n≤5) (h0:0≤n) :
  bA N N n atoms out 0=some (bif eO out n then .inr (out.length:Int) else .inl false):=by
 have h:=jo (fun k i=>bA N k n atoms out i) out.length (by omega) false (fun i=>inR (out.getD i 0) 0 (n-1)&&!decide (out.getD i 0∈out.take i)) (out.length:Int)
  (fun k i h=>by
   show bA N (k+1) n atoms out (i:Int)=_
   rw [bA,dlt h,cond_true,aH h,bs,dk (by omega) (by omega),bs,dJ,bs,show ((0:Int))=((0:Nat):Int) from rfl,hZ (Nat.zero_le _) (by omega),bs,bs,List.drop_zero,lS hN (by simp;omega),bs,ad1 (by omega),bs]
   simp only [fB h,ig,show ((0:Nat):Int)=0 from rfl]
   cases inR out[i] 0 (n-1)
   ·rfl
   ·cases decide (out[i]∈out.take i) <;> rfl)
  (fun k=>by
   show bA N (k+1) n atoms out (out.length:Int)=_
   rw [bA,dge (by omega),cond_false]) N 0 (by omega) (by omega)
 rw [Nat.sub_zero] at h
 exact h
theorem eu (hN:1073741824≤N) {n:Int} {atoms:List bz} {out:List Int} (ha:dT atoms) (ho:okI out):cl N n atoms out=some (c9 n atoms out):=by
 have hl:=ha.1
 have hol:=ho.1
 unfold cl
 rw [dJ,bs,dJ,bs]
 cases hn:inR n 1 5 with
 | false=>rw [i9 hn];rfl
 | true =>
  have hn':=cp.1 hn
  unfold c9
  rw [hn]
  cases inR (atoms.length:Int) 1 4 with
  | false=>rfl
  | true =>
   simp only [cond_true,Bool.true_and]
   by_cases hlen:n<(out.length:Int)
   ·have:eO out n=false:=by
     rw [← Bool.not_eq_true];intro h
     have:=k8 (by omega) h;omega
    rw [decide_eq_true hlen,cond_true,this];rfl
   ·obtain ⟨m,rfl⟩:=Int.eq_ofNat_of_zero_le (by omega:0≤n)
    rw [decide_eq_false hlen,cond_false,oC hN ha (by omega) (by omega),bs]
    cases atoms.all (eJ m) with
    | false=>rw [Bool.and_false,Bool.false_and];rfl
    | true =>
     simp only [cond_true,lpS,Bool.and_true]
     rw [nW hN ha (by omega),bs]
     cases fO m atoms with
     | false=>rw [Bool.and_false];rfl
     | true =>
      simp only [cond_true,lpS,Bool.and_true]
      rw [oo hN hol (by omega) (by omega),bs]
      cases eO out m <;> rfl
def fU (n:Int) (atoms:List bz) (out:List Int) (rows:Int):Int:=bif c9 n atoms out&&inR rows 0 1000000 then 2*n*atoms.length*rows else 0
theorem iq {n:Int} {atoms:List bz} {out:List Int} (h:c9 n atoms out=true):1≤n∧n≤5∧1≤(atoms.length:Int)∧(atoms.length:Int)≤4:=by
 unfold c9 at h
 simp only [Bool.and_eq_true,cp] at h
 exact ⟨h.1.1.1.1.1,h.1.1.1.1.2,h.1.1.1.2.1,h.1.1.1.2.2⟩
theorem jI {n l r:Int} (h1:1≤n∧n≤5) (h2:1≤l∧l≤4) (h3:0≤r∧r≤1000000):0≤2*n*l∧2*n*l≤40∧0≤2*n*l*r∧2*n*l*r≤40000000:=by
 have a:0≤2*n*l∧2*n*l≤40:=by
  have:=Int.mul_le_mul (show 2*n≤10 by omega) h2.2 (by omega) (by omega)
  exact ⟨Int.mul_nonneg (by omega) (by omega),by omega⟩
 refine ⟨a.1,a.2,Int.mul_nonneg a.1 h3.1,?_⟩
 have:=Int.mul_le_mul a.2 h3.2 h3.1 (by omega)
 omega
theorem cX (hN:1073741824≤N) {n:Int} {atoms:List bz} {out:List Int} {rows:Int} (ha:dT atoms) (ho:okI out):cK N n atoms out rows=some (fU n atoms out rows):=by
 unfold cK fU
 rw [ep hN ha ho,bs,cJ,bs]
 cases hq:c9 n atoms out
 ·rfl
 cases hr:inR rows 0 1000000
 ·rfl
 obtain ⟨h1,h2,h3,h4⟩:=iq hq
 have h5:=cp.1 hr
 obtain ⟨b1,b2,b3,b4⟩:=jI ⟨h1,h2⟩ ⟨h3,h4⟩ h5
 simp only [cond_true,Bool.and_self]
 rw [d7 (by omega) (by omega),bs,d7 (by omega) (by omega),bs,d7 (by omega) (by omega),bs]
theorem ef (hN:1073741824≤N) {n:Int} {atoms:List bz} {out:List Int} {rows:Int} (ha:dT atoms) (ho:okI out):cL N n atoms out rows=some (fU n atoms out rows):=by
 unfold cL fU
 rw [eu hN ha ho,bs,dJ,bs]
 cases hq:c9 n atoms out
 ·rfl
 cases hr:inR rows 0 1000000
 ·rfl
 obtain ⟨h1,h2,h3,h4⟩:=iq hq
 have h5:=cp.1 hr
 obtain ⟨b1,b2,b3,b4⟩:=jI ⟨h1,h2⟩ ⟨h3,h4⟩ h5
 simp only [cond_true,Bool.and_self]
 rw [d7 (by omega) (by omega),bs,d7 (by omega) (by omega),bs,d7 (by omega) (by omega),bs]
end
section
variable {N:Nat}
theorem oW (N:Nat):∀ (k:Nat) (x y:Int),dU N k x y=dj N k x y:=by
 intro k
 induction k with
 | zero=>intro x y;rw [dU,dj]
 | succ k ih=>intro x y;rw [dU,dj];simp only [ih]
theorem iN (N:Nat) (x y:Int):dW N x y=d5 N x y:=by unfold dW d5;rw [oW]
theorem j5 {a b:Int} (ha:0≤a) (hb:0<b) (h:a≤4611686018427387904):qt a b=some (a.tdiv b):=by
 have h1:0≤a.tdiv b:=Int.tdiv_nonneg ha (by omega)
 have h2:a.tdiv b≤a:=Int.tdiv_le_self b ha
 unfold qt;rw [if_pos ⟨by omega,gl (by omega) (by omega)⟩]
theorem gQ {a b:Int} (ha:0≤a) (hb:0<b):0≤a.tdiv b∧a.tdiv b≤a:=⟨Int.tdiv_nonneg ha (by omega),Int.tdiv_le_self b ha⟩
theorem lO:∀ (m k:Nat) (x y:Int),0≤x→0≤y→y≤m→m<k→(0<x∨0<y)→∃ g z,dj N k x y=some (g,z)∧0<g:=by
 intro m
 induction m with
 | zero =>
  intro k x y hx hy hm hk h
  obtain ⟨k,rfl⟩:∃ k',k=k'+1:=⟨k-1,by omega⟩
  obtain rfl:y=0:=by omega
  rw [dj,show ((0:Int) != 0)=false from rfl,cond_false]
  exact ⟨x,0,rfl,by omega⟩
 | succ m ih =>
  intro k x y hx hy hm hk h
  obtain ⟨k,rfl⟩:∃ k',k=k'+1:=⟨k-1,by omega⟩
  rw [dj]
  by_cases h0:y=0
  ·subst h0
   rw [show ((0:Int) != 0)=false from rfl,cond_false]
   exact ⟨x,0,rfl,by omega⟩
  ·rw [show (y != 0)=true by simpa using h0,cond_true,j6 h0,bs]
   obtain ⟨t1,t2⟩:=jt (b:=y) hx (by omega)
   exact ih k y (x.tmod y) hy t1 (by omega) (by omega) (.inl (by omega))
theorem iJ (hN:1073741824≤N) {x y:Int} (hx:0≤x) (hy:0≤y) (h1:y≤1000000000) (h:0<x∨0<y):∃ g,d5 N x y=some g∧0<g:=by
 obtain ⟨g,z,e,hg⟩:=lO (N:=N) 1000000000 N x y hx hy (by omega) (by omega) h
 refine ⟨g,?_,hg⟩
 unfold d5;rw [e,bs,lpB]
abbrev dS:=Int × Int
theorem ko (N:Nat) (n d:Int):b7 N n d=aV N n d:=by
 unfold b7 aV
 rw [dJ,cJ,bs,bs,dJ,cJ,bs,bs]
 unfold gp
 cases inR d 1 1000000000
 ·rfl
 cases inR n (-1000000000) 1000000000
 ·rfl
 rw [cond_true,cond_true,cond_true,cond_true]
 cases sb 0 n with
 | none=>rfl
 | some z=>rw [bs,bs,bs,iN]
theorem iO (hN:1073741824≤N) (n d:Int):∃ b,aV N n d=some b∧(b=true→1≤d∧d≤1000000000∧-1000000000≤n∧n≤1000000000):=by
 unfold aV
 rw [cJ,bs,cJ,bs]
 cases h1:inR d 1 1000000000
 ·exact ⟨false,rfl,fun h=>by cases h⟩
 cases h2:inR n (-1000000000) 1000000000
 ·exact ⟨false,rfl,fun h=>by cases h⟩
 have h1':=cp.1 h1
 have h2':=cp.1 h2
 have hab:0≤imx n (0-n):=by unfold imx;split <;> omega
 obtain ⟨g,e,_⟩:=iJ (N:=N) hN hab (by omega:0≤d) (by omega) (.inr (by omega))
 unfold gp
 rw [cond_true,cond_true,dk (by omega) (by omega),bs,bs,e,bs]
 exact ⟨_,rfl,fun _=>⟨h1'.1,h1'.2,h2'.1,h2'.2⟩⟩
def wOk (N:Nat) (r:dS):Bool:=(aV N r.1 r.2).getD false&&decide (0≤r.1)
theorem gS (hN:1073741824≤N) {r:dS} (h:wOk N r=true):aV N r.1 r.2=some true∧0≤r.1∧r.1≤1000000000∧1≤r.2∧r.2≤1000000000:=by
 obtain ⟨b,e,hb⟩:=iO hN r.1 r.2
 unfold wOk at h
 rw [e,Option.getD_some,Bool.and_eq_true,decide_eq_true_eq] at h
 obtain ⟨rfl,h2⟩:=h
 have:=hb rfl
 exact ⟨e,h2,this.2.2.2,this.1,this.2.1⟩
theorem jP (hN:1073741824≤N) (r:dS):wOk N r=true∨(wOk N r=false∧(aV N r.1 r.2=some false∨aV N r.1 r.2=some true∧r.1<0)):=by
 obtain ⟨b,e,hb⟩:=iO hN r.1 r.2
 unfold wOk
 rw [e,Option.getD_some]
 cases b with
 | false=>exact .inr ⟨rfl,.inl rfl⟩
 | true =>
  by_cases h:0≤r.1
  ·exact .inl (by rw [decide_eq_true h];rfl)
  ·exact .inr ⟨by rw [decide_eq_false h];rfl,.inr ⟨rfl,by omega⟩⟩
def gd (N:Nat) (d:Int) (r:dS):Int:=(d.tdiv ((d5 N d r.2).getD 1))*r.2
theorem iL (hN:1073741824≤N) {d:Int} {r:dS} (h:wOk N r=true) (h0:0≤d) (h1:d≤1000):∃ g,d5 N d r.2=some g∧qt d g=some (d.tdiv g)∧ml (d.tdiv g) r.2=some (gd N d r)∧0≤gd N d r:=by
 obtain ⟨_,_,_,k1,k2⟩:=gS hN h
 obtain ⟨g,e,hg⟩:=iJ (N:=N) hN h0 (by omega:0≤r.2) k2 (.inr (by omega))
 obtain ⟨t1,t2⟩:=gQ h0 hg
 have hm:0≤d.tdiv g*r.2:=Int.mul_nonneg t1 (by omega)
 have hm2:d.tdiv g*r.2≤1000*1000000000:=Int.mul_le_mul (by omega) k2 (by omega) (by omega)
 have es:gd N d r=d.tdiv g*r.2:=by unfold gd;rw [e];rfl
 refine ⟨g,e,j5 h0 hg (by omega),?_,?_⟩
 ·rw [es,d7 (by omega) (by omega)]
 ·rw [es];exact hm
def sD (N:Nat) (rs:List dS):Nat→Nat→Int→Option Int
 | 0,_,d=>some d
 | m+1,i,d=>if 1000<gd N d (rs.getD i (0,0)) then none else sD N rs m (i+1) (gd N d (rs.getD i (0,0)))
theorem oP (hN:1073741824≤N) {rs:List dS} (ha:∀ i,i<rs.length→wOk N (rs.getD i (0,0))=true):∀ m i d d',i+m=rs.length→0≤d→d≤1000→sD N rs m i d=some d'→0≤d'∧d'≤1000:=by
 intro m
 induction m with
 | zero=>intro i d d' _ h0 h1 h;unfold sD at h;cases h;exact ⟨h0,h1⟩
 | succ m ih =>
  intro i d d' hi h0 h1 h
  unfold sD at h
  obtain ⟨g,_,_,_,g4⟩:=iL hN (ha i (by omega)) h0 h1
  by_cases hc:1000<gd N d (rs.getD i (0,0))
  ·rw [if_pos hc] at h;cases h
  ·rw [if_neg hc] at h;exact ih (i+1) _ d' (by omega) g4 (by omega) h
theorem gi {rs:List dS} {i:Nat} (h:i<rs.length):rs[i]=rs.getD i (0,0):=by simp [h]
def j9 (rs:List dS) (o:Option Int):Sum (List Int × Int) (Int × Int):=match o with | none=>.inl ([],0) | some d=>.inr (d,(rs.length:Int))
theorem lL (hN:1073741824≤N) {rs:List dS} (hl:rs.length≤1048576):∀ m i k d,i+m=rs.length→m<k→0≤d→d≤1000 →
  bH N k rs d (i:Int)=some (bif (List.range' i m).all (fun j=>wOk N (rs.getD j (0,0))) then j9 rs (sD N rs m i d) else .inl ([],0)):=by
 intro m
 induction m with
 | zero =>
  intro i k d hi hk h0 h1
  obtain ⟨k,rfl⟩:∃ k',k=k'+1:=⟨k-1,by omega⟩
  obtain rfl:i=rs.length:=by omega
  rw [bH,dge (by omega),cond_false];rfl
 | succ m ih =>
  intro i k d hi hk h0 h1
  obtain ⟨k,rfl⟩:∃ k',k=k'+1:=⟨k-1,by omega⟩
  have h:i<rs.length:=by omega
  rw [bH,dlt h,cond_true,aH h,bs,gi h,ko,List.range'_succ,List.all_cons]
  rcases jP hN (rs.getD i (0,0)) with hw | ⟨hw,hw2 | ⟨hw2,hw3⟩⟩
  ·obtain ⟨k1,k2,k3,k4,k5⟩:=gS hN hw
   obtain ⟨g,g1,g2,g3,g4⟩:=iL hN hw h0 h1
   rw [hw,k1,bs,cond_true,bs,decide_eq_false (by omega),cond_false,bs,iN,g1,bs,g2,bs,bs,g3,bs,Bool.true_and,sD]
   by_cases hc:1000<gd N d (rs.getD i (0,0))
   ·rw [decide_eq_true hc,cond_true,if_pos hc]
    cases (List.range' (i+1) m).all (fun j=>wOk N (rs.getD j (0,0))) <;> rfl
   ·rw [decide_eq_false hc,cond_false,if_neg hc,ad1 (by omega),bs,ih (i+1) k _ (by omega) (by omega) g4 (by omega)]
  ·rw [hw,hw2,bs,cond_false,Bool.false_and,cond_false]
  ·rw [hw,hw2,bs,cond_true,bs,decide_eq_true hw3,cond_true,Bool.false_and,cond_false]
theorem lw (hN:1073741824≤N) {rs:List dS} (hl:rs.length≤1048576):∀ m i k d,i+m=rs.length→m<k →
  bJ N k rs d rs (rs.length:Int) (i:Int)=some (bif (List.range' i m).all (fun j=>wOk N (rs.getD j (0,0))) then .inr (rs.length:Int) else .inl ([],0)):=by
 intro m
 induction m with
 | zero =>
  intro i k d hi hk
  obtain ⟨k,rfl⟩:∃ k',k=k'+1:=⟨k-1,by omega⟩
  obtain rfl:i=rs.length:=by omega
  rw [bJ,dge (by omega),cond_false];rfl
 | succ m ih =>
  intro i k d hi hk
  obtain ⟨k,rfl⟩:∃ k',k=k'+1:=⟨k-1,by omega⟩
  have h:i<rs.length:=by omega
  rw [bJ,dlt h,cond_true,aH h,bs,gi h,List.range'_succ,List.all_cons]
  rcases jP hN (rs.getD i (0,0)) with hw | ⟨hw,hw2 | ⟨hw2,hw3⟩⟩
  ·obtain ⟨k1,k2,k3,k4,k5⟩:=gS hN hw
   rw [hw,k1,bs,cond_true,decide_eq_false (by omega),cond_false,Bool.true_and,ad1 (by omega),bs,ih (i+1) k d (by omega) (by omega)]
  ·rw [hw,hw2,bs,cond_false,Bool.false_and,cond_false]
  ·rw [hw,hw2,bs,cond_true,decide_eq_true hw3,cond_true,Bool.false_and,cond_false]
theorem lR (hN:1073741824≤N) {rs:List dS} (hl:rs.length≤1048576) (ha:∀ i,i<rs.length→wOk N (rs.getD i (0,0))=true):∀ m i k d,i+m=rs.length→m<k→0≤d→d≤1000 →
  bI N k rs d rs (rs.length:Int) (i:Int)=some (j9 rs (sD N rs m i d)):=by
 intro m
 induction m with
 | zero =>
  intro i k d hi hk h0 h1
  obtain ⟨k,rfl⟩:∃ k',k=k'+1:=⟨k-1,by omega⟩
  obtain rfl:i=rs.length:=by omega
  rw [bI,dge (by omega),cond_false];rfl
 | succ m ih =>
  intro i k d hi hk h0 h1
  obtain ⟨k,rfl⟩:∃ k',k=k'+1:=⟨k-1,by omega⟩
  have h:i<rs.length:=by omega
  obtain ⟨g,g1,g2,g3,g4⟩:=iL hN (ha i h) h0 h1
  rw [bI,dlt h,cond_true,aH h,bs,gi h,g1,bs,g2,bs,g3,bs,sD]
  by_cases hc:1000<gd N d (rs.getD i (0,0))
  ·rw [decide_eq_true hc,cond_true,if_pos hc];rfl
  ·rw [decide_eq_false hc,cond_false,if_neg hc,ad1 (by omega),bs,ih (i+1) k _ (by omega) (by omega) g4 (by omega)]
def fc (rs:List dS) (d:Int) (i:Nat):List Int:=(rs.take i).map fun r=>r.1*d.tdiv r.2
theorem jR {rs:List dS} {d:Int} {i:Nat} (h:i<rs.length):fc rs d i++[(rs.getD i (0,0)).1*d.tdiv (rs.getD i (0,0)).2]=fc rs d (i+1):=by
 unfold fc;rw [List.take_succ_eq_append_getElem h,List.map_append,gi h];rfl
theorem iR {rs:List dS} {d:Int} {i:Nat}:(fc rs d i).length≤rs.length:=by unfold fc;simp;omega
theorem kS (hN:1073741824≤N) {d:Int} {r:dS} (h:wOk N r=true) (h0:0≤d) (h1:d≤1000):qt d r.2=some (d.tdiv r.2)∧ml r.1 (d.tdiv r.2)=some (r.1*d.tdiv r.2):=by
 obtain ⟨_,k0,k1,k2,k3⟩:=gS hN h
 obtain ⟨t1,t2⟩:=gQ h0 (by omega:0<r.2)
 have hm:0≤r.1*d.tdiv r.2:=Int.mul_nonneg k0 t1
 have hm2:r.1*d.tdiv r.2≤1000000000*1000:=Int.mul_le_mul k1 (by omega) t1 (by omega)
 exact ⟨j5 h0 (by omega) (by omega),d7 (by omega) (by omega)⟩
theorem mf (hN:1073741824≤N) {rs:List dS} (hl:rs.length≤1048576) (ha:∀ i,i<rs.length→wOk N (rs.getD i (0,0))=true) {d:Int} (h0:0≤d) (h1:d≤1000) :
  bb N N rs d [] 0=some (fc rs d rs.length,(rs.length:Int)) :=
 lm (fun k (s:List Int) i=>bb N k rs d s i) rs.length (fc rs d) (fc rs d rs.length,(rs.length:Int))
  (fun k i h=>by
   obtain ⟨q1,q2⟩:=kS hN (ha i h) h0 h1
   have ho:=iR (rs:=rs) (d:=d) (i:=i)
   show bb N (k+1) rs d (fc rs d i) (i:Int)=_
   rw [bb,dlt h,cond_true,aH h,bs,bs,gi h,q1,bs,q2,bs,de (by decide) (by simp;omega),bs,jR h,ad1 (by omega),bs])
  (fun k=>by
   show bb N (k+1) rs d (fc rs d rs.length) (rs.length:Int)=_
   rw [bb,dge (by omega),cond_false]) N 0 (by omega) (by omega)
theorem l7 (hN:1073741824≤N) {rs:List dS} (hl:rs.length≤1048576) (ha:∀ i,i<rs.length→wOk N (rs.getD i (0,0))=true) {d:Int} (h0:0≤d) (h1:d≤1000) :
  be N N d [] rs (rs.length:Int) 0=some (fc rs d rs.length,(rs.length:Int)) :=
 lm (fun k (s:List Int) i=>be N k d s rs (rs.length:Int) i) rs.length (fc rs d) (fc rs d rs.length,(rs.length:Int))
  (fun k i h=>by
   obtain ⟨q1,q2⟩:=kS hN (ha i h) h0 h1
   have ho:=iR (rs:=rs) (d:=d) (i:=i)
   show be N (k+1) d (fc rs d i) rs (rs.length:Int) (i:Int)=_
   rw [be,dlt h,cond_true,aH h,bs,gi h,q1,bs,q2,bs,de (by decide) (by simp;omega),bs,jR h,ad1 (by omega),bs])
  (fun k=>by
   show be N (k+1) d (fc rs d rs.length) rs (rs.length:Int) (rs.length:Int)=_
   rw [be,dge (by omega),cond_false]) N 0 (by omega) (by omega)
theorem i7 (hN:1073741824≤N) {rs:List dS} (hl:rs.length≤1048576):∃ v:List Int × Int,cU N rs=some v∧cS N rs=some v∧v.1.length≤1048576:=by
 have s1:=lL hN hl rs.length 0 N 1 (by omega) (by omega) (by omega) (by omega)
 have i1:=lw hN hl rs.length 0 N 1 (by omega) (by omega)
 have s1':bH N N rs 1 0=_:=s1
 have i1':bJ N N rs 1 rs (rs.length:Int) 0=_:=i1
 unfold cU cS
 rw [s1',i1',bs,bs]
 cases ha:(List.range' 0 rs.length).all (fun j=>wOk N (rs.getD j (0,0))) with
 | false=>exact ⟨([],0),by rw [cond_false,h8],by rw [cond_false,h8],Nat.zero_le _⟩
 | true =>
  have ha':∀ i,i<rs.length→wOk N (rs.getD i (0,0))=true:=fun i h=>(List.all_eq_true.1 ha) i (by simp;omega)
  have i2:=lR hN hl ha' rs.length 0 N 1 (by omega) (by omega) (by omega) (by omega)
  have i2':bI N N rs 1 rs (rs.length:Int) 0=_:=i2
  rw [cond_true,cond_true,gF,i2',bs]
  cases hd:sD N rs rs.length 0 1 with
  | none=>exact ⟨([],0),by unfold j9;rw [h8],by unfold j9;rw [h8],Nat.zero_le _⟩
  | some d =>
   obtain ⟨d0,d1⟩:=oP hN ha' rs.length 0 1 d (by omega) (by omega) (by omega) hd
   unfold j9
   rw [gF,gF]
   simp only []
   rw [mf hN hl ha' d0 d1,l7 hN hl ha' d0 d1,bs,lpB]
   exact ⟨_,rfl,rfl,by have:=iR (rs:=rs) (d:=d) (i:=rs.length);show (fc rs d rs.length).length≤_;omega⟩
end
theorem j7 {σ V:Type} (L1 L2:Nat→σ→Int→Option V) (n:Nat) (I:Nat→σ→Prop) (P:V→Prop)
  (hstep:∀ k i s,i<n→I i s→(∃ s',L1 (k+1) s (i:Int)=L1 k s' ((i+1:Nat):Int)∧L2 (k+1) s (i:Int)=L2 k s' ((i+1:Nat):Int)∧I (i+1) s')∨∃ v,L1 (k+1) s (i:Int)=some v∧L2 (k+1) s (i:Int)=some v∧P v)
  (hend:∀ k s,I n s→∃ v,L1 (k+1) s (n:Int)=some v∧L2 (k+1) s (n:Int)=some v∧P v) :
  ∀ k i s,i≤n→n-i<k→I i s→∃ v,L1 k s (i:Int)=some v∧L2 k s (i:Int)=some v∧P v:=by
 intro k
 induction k with
 | zero=>intro i s hi hk;omega
 | succ k ih =>
  intro i s hi hk hI
  by_cases h:i<n
  ·rcases hstep k i s h hI with ⟨s',e1,e2,hI'⟩ | ⟨v,e1,e2,hP⟩
   ·rw [e1,e2];exact ih (i+1) s' (by omega) (by omega) hI'
   ·exact ⟨v,e1,e2,hP⟩
  ·obtain rfl:i=n:=by omega
   exact hend k s hI
section
variable {N:Nat}
theorem o0 (N:Nat):∀ (k:Nat) (x:Int) (a b:List Int),cn N k x a b=aS N k x a b:=by
 intro k
 induction k with
 | zero=>intro x a b;rw [cn,aS]
 | succ k ih=>intro x a b;rw [cn,aS];simp only [ih]
theorem gY (N:Nat) (n:Int):cq N n=bm N n:=by unfold cq bm;rw [o0]
theorem jw {x:Int} (h0:0≤x) (h1:x≤9223372036854775807):qt x 10=some (x / 10):=by
 have e:x.tdiv 10=x / 10:=Int.tdiv_eq_ediv_of_nonneg h0
 unfold qt
 rw [if_pos ⟨by decide,by rw [e];unfold rng;simp only [Bool.and_eq_true,decide_eq_true_eq];omega⟩,e]
theorem jA (x:Int):rm x 10=some (x.tmod 10):=j6 (by decide)
theorem oU:∀ (m k:Nat) (x:Int) (a b:List Int),0≤x→x≤9223372036854775807→x<10 ^ m→m<k→b.length+m≤1048576→∃ y b',aS N k x a b=some (y,b')∧b'.length≤b.length+m:=by
 intro m
 induction m with
 | zero =>
  intro k x a b h0 hm h1 hk hb
  obtain ⟨k,rfl⟩:∃ k',k=k'+1:=⟨k-1,by omega⟩
  rw [aS,decide_eq_false (by simp at h1;omega),cond_false]
  exact ⟨x,b,rfl,by omega⟩
 | succ m ih =>
  intro k x a b h0 hm h1 hk hb
  obtain ⟨k,rfl⟩:∃ k',k=k'+1:=⟨k-1,by omega⟩
  rw [aS]
  by_cases hx:0<x
  ·have hd:x / 10<10 ^ m:=by rw [Int.pow_succ] at h1;omega
   rw [decide_eq_true hx,cond_true,jA,bs,de (by decide) (by simp;omega),bs,jw h0 hm,bs]
   obtain ⟨y,b',e,hl⟩:=ih k (x / 10) a (b++[x.tmod 10]) (by omega) (by omega) hd (by omega) (by rw [List.length_append,List.length_singleton];omega)
   rw [List.length_append,List.length_singleton] at hl
   exact ⟨y,b',e,by omega⟩
  ·rw [decide_eq_false hx,cond_false]
   exact ⟨x,b,rfl,by omega⟩
theorem iK (hN:1073741824≤N) {n:Int} (h0:0≤n) (h1:n≤9223372036854775807):∃ b,bm N n=some b∧b.length≤19:=by
 have hp:(10:Int) ^ 19=10000000000000000000:=by decide
 obtain ⟨y,b,e,hl⟩:=oU (N:=N) 19 N n [] [] h0 h1 (by rw [hp];omega) (by omega) (by rw [List.length_nil];omega)
 refine ⟨b,?_,by rw [List.length_nil] at hl;omega⟩
 unfold bm;rw [e,bs,lpB]
def vF (xs:List Int):Option Bool :=
 bif xs.all (fun v=>inR v 0 9) then
  (bif decide ((xs.length:Int)≤60) then (bif ((xs.length:Int) == 0) then some true else (sb (xs.length:Int) 1).bind fun x=>(ix xs x).bind fun y=>some (y != 0)) else some false)
 else some false
theorem jf (hN:1073741824≤N) {xs:List Int} (hx:xs.length≤1048576):bX N xs=vF xs:=by
 have h:=jx (fun k i=>bG N k xs i) xs (fun v=>inR v 0 9) hN hx
  (fun k i h=>by
   show bG N (k+1) xs (i:Int)=_
   rw [bG,dlt h,cond_true,aH h,bs,dJ,bs,ad1 (by omega),bs])
  (fun k=>by
   show bG N (k+1) xs (xs.length:Int)=_
   rw [bG,dge (by omega),cond_false])
 unfold bX vF
 rw [h,bs]
 cases xs.all fun v=>inR v 0 9 <;> rfl
theorem fo (hN:1073741824≤N) {xs:List Int} (hx:xs.length≤1048576):bY N xs=vF xs:=by
 have h:=jx (fun k i=>bE N k xs (xs.length:Int) xs (xs.length:Int) i) xs (fun v=>inR v 0 9) hN hx
  (fun k i h=>by
   show bE N (k+1) xs (xs.length:Int) xs (xs.length:Int) (i:Int)=_
   rw [bE,dlt h,cond_true,aH h,bs,cJ,bs,ad1 (by omega),bs])
  (fun k=>by
   show bE N (k+1) xs (xs.length:Int) xs (xs.length:Int) (xs.length:Int)=_
   rw [bE,dge (by omega),cond_false])
 unfold bY vF
 rw [h,bs]
 cases xs.all fun v=>inR v 0 9 <;> rfl
theorem gh {xs:List Int} (hx:xs.length≤1048576):∃ b,vF xs=some b∧(b=true→xs.length≤60∧∀ v∈xs,0≤v∧v≤9):=by
 unfold vF
 cases ha:xs.all fun v=>inR v 0 9 with
 | false=>exact ⟨false,rfl,fun h=>by cases h⟩
 | true =>
  rw [cond_true]
  have hd:∀ v∈xs,0≤v∧v≤9:=fun v hv=>cp.1 ((List.all_eq_true.1 ha) v hv)
  by_cases h60:(xs.length:Int)≤60
  ·rw [decide_eq_true h60,cond_true]
   by_cases h0:xs.length=0
   ·rw [show ((xs.length:Int) == 0)=true by simp [h0],cond_true]
    exact ⟨true,rfl,fun _=>⟨by omega,hd⟩⟩
   ·rw [show ((xs.length:Int) == 0)=false by simp;simpa using h0,cond_false,dk (by omega) (by omega),bs,show (xs.length:Int)-1=((xs.length-1:Nat):Int) by omega,aH (by omega),bs]
    exact ⟨_,rfl,fun _=>⟨by omega,hd⟩⟩
  ·rw [decide_eq_false h60,cond_false]
   exact ⟨false,rfl,fun h=>by cases h⟩
theorem o2 (N:Nat):∀ (k:Nat) (a b c:List Int) (d i:Int),cC N k a b c d i=aN N k a b c d i:=by
 intro k
 induction k with
 | zero=>intro a b c d i;rw [cC,aN]
 | succ k ih=>intro a b c d i;rw [cC,aN];simp only [ih]
theorem oX {a b:List Int}:∀ (m k:Nat) (c:Int) (out:List Int) (i:Nat),a.length≤i→0≤c→c≤1000000000→c<10 ^ m→m<k→out.length+m≤1048576→i+m≤1048576→∃ o y z,aN N k a b out c (i:Int)=some (o,y,z)∧o.length≤out.length+m:=by
 intro m
 induction m with
 | zero =>
  intro k c out i hi h0 hm h1 hk hb hi2
  obtain ⟨k,rfl⟩:∃ k',k=k'+1:=⟨k-1,by omega⟩
  rw [aN,dge (by omega),cond_false,decide_eq_false (by simp at h1;omega),cond_false]
  exact ⟨out,c,_,rfl,by omega⟩
 | succ m ih =>
  intro k c out i hi h0 hm h1 hk hb hi2
  obtain ⟨k,rfl⟩:∃ k',k=k'+1:=⟨k-1,by omega⟩
  rw [aN,dge (by omega),cond_false]
  by_cases hx:0<c
  ·have hd:c / 10<10 ^ m:=by rw [Int.pow_succ] at h1;omega
   rw [decide_eq_true hx,cond_true,jA,bs,de (by decide) (by simp;omega),bs,jw h0 (by omega),bs,ad1 (by omega),bs]
   obtain ⟨o,y,z,e,hl⟩:=ih k (c / 10) (out++[c.tmod 10]) (i+1) (by omega) (by omega) (by omega) hd (by omega) (by rw [List.length_append,List.length_singleton];omega) (by omega)
   rw [List.length_append,List.length_singleton] at hl
   exact ⟨o,y,z,e,by omega⟩
  ·rw [decide_eq_false hx,cond_false]
   exact ⟨out,c,_,rfl,by omega⟩
theorem oT {a b:List Int} (ha:a.length≤1000) (hv:∀ v∈a,0≤v∧v≤1000000):∀ (m k:Nat) (c:Int) (out:List Int) (i:Nat),i+m=a.length→0≤c→c≤1000000→m+20<k→out.length≤i→∃ o y z,aN N k a b out c (i:Int)=some (o,y,z)∧o.length≤2000:=by
 intro m
 induction m with
 | zero =>
  intro k c out i hi h0 h1 hk hb
  have hp:(10:Int) ^ 7=10000000:=by decide
  obtain ⟨o,y,z,e,hl⟩:=oX (N:=N) (a:=a) (b:=b) 7 k c out i (by omega) h0 (by omega) (by rw [hp];omega) (by omega) (by omega) (by omega)
  exact ⟨o,y,z,e,by omega⟩
 | succ m ih =>
  intro k c out i hi h0 h1 hk hb
  obtain ⟨k,rfl⟩:∃ k',k=k'+1:=⟨k-1,by omega⟩
  have h:i<a.length:=by omega
  have hx:=hv _ (List.getElem_mem h)
  rw [aN,dlt h,cond_true,aH h,bs,dP (by omega) (by omega),bs,jA,bs,de (by decide) (by simp;omega),bs,jw (by omega) (by omega),bs,ad1 (by omega),bs]
  exact ih k _ _ (i+1) (by omega) (by omega) (by omega) (by omega) (by rw [List.length_append,List.length_singleton];omega)
def bU (xs:List Int):Nat→Nat
 | 0=>0
 | m+1=>if xs.getD m 0=0 then bU xs m else m+1
theorem ib (xs:List Int):∀ m,bU xs m≤m
 | 0=>Nat.le_refl _
 | m+1=>by
  have:=ib xs m
  unfold bU;split <;> omega
theorem ma {b xs:List Int} (hx:xs.length≤1048576):∀ m k,m≤xs.length→m<k→dz N k b xs (m:Int)=some ((bU xs m:Nat):Int):=by
 intro m
 induction m with
 | zero =>
  intro k hm hk
  obtain ⟨k,rfl⟩:∃ k',k=k'+1:=⟨k-1,by omega⟩
  rw [dz,decide_eq_false (by omega),cond_false];rfl
 | succ m ih =>
  intro k hm hk
  obtain ⟨k,rfl⟩:∃ k',k=k'+1:=⟨k-1,by omega⟩
  have h:m<xs.length:=by omega
  rw [dz,decide_eq_true (by omega),cond_true,dk (by omega) (by omega),bs,show ((m+1:Nat):Int)-1=(m:Int) by omega,aH h,bs,bU,fB h]
  by_cases e:xs[m]=0
  ·rw [show (xs[m] == 0)=true by simpa using e,cond_true,if_pos e,bs,ih k (by omega) (by omega)]
  ·rw [show (xs[m] == 0)=false by simpa using e,cond_false,if_neg e]
theorem om {b xs:List Int} (hx:xs.length≤1048576):∀ m k,m≤xs.length→m<k→du N k b (xs.take m)=some (xs.take (bU xs m)):=by
 intro m
 induction m with
 | zero =>
  intro k hm hk
  obtain ⟨k,rfl⟩:∃ k',k=k'+1:=⟨k-1,by omega⟩
  rw [du,decide_eq_false (by simp),cond_false];rfl
 | succ m ih =>
  intro k hm hk
  obtain ⟨k,rfl⟩:∃ k',k=k'+1:=⟨k-1,by omega⟩
  have h:m<xs.length:=by omega
  have hl:(xs.take (m+1)).length=m+1:=by rw [List.length_take];omega
  have hg:(xs.take (m+1))[m]'(by omega)=xs[m]:=List.getElem_take
  rw [du,hl,decide_eq_true (by omega),cond_true,dk (by omega) (by omega),bs,show ((m+1:Nat):Int)-1=(m:Int) by omega,aH (by omega),bs,bU,fB h,hg]
  by_cases e:xs[m]=0
  ·rw [show (xs[m] == 0)=true by simpa using e,cond_true,if_pos e,bs,show (0:Int)=((0:Nat):Int) from rfl,hZ (Nat.zero_le _) (by omega),bs,List.drop_zero,List.take_take,Nat.min_eq_left (by omega),ih k (by omega) (by omega)]
  ·rw [show (xs[m] == 0)=false by simpa using e,cond_false,if_neg e]
theorem lk (hN:1073741824≤N) {a:List Int} (ha:a.length≤1000) (hv:∀ v∈a,0≤v∧v≤1000000):∃ r:List Int × Bool,dM N a=some r∧cF N a=some r∧r.1.length≤60:=by
 obtain ⟨o,y,z,e,hl⟩:=oT (N:=N) (b:=[]) ha hv a.length N 0 [] 0 (by omega) (by omega) (by omega) (by omega) (by simp)
 have e':aN N N a [] [] 0 0=_:=e
 have es:cC N N a [] [] 0 0=_:=(o2 N N a [] [] 0 0).trans e'
 have s1:=ma (N:=N) (b:=[]) (xs:=o) (by omega) o.length N (Nat.le_refl _) (by omega)
 have s2:=om (N:=N) (b:=[]) (xs:=o) (by omega) o.length N (Nat.le_refl _) (by omega)
 rw [List.take_length] at s2
 have hle:=ib o o.length
 have hlen:(o.take (bU o o.length)).length=bU o o.length:=by rw [List.length_take];omega
 have hS:dM N a=bif decide (60<((bU o o.length:Nat):Int)) then some ([],false) else some (o.take (bU o o.length),true):=by
  unfold dM
  rw [es,bs,lpB]
  simp only []
  rw [s2,bs,lpB,hlen]
 have hI:cF N a=bif decide (60<((bU o o.length:Nat):Int)) then some ([],false) else some (o.take (bU o o.length),true):=by
  unfold cF
  rw [e',bs,lpB]
  simp only []
  rw [s1,bs,lpB,show (0:Int)=((0:Nat):Int) from rfl,hZ (Nat.zero_le _) (by omega),bs,List.drop_zero]
 rw [hS,hI]
 by_cases h:60<((bU o o.length:Nat):Int)
 ·rw [decide_eq_true h,cond_true];exact ⟨_,rfl,rfl,Nat.zero_le _⟩
 ·rw [decide_eq_false h,cond_false];exact ⟨_,rfl,rfl,by show (o.take (bU o o.length)).length≤60;omega⟩
theorem adN {i j:Nat} (h:i+j≤1000000):ad (i:Int) (j:Int)=some ((i+j:Nat):Int):=by rw [dP (by omega) (by omega)];congr 1
theorem kN {x y:Int} (hx:0≤x∧x≤9) (hy:0≤y∧y≤9):0≤x*y∧x*y≤81:=⟨Int.mul_nonneg hx.1 hy.1,Int.mul_le_mul hx.2 hy.2 hy.1 (by omega)⟩
theorem oh (hN:1073741824≤N) {a b:List Int} (ha:a.length≤60) (hb:b.length≤60) (da:∀ v∈a,0≤v∧v≤9) (db:∀ v∈b,0≤v∧v≤9) {i:Nat} (hi:i<a.length) {C:Int} (hC:C≤500000) {l:List Int} (hl:l.length=a.length+b.length) (hv:∀ v∈l,0≤v∧v≤C) :
  ∃ v:List Int × Int,bQ N N a b [] l (i:Int) 0=some v∧a9 N N b [] l (i:Int) a[i] a (a.length:Int) (i:Int) b (b.length:Int) 0=some v∧(v.1.length=a.length+b.length∧∀ x∈v.1,0≤x∧x≤C+4860):=by
 have hai:=da _ (List.getElem_mem hi)
 exact j7 (fun k (s:List Int) j=>bQ N k a b [] s (i:Int) j) (fun k (s:List Int) j=>a9 N k b [] s (i:Int) a[i] a (a.length:Int) (i:Int) b (b.length:Int) j) b.length
  (fun j s=>s.length=a.length+b.length∧∀ x∈s,0≤x∧x≤C+81*(j:Int)) (fun v=>v.1.length=a.length+b.length∧∀ x∈v.1,0≤x∧x≤C+4860)
  (fun k j s hj hI=>by
   obtain ⟨h1,h2⟩:=hI
   have hbj:=db _ (List.getElem_mem hj)
   obtain ⟨m1,m2⟩:=kN hai hbj
   have hij:i+j<s.length:=by omega
   have hs:=h2 _ (List.getElem_mem hij)
   refine .inl ⟨s.set (i+j) (s[i+j]+a[i]*b[j]),?_,?_,by simpa using h1,fun x hx=>?_⟩
   ·show bQ N (k+1) a b [] s (i:Int) (j:Int)=_
    rw [bQ,dlt hj,cond_true,adN (by omega),bs,bs,aH hij,bs,aH hi,bs,aH hj,bs,d7 (by omega) (by omega),bs,dP (by omega) (by omega),bs,bs,fC hij,bs,ad1 (by omega),bs]
   ·show a9 N (k+1) b [] s (i:Int) a[i] a (a.length:Int) (i:Int) b (b.length:Int) (j:Int)=_
    rw [a9,dlt hj,cond_true,aH hj,bs,adN (by omega),bs,aH hij,bs,d7 (by omega) (by omega),bs,dP (by omega) (by omega),bs,bs,fC hij,bs,ad1 (by omega),bs]
   ·rcases List.mem_or_eq_of_mem_set hx with hx | rfl
    ·have:=h2 x hx;omega
    ·omega)
  (fun k s hI=>by
   obtain ⟨h1,h2⟩:=hI
   refine ⟨(s,(b.length:Int)),?_,?_,h1,fun x hx=>by have:=h2 x hx;omega⟩
   ·show bQ N (k+1) a b [] s (i:Int) (b.length:Int)=_
    rw [bQ,dge (by omega),cond_false]
   ·show a9 N (k+1) b [] s (i:Int) a[i] a (a.length:Int) (i:Int) b (b.length:Int) (b.length:Int)=_
    rw [a9,dge (by omega),cond_false]) N 0 l (by omega) (by omega) ⟨hl,fun x hx=>by have:=hv x hx;omega⟩
theorem ny (hN:1073741824≤N) {a b:List Int} (ha:a.length≤60) (hb:b.length≤60) (da:∀ v∈a,0≤v∧v≤9) (db:∀ v∈b,0≤v∧v≤9) {l:List Int} (hl:l.length=a.length+b.length) (hv:∀ v∈l,0≤v∧v≤0) :
  ∃ v:List Int × Int,bO N N a b [] l 0=some v∧ba N N b [] l a (a.length:Int) 0=some v∧(v.1.length=a.length+b.length∧∀ x∈v.1,0≤x∧x≤500000) :=
 j7 (fun k (s:List Int) i=>bO N k a b [] s i) (fun k (s:List Int) i=>ba N k b [] s a (a.length:Int) i) a.length
  (fun i s=>s.length=a.length+b.length∧∀ x∈s,0≤x∧x≤4860*(i:Int)) (fun v=>v.1.length=a.length+b.length∧∀ x∈v.1,0≤x∧x≤500000)
  (fun k i s hi hI=>by
   obtain ⟨h1,h2⟩:=hI
   obtain ⟨⟨v,z⟩,e1,e2,h3,h4⟩:=oh (N:=N) hN ha hb da db hi (C:=4860*(i:Int)) (by omega) h1 h2
   refine .inl ⟨v,?_,?_,h3,fun x hx=>by have:=h4 x hx;omega⟩
   ·show bO N (k+1) a b [] s (i:Int)=_
    rw [bO,dlt hi,cond_true,e1,bs,lpB,ad1 (by omega)];rfl
   ·show ba N (k+1) b [] s a (a.length:Int) (i:Int)=_
    rw [ba,dlt hi,cond_true,aH hi,bs,e2,bs,lpB,ad1 (by omega)];rfl)
  (fun k s hI=>by
   obtain ⟨h1,h2⟩:=hI
   refine ⟨(s,(a.length:Int)),?_,?_,h1,fun x hx=>by have:=h2 x hx;omega⟩
   ·show bO N (k+1) a b [] s (a.length:Int)=_
    rw [bO,dge (by omega),cond_false]
   ·show ba N (k+1) b [] s a (a.length:Int) (a.length:Int)=_
    rw [ba,dge (by omega),cond_false]) N 0 l (by omega) (by omega) ⟨hl,fun x hx=>by have:=hv x hx;omega⟩
theorem g8 (hN:1073741824≤N) {a b:List Int} (ha:a.length≤1048576) (hb:b.length≤1048576):∃ r:List Int × Bool,c8 N a b=some r∧bV N a b=some r∧r.1.length≤60:=by
 unfold c8 bV
 rw [jf hN ha,fo hN ha,jf hN hb,fo hN hb]
 obtain ⟨x,ex,hx⟩:=gh ha
 obtain ⟨y,ey,hy⟩:=gh hb
 rw [ex,ey]
 cases x with
 | false=>exact ⟨([],false),rfl,rfl,Nat.zero_le _⟩
 | true =>
  cases y with
  | false=>exact ⟨([],false),rfl,rfl,Nat.zero_le _⟩
  | true =>
   obtain ⟨a1,a2⟩:=hx rfl
   obtain ⟨b1,b2⟩:=hy rfl
   obtain ⟨⟨v,z⟩,e1,e2,h3,h4⟩:=ny (N:=N) hN a1 b1 a2 b2 (l:=List.replicate (a.length+b.length) 0) (by simp) (fun v hv=>by rw [List.eq_of_mem_replicate hv];omega)
   obtain ⟨r,f1,f2,f3⟩:=lk (N:=N) hN (a:=v) (by have h3':v.length=_:=h3;omega) (fun z hz=>by have:=h4 z hz;omega)
   refine ⟨r,?_,?_,f3⟩
   ·show (ad (a.length:Int) (b.length:Int)).bind _=_
    rw [adN (by omega),bs,j0 (by decide) (by omega),bs,e1,bs,lpB]
    show (dM N v).bind _=_
    rw [f1,bs]
   ·show (ad (a.length:Int) (b.length:Int)).bind _=_
    rw [adN (by omega),bs,j0 (by decide) (by omega),bs,e2,bs,lpB]
    show (cF N v).bind _=_
    rw [f2,bs]
end
end Go.Proofs.Ytdapplkijobjoaa
