/- A small separation logic over the model: how lists, rows and structs of Go read in memory ('Rep'), what a call owns ('Sat'), and the laws of the walk for them. Program-independent. -/
import Derived.WalkKit
import Derived.ProofKit
import Derived.WalkLawsBesides
import Derived.Outline
import Derived.Lib.Hide
import Derived.Deep.Quiet
import Derived.Deep.LoopGhost
import Derived.IntWalk
import Derived.Test.YtnipkopfefkojaaRows
import Derived.OpenShut
import Derived.Lib.SmallJoins
import Derived.Laws.BytesString
namespace Go.Proofs.Ytnipkopfefkojaa
open Go.RowKit

abbrev Ext (w w':World):Prop:=Below w.heap.size w w'

theorem Ext.refl (w:World):Ext w w:=Below.refl _ _
theorem Ext.trans {a b c:World} (h:Ext a b) (k:Ext b c):Ext a c:=Below.trans h (k.mono h.size)
theorem Below.andExt {B:Nat} {a b c:World} (h:Below B a b) (hB:B≤b.heap.size) (k:Ext b c):Below B a c:=Below.trans h (k.mono hB)

structure Chg (fp:List Nat) (w w':World):Prop where
 os:w'.os=w.os
 tape:w'.tape=w.tape
 output:w'.output=w.output
 size:w.heap.size≤w'.heap.size
 block:∀ k,k<w.heap.size→k∉fp→w'.heap[k]? = w.heap[k]?

theorem Chg.of_ext {w w':World} (h:Ext w w') (fp:List Nat):Chg fp w w':=⟨h.os,h.tape,h.output,h.size,fun k hk _=>h.block k hk⟩
theorem Chg.trans {fp:List Nat} {a b c:World} (h:Chg fp a b) (k:Chg fp b c):Chg fp a c :=
 ⟨k.os.trans h.os,k.tape.trans h.tape,k.output.trans h.output,Nat.le_trans h.size k.size,fun i hi hn=>(k.block i (Nat.lt_of_lt_of_le hi h.size) hn).trans (h.block i hi hn)⟩
theorem Chg.mono {fp fp':List Nat} {a b:World} (h:Chg fp a b) (hs:∀ x∈fp,x∈fp'):Chg fp' a b :=
 ⟨h.os,h.tape,h.output,h.size,fun k hk hn=>h.block k hk (fun hm=>hn (hs k hm))⟩
theorem Chg.ext {a b:World} (h:Chg [] a b):Ext a b:=⟨h.os,h.tape,h.output,h.size,fun k hk=>h.block k hk (by simp)⟩
theorem Chg.refl (fp:List Nat) (w:World):Chg fp w w:=⟨rfl,rfl,rfl,Nat.le_refl _,fun _ _ _=>rfl⟩
theorem Chg.alloc (w:World) (o:Obj):Chg [] w (w.alloc o):=Chg.of_ext ((Below.refl _ _).alloc (Nat.le_refl _) o) _

theorem vm {B:Nat} {a b c:World} {fp:List Nat} (h:Below B a b) (hB:B≤b.heap.size) (k:Chg fp b c) (hf:∀ x∈fp,B≤x):Below B a c :=
  ⟨k.os.trans h.os,k.tape.trans h.tape,k.output.trans h.output,Nat.le_trans h.size k.size,
   fun i hi=>(k.block i (Nat.lt_of_lt_of_le hi hB) (fun hm=>by have:=hf i hm;omega)).trans (h.block i hi)⟩

structure Rep (α:Type) where
 sz:Nat
 rd:World→List Value→α→Prop
 own:World→List Value→α→List Nat→Prop
 rd_len:∀ {w cs x},rd w cs x→cs.length=sz
 rd_one:∀ {w cs x},rd w cs x→∀ c∈cs,c.oneCell'=true
 rd_ext:∀ {w w' cs x},rd w cs x→Ext w w'→rd w' cs x
 own_rd:∀ {w cs x fp},own w cs x fp→rd w cs x
 own_ext:∀ {w w' cs x fp},own w cs x fp→(∀ b∈fp,w'.heap[b]? = w.heap[b]?)→own w' cs x fp
 own_lt:∀ {w cs x fp},own w cs x fp→∀ b∈fp,b<w.heap.size

def cp:Rep Int where
 sz:=1
 rd _ cs n:=cs=[.int .i64 n]
 own _ cs n fp:=cs=[.int .i64 n]∧fp=[]
 rd_len h:=by subst h;rfl
 rd_one h:=by subst h;simp [Value.oneCell']
 rd_ext h _:=h
 own_rd h:=h.1
 own_ext h _:=h
 own_lt h:=by rw [h.2];simp

def hX:Rep ByteArray where
 sz:=1
 rd _ cs s:=cs=[.string s]∧s.size≤9223372036854775807
 own _ cs s fp:=(cs=[.string s]∧s.size≤9223372036854775807)∧fp=[]
 rd_len h:=by rw [h.1];rfl
 rd_one h:=by rw [h.1];simp [Value.oneCell']
 rd_ext h _:=h
 own_rd h:=h.1
 own_ext h _:=h
 own_lt h:=by rw [h.2];simp

def mB {α β:Type} (R:Rep α) (S:Rep β):Rep (α × β) where
 sz:=R.sz+S.sz
 rd w cs x:=∃ c1 c2,cs=c1++c2∧R.rd w c1 x.1∧S.rd w c2 x.2
 own w cs x fp:=∃ c1 c2 f1 f2,cs=c1++c2∧fp=f1++f2∧R.own w c1 x.1 f1∧S.own w c2 x.2 f2
 rd_len h:=by obtain ⟨c1,c2,rfl,h1,h2⟩:=h;rw [List.length_append,R.rd_len h1,S.rd_len h2]
 rd_one h:=by
  obtain ⟨c1,c2,rfl,h1,h2⟩:=h
  intro c hc
  rcases List.mem_append.1 hc with h | h
  ·exact R.rd_one h1 c h
  ·exact S.rd_one h2 c h
 rd_ext h he:=by obtain ⟨c1,c2,rfl,h1,h2⟩:=h;exact ⟨c1,c2,rfl,R.rd_ext h1 he,S.rd_ext h2 he⟩
 own_rd h:=by obtain ⟨c1,c2,f1,f2,rfl,rfl,h1,h2⟩:=h;exact ⟨c1,c2,rfl,R.own_rd h1,S.own_rd h2⟩
 own_ext h he:=by
  obtain ⟨c1,c2,f1,f2,rfl,rfl,h1,h2⟩:=h
  exact ⟨c1,c2,f1,f2,rfl,rfl,R.own_ext h1 (fun b hb=>he b (List.mem_append_left _ hb)),S.own_ext h2 (fun b hb=>he b (List.mem_append_right _ hb))⟩
 own_lt h:=by
  obtain ⟨c1,c2,f1,f2,rfl,rfl,h1,h2⟩:=h
  intro b hb
  rcases List.mem_append.1 hb with h | h
  ·exact R.own_lt h1 b h
  ·exact S.own_lt h2 b h

def mN (w:World) (ao:Option Addr) (ccs:List Value):Prop :=
 ccs=[]∨∃ b off,ao=some ⟨b,off,none⟩∧∀ j c,ccs[j]? = some c→w.cell? ⟨b,off+j,none⟩=some c

section
variable {α:Type} (R:Rep α)
def rdL (w:World):List Value→List α→Prop
 | ccs,[]=>ccs=[]
 | ccs,x :: xs=>∃ ec rest,ccs=ec++rest∧R.rd w ec x∧rdL w rest xs
def dq (w:World):List Value→List α→List Nat→Prop
 | ccs,[],fp=>ccs=[]∧fp=[]
 | ccs,x :: xs,fp=>∃ ec rest f1 f2,ccs=ec++rest∧fp=f1++f2∧R.own w ec x f1∧dq w rest xs f2
variable {R}
theorem fj {w:World}:∀ {xs:List α} {ccs:List Value},rdL R w ccs xs→ccs.length=xs.length*R.sz
 | [],_,h=>by simp only [rdL] at h;subst h;simp
 | x :: xs,_,h=>by
  obtain ⟨ec,rest,rfl,h1,h2⟩:=h
  rw [List.length_append,R.rd_len h1,fj h2,List.length_cons,Nat.add_mul,Nat.one_mul,Nat.add_comm]
theorem sH {w:World}:∀ {xs:List α} {ccs:List Value},rdL R w ccs xs→∀ c∈ccs,c.oneCell'=true
 | [],_,h=>by simp only [rdL] at h;subst h;simp
 | x :: xs,_,h=>by
  obtain ⟨ec,rest,rfl,h1,h2⟩:=h
  intro c hc
  rcases List.mem_append.1 hc with h | h
  ·exact R.rd_one h1 c h
  ·exact sH h2 c h
theorem sx {w w':World} (he:Ext w w'):∀ {xs:List α} {ccs:List Value},rdL R w ccs xs→rdL R w' ccs xs
 | [],_,h=>h
 | x :: xs,_,h=>by
  obtain ⟨ec,rest,rfl,h1,h2⟩:=h
  exact ⟨ec,rest,rfl,R.rd_ext h1 he,sx he h2⟩
theorem ek {w:World}:∀ {xs:List α} {ccs:List Value} {fp:List Nat},dq R w ccs xs fp→rdL R w ccs xs
 | [],_,_,h=>h.1
 | x :: xs,_,_,h=>by
  obtain ⟨ec,rest,f1,f2,rfl,rfl,h1,h2⟩:=h
  exact ⟨ec,rest,rfl,R.own_rd h1,ek h2⟩
theorem ew {w w':World}:∀ {xs:List α} {ccs:List Value} {fp:List Nat},dq R w ccs xs fp→(∀ b∈fp,w'.heap[b]? = w.heap[b]?)→dq R w' ccs xs fp
 | [],_,_,h,_=>h
 | x :: xs,_,_,h,he=>by
  obtain ⟨ec,rest,f1,f2,rfl,rfl,h1,h2⟩:=h
  exact ⟨ec,rest,f1,f2,rfl,rfl,R.own_ext h1 (fun b hb=>he b (List.mem_append_left _ hb)),ew h2 (fun b hb=>he b (List.mem_append_right _ hb))⟩
theorem eW {w:World}:∀ {xs:List α} {ccs:List Value} {fp:List Nat},dq R w ccs xs fp→∀ b∈fp,b<w.heap.size
 | [],_,_,h=>by rw [h.2];simp
 | x :: xs,_,_,h=>by
  obtain ⟨ec,rest,f1,f2,rfl,rfl,h1,h2⟩:=h
  intro b hb
  rcases List.mem_append.1 hb with h | h
  ·exact R.own_lt h1 b h
  ·exact eW h2 b h
theorem lD {w:World} {ys:List α} {ccs':List Value} {fp':List Nat} (h':dq R w ccs' ys fp') :
  ∀ {xs:List α} {ccs:List Value} {fp:List Nat},dq R w ccs xs fp→dq R w (ccs++ccs') (xs++ys) (fp++fp')
 | [],_,_,h=>by obtain ⟨rfl,rfl⟩:=h;simpa using h'
 | x :: xs,_,_,h=>by
  obtain ⟨ec,rest,f1,f2,rfl,rfl,h1,h2⟩:=h
  exact ⟨ec,rest++ccs',f1,f2++fp',by simp,by simp,h1,lD h' h2⟩
theorem oX {w:World} {ys:List α} {ccs':List Value} (h':rdL R w ccs' ys) :
  ∀ {xs:List α} {ccs:List Value},rdL R w ccs xs→rdL R w (ccs++ccs') (xs++ys)
 | [],_,h=>by simp only [rdL] at h;subst h;simpa using h'
 | x :: xs,_,h=>by
  obtain ⟨ec,rest,rfl,h1,h2⟩:=h
  exact ⟨ec,rest++ccs',by simp,h1,oX h' h2⟩
theorem kW {w:World}:∀ {xs:List α} {ccs:List Value},rdL R w ccs xs→∀ (i:Nat) (h:i<xs.length),
  ∃ ec,R.rd w ec xs[i]∧∀ j c,ec[j]? = some c→ccs[i*R.sz+j]? = some c
 | [],_,_,i,h=>absurd h (by simp)
 | x :: xs,_,hr,i,h=>by
  obtain ⟨ec,rest,rfl,h1,h2⟩:=hr
  cases i with
  | zero =>
   refine ⟨ec,h1,fun j c hj=>?_⟩
   have hlt:j<ec.length:=(List.getElem?_eq_some_iff.1 hj).1
   rw [Nat.zero_mul,Nat.zero_add,List.getElem?_append_left hlt]
   exact hj
  | succ i =>
   obtain ⟨ec',h3,h4⟩:=kW h2 i (by simpa using h)
   refine ⟨ec',by simpa using h3,fun j c hj=>?_⟩
   have e:(i+1)*R.sz+j=ec.length+(i*R.sz+j):=by rw [R.rd_len h1,Nat.add_mul];omega
   rw [e,List.getElem?_append_right (by omega),Nat.add_sub_cancel_left]
   exact h4 j c hj
theorem kw {w:World}:∀ (k:Nat) {xs:List α} {ccs:List Value},rdL R w ccs xs→rdL R w (ccs.take (k*R.sz)) (xs.take k)∧rdL R w (ccs.drop (k*R.sz)) (xs.drop k)
 | 0,xs,ccs,h=>by simp [rdL];simpa using h
 | k+1,[],ccs,h=>by simp only [rdL] at h;subst h;simp [rdL]
 | k+1,x :: xs,ccs,h=>by
  obtain ⟨ec,rest,rfl,h1,h2⟩:=h
  obtain ⟨i1,i2⟩:=kw k h2
  have e:(k+1)*R.sz=ec.length+k*R.sz:=by rw [R.rd_len h1,Nat.add_mul];omega
  constructor
  ·refine ⟨ec,rest.take (k*R.sz),?_,h1,i1⟩
   rw [e,List.take_append,List.take_of_length_le (by omega),Nat.add_sub_cancel_left]
  ·rw [e,List.drop_append,List.drop_of_length_le (by omega),Nat.add_sub_cancel_left]
   simpa using i2
end

def aA {α:Type} (R:Rep α) (E:TypeId):Rep (List α) where
 sz:=1
 rd w cs xs:=∃ ao cap ccs,cs=[.slice ao xs.length cap]∧xs.length≤cap∧cap≤maxLen∧(ao=none→cap=0)∧rdL R w ccs xs∧mN w ao ccs
 own w cs xs fp:=(cs=[.slice none 0 0]∧xs=[]∧fp=[]) ∨
  ∃ g cap cur ccs f2,cs=[.slice (some ⟨g,0,none⟩) xs.length cap]∧w.heap[g]? = some (.cells cur E (0,0))∧xs.length≤cap∧cap≤maxLen∧cur.size=cap*R.sz ∧
   cur.toList.take (xs.length*R.sz)=ccs∧dq R w ccs xs f2∧fp=g :: f2
 rd_len h:=by obtain ⟨_,_,_,rfl,_⟩:=h;rfl
 rd_one h:=by obtain ⟨_,_,_,rfl,_⟩:=h;simp [Value.oneCell']
 rd_ext h he:=by
  obtain ⟨ao,cap,ccs,rfl,h1,h2,h3,h4,h5⟩:=h
  refine ⟨ao,cap,ccs,rfl,h1,h2,h3,sx he h4,?_⟩
  rcases h5 with h5 | ⟨b,off,rfl,h5⟩
  ·exact .inl h5
  ·exact .inr ⟨b,off,rfl,fun j c hj=>by have:=h5 j c hj;rw [he.cell (block_lt_of_cell this)];exact this⟩
 own_rd h:=by
  rcases h with ⟨rfl,rfl,rfl⟩ | ⟨g,cap,cur,ccs,f2,rfl,hg,h1,h2,h3,h4,h5,rfl⟩
  ·exact ⟨none,0,[],rfl,Nat.le_refl _,Nat.zero_le _,fun _=>rfl,rfl,.inl rfl⟩
  ·refine ⟨_,cap,ccs,rfl,h1,h2,by simp,ek h5,.inr ⟨g,0,rfl,fun j c hj=>?_⟩⟩
   rw [Nat.zero_add,cell_of_row _ g j cur E (0,0) hg,← Array.getElem?_toList]
   rw [← h4,List.getElem?_take] at hj
   split at hj
   ·exact hj
   ·cases hj
 own_ext h he:=by
  rcases h with h | ⟨g,cap,cur,ccs,f2,rfl,hg,h1,h2,h3,h4,h5,rfl⟩
  ·exact .inl h
  ·exact .inr ⟨g,cap,cur,ccs,f2,rfl,by rw [he g (by simp)];exact hg,h1,h2,h3,h4,ew h5 (fun b hb=>he b (by simp [hb])),rfl⟩
 own_lt h:=by
  rcases h with ⟨_,_,rfl⟩ | ⟨g,cap,cur,ccs,f2,rfl,hg,h1,h2,h3,h4,h5,rfl⟩
  ·simp
  ·intro b hb
   rcases List.mem_cons.1 hb with rfl | hb
   ·exact (Array.getElem?_eq_some_iff.1 hg).1
   ·exact eW h5 b hb

structure Asn where
 holds:World→List Nat→Prop
 ext:∀ {w w' fp},holds w fp→(∀ b∈fp,w'.heap[b]? = w.heap[b]?)→holds w' fp
 lt:∀ {w fp},holds w fp→∀ b∈fp,b<w.heap.size

def Own {α:Type} (R:Rep α) (cs:List Value) (x:α):Asn:=⟨fun w fp=>R.own w cs x fp,R.own_ext,R.own_lt⟩
def Box (b:Nat) (E:TypeId) (cs:List Value):Asn where
 holds w fp:=fp=[b]∧w.heap[b]? = some (.cells cs.toArray E (0,0))
 ext h he:=by obtain ⟨rfl,h⟩:=h;exact ⟨rfl,by rw [he b (by simp)];exact h⟩
 lt h:=by obtain ⟨rfl,h⟩:=h;intro b' hb;simp at hb;subst hb;exact (Array.getElem?_eq_some_iff.1 h).1

def gt (w:World):List Asn→List Nat→Prop
 | [],fp=>fp=[]
 | A :: Γ,fp=>∃ f1 f2,fp=f1++f2∧A.holds w f1∧gt w Γ f2

structure Sat (w0 w:World) (Γ:List Asn):Prop where
 below:Below w0.heap.size w0 w
 sat:∃ fp,gt w Γ fp∧fp.Nodup∧∀ b∈fp,w0.heap.size≤b

theorem gt.ext {w w':World}:∀ {Γ:List Asn} {fp:List Nat},gt w Γ fp→(∀ b∈fp,w'.heap[b]? = w.heap[b]?)→gt w' Γ fp
 | [],_,h,_=>h
 | A :: Γ,_,h,he=>by
  obtain ⟨f1,f2,rfl,h1,h2⟩:=h
  exact ⟨f1,f2,rfl,A.ext h1 (fun b hb=>he b (List.mem_append_left _ hb)),gt.ext h2 (fun b hb=>he b (List.mem_append_right _ hb))⟩
theorem gt.lt {w:World}:∀ {Γ:List Asn} {fp:List Nat},gt w Γ fp→∀ b∈fp,b<w.heap.size
 | [],_,h=>by simp only [gt] at h;subst h;simp
 | A :: Γ,_,h=>by
  obtain ⟨f1,f2,rfl,h1,h2⟩:=h
  intro b hb
  rcases List.mem_append.1 hb with h | h
  ·exact A.lt h1 b h
  ·exact gt.lt h2 b h
theorem gt.append {w:World} {Δ:List Asn} {g:List Nat} (k:gt w Δ g):∀ {Γ:List Asn} {fp:List Nat},gt w Γ fp→gt w (Γ++Δ) (fp++g)
 | [],_,h=>by simp only [gt] at h;subst h;simpa using k
 | A :: Γ,_,h=>by
  obtain ⟨f1,f2,rfl,h1,h2⟩:=h
  exact ⟨f1,f2++g,by simp,h1,gt.append k h2⟩
theorem gt.perm {w:World} {Γ Δ:List Asn} (hp:Γ.Perm Δ):∀ {fp:List Nat},gt w Γ fp→∃ fp',fp.Perm fp'∧gt w Δ fp':=by
 induction hp with
 | nil=>intro fp h;exact ⟨fp,.refl _,h⟩
 | cons A _ ih =>
  rintro _ ⟨f1,f2,rfl,h1,h2⟩
  obtain ⟨f2',p,h2'⟩:=ih h2
  exact ⟨f1++f2',List.Perm.append_left _ p,f1,f2',rfl,h1,h2'⟩
 | swap A B Γ =>
  rintro _ ⟨f1,_,rfl,h1,f2,f3,rfl,h2,h3⟩
  refine ⟨f2++(f1++f3),?_,f2,f1++f3,rfl,h2,f1,f3,rfl,h1,h3⟩
  rw [← List.append_assoc,← List.append_assoc]
  exact List.Perm.append_right _ List.perm_append_comm
 | trans _ _ ih1 ih2 =>
  intro fp h
  obtain ⟨f1,p1,h1⟩:=ih1 h
  obtain ⟨f2,p2,h2⟩:=ih2 h1
  exact ⟨f2,p1.trans p2,h2⟩

theorem Sat.start (w:World):Sat w w []:=⟨Below.refl _ _,[],rfl,by simp,by simp⟩
theorem Sat.le {w0 w:World} {Γ:List Asn} (h:Sat w0 w Γ):w0.heap.size≤w.heap.size:=h.below.size
theorem Sat.ext {w0 w w':World} {Γ:List Asn} (h:Sat w0 w Γ) (he:Ext w w'):Sat w0 w' Γ:=by
 obtain ⟨hb,fp,h1,h2,h3⟩:=h
 exact ⟨Below.andExt hb hb.size he,fp,h1.ext (fun b hb'=>he.block b (h1.lt b hb')),h2,h3⟩
theorem Sat.call {w0 w w':World} {Γ Δ:List Asn} (h:Sat w0 w Γ) (k:Sat w w' Δ):Sat w0 w' (Δ++Γ):=by
 obtain ⟨hb,fp,h1,h2,h3⟩:=h
 obtain ⟨kb,fk,k1,k2,k3⟩:=k
 refine ⟨Below.andExt hb hb.size kb,fk++fp,gt.append (h1.ext (fun b hb'=>kb.block b (h1.lt b hb'))) k1,?_,?_⟩
 ·rw [List.nodup_append]
  exact ⟨k2,h2,fun a ha b hb' e=>by have:=k3 a ha;have:=h1.lt b hb';omega⟩
 ·intro b hb'
  rcases List.mem_append.1 hb' with h | h
  ·have:=k3 b h;have:=hb.size;omega
  ·exact h3 b h
theorem Sat.call1 {w0 w w':World} {Γ:List Asn} {A:Asn} (h:Sat w0 w Γ) (k:Sat w w' [A]):Sat w0 w' (A :: Γ):=h.call k
theorem Sat.call2 {w0 w w':World} {Γ:List Asn} {A B:Asn} (h:Sat w0 w Γ) (k:Sat w w' [A,B]):Sat w0 w' (A :: B :: Γ):=h.call k
theorem Sat.call3 {w0 w w':World} {Γ:List Asn} {A B C:Asn} (h:Sat w0 w Γ) (k:Sat w w' [A,B,C]):Sat w0 w' (A :: B :: C :: Γ):=h.call k
theorem Sat.perm {w0 w:World} {Γ Δ:List Asn} (h:Sat w0 w Γ) (hp:Γ.Perm Δ):Sat w0 w Δ:=by
 obtain ⟨hb,fp,h1,h2,h3⟩:=h
 obtain ⟨fp',p,h1'⟩:=gt.perm hp h1
 exact ⟨hb,fp',h1',p.nodup_iff.1 h2,fun b hb'=>h3 b (p.mem_iff.2 hb')⟩
theorem Sat.tail {w0 w:World} {A:Asn} {Γ:List Asn} (h:Sat w0 w (A :: Γ)):Sat w0 w Γ:=by
 obtain ⟨hb,_,⟨f1,f2,rfl,_,h2⟩,hn,h3⟩:=h
 exact ⟨hb,f2,h2,(List.nodup_append.1 hn).2.1,fun b hb'=>h3 b (List.mem_append_right _ hb')⟩
theorem Sat.head {w0 w:World} {A:Asn} {Γ:List Asn} (h:Sat w0 w (A :: Γ)):∃ fp,A.holds w fp∧fp.Nodup∧∀ b∈fp,w0.heap.size≤b:=by
 obtain ⟨_,_,⟨f1,f2,rfl,h1,_⟩,hn,h3⟩:=h
 exact ⟨f1,h1,(List.nodup_append.1 hn).1,fun b hb'=>h3 b (List.mem_append_left _ hb')⟩
theorem Sat.take {w0 w:World} {Γ:List Asn} (h:Sat w0 w Γ) (Δ Θ:List Asn) (hp:Γ.Perm (Δ++Θ)):Sat w0 w Δ:=by
 have h':=h.perm (hp.trans List.perm_append_comm)
 clear h hp
 induction Θ with
 | nil=>simpa using h'
 | cons A Θ ih=>exact ih h'.tail
theorem Sat.upd {w0 w w':World} {A B:Asn} {Γ:List Asn} (h:Sat w0 w (A :: Γ))
  (k:∀ fp,A.holds w fp→fp.Nodup→∃ fp',B.holds w' fp'∧fp'.Nodup∧Chg fp w w'∧∀ b∈fp',b∈fp∨w.heap.size≤b):Sat w0 w' (B :: Γ):=by
 obtain ⟨hb,_,⟨f1,f2,rfl,h1,h2⟩,hn,h3⟩:=h
 obtain ⟨n1,n2,n3⟩:=List.nodup_append.1 hn
 obtain ⟨f1',k1,k2,k3,k4⟩:=k f1 h1 n1
 refine ⟨vm hb hb.size k3 (fun x hx=>h3 x (List.mem_append_left _ hx)),f1'++f2,⟨f1',f2,rfl,k1,h2.ext (fun b hb'=>k3.block b (h2.lt b hb') (fun hm=>n3 b hm b hb' rfl))⟩,?_,?_⟩
 ·rw [List.nodup_append]
  refine ⟨k2,n2,fun a ha b hb' e=>?_⟩
  subst e
  rcases k4 a ha with h | h
  ·exact n3 a h a hb' rfl
  ·have:=h2.lt a hb';omega
 ·intro b hb'
  rcases List.mem_append.1 hb' with h | h
  ·rcases k4 b h with h | h
   ·exact h3 b (List.mem_append_left _ h)
   ·have:=hb.size;omega
  ·exact h3 b (List.mem_append_right _ h)
theorem Sat.join {w0 w:World} {A B C:Asn} {Γ:List Asn} (h:Sat w0 w (A :: B :: Γ)) (k:∀ f g,A.holds w f→B.holds w g→C.holds w (f++g)):Sat w0 w (C :: Γ):=by
 obtain ⟨hb,_,⟨f1,_,rfl,h1,f2,f3,rfl,h2,h4⟩,hn,h3⟩:=h
 exact ⟨hb,(f1++f2)++f3,⟨f1++f2,f3,rfl,k _ _ h1 h2,h4⟩,by simpa using hn,by simpa using h3⟩
theorem Sat.conv {w0 w:World} {A B:Asn} {Γ:List Asn} (h:Sat w0 w (A :: Γ)) (k:∀ f,A.holds w f→B.holds w f):Sat w0 w (B :: Γ):=by
 obtain ⟨hb,_,⟨f1,f2,rfl,h1,h2⟩,hn,h3⟩:=h
 exact ⟨hb,_,⟨f1,f2,rfl,k _ h1,h2⟩,hn,h3⟩
theorem Sat.add {w0 w:World} {A:Asn} {Γ:List Asn} (h:Sat w0 w Γ) (k:A.holds w []):Sat w0 w (A :: Γ):=by
 obtain ⟨hb,fp,h1,h2,h3⟩:=h
 exact ⟨hb,fp,⟨[],fp,rfl,k,h1⟩,h2,h3⟩
theorem Sat.box {w0 w:World} {Γ:List Asn} (h:Sat w0 w Γ) (E:TypeId) (cs:List Value):Sat w0 (w.alloc (.cells cs.toArray E)) (Box w.heap.size E cs :: Γ):=by
 have k:Sat w (w.alloc (.cells cs.toArray E)) [Box w.heap.size E cs] :=
  ⟨(Below.refl _ _).alloc (Nat.le_refl _) _,[w.heap.size],⟨[w.heap.size],[],by simp,⟨rfl,heap_alloc_new w _⟩,rfl⟩,by simp,by simp⟩
 simpa using h.call k
theorem il (w:World) (o:Obj):Ext w (w.alloc o):=(Below.refl _ _).alloc (Nat.le_refl _) _
theorem Sat.rd {α:Type} {R:Rep α} {w0 w:World} {cs:List Value} {x:α} {Γ:List Asn} (h:Sat w0 w (Own R cs x :: Γ)):R.rd w cs x:=by
 obtain ⟨fp,h,_⟩:=h.head
 exact R.own_rd h

class AtBox (Γ:List Asn) (b:Nat) (E:outParam TypeId) (cs:outParam (List Value)) (rest:outParam (List Asn)):Prop where
 perm:Γ.Perm (Box b E cs :: rest)
instance (Γ:List Asn) (b:Nat) (E:TypeId) (cs:List Value):AtBox (Box b E cs :: Γ) b E cs Γ:=⟨.refl _⟩
instance (A:Asn) (Γ:List Asn) (b:Nat) (E:TypeId) (cs:List Value) (rest:List Asn) [h:AtBox Γ b E cs rest]:AtBox (A :: Γ) b E cs (A :: rest) :=
 ⟨(List.Perm.cons A h.perm).trans (.swap _ _ _)⟩
class AtOwn (Γ:List Asn) (v:Value) (α:outParam Type) (R:outParam (Rep α)) (x:outParam α) (rest:outParam (List Asn)):Prop where
 perm:Γ.Perm (Own R [v] x :: rest)
instance {α:Type} (Γ:List Asn) (v:Value) (R:Rep α) (x:α):AtOwn (Own R [v] x :: Γ) v α R x Γ:=⟨.refl _⟩
instance {α:Type} (A:Asn) (Γ:List Asn) (v:Value) (R:Rep α) (x:α) (rest:List Asn) [h:AtOwn Γ v α R x rest]:AtOwn (A :: Γ) v α R x (A :: rest) :=
 ⟨(List.Perm.cons A h.perm).trans (.swap _ _ _)⟩
theorem Sat.own {α:Type} {R:Rep α} {w0 w:World} {v:Value} {x:α} {Γ rest:List Asn} (h:Sat w0 w Γ) [k:AtOwn Γ v α R x rest]:Sat w0 w (Own R [v] x :: rest):=h.perm k.perm
theorem Sat.read {α:Type} {R:Rep α} {w0 w:World} {v:Value} {x:α} {Γ rest:List Asn} (h:Sat w0 w Γ) [AtOwn Γ v α R x rest]:R.rd w [v] x:=h.own.rd

theorem Sat.keep {w0 w:World} {Γ:List Asn} (n:Nat) (h:Sat w0 w Γ):Sat w0 w (Γ.take n):=h.take (Γ.take n) (Γ.drop n) (by rw [List.take_append_drop])
class PlainT (P:Program) (t:TypeId):Prop where
 h:∃ d,P.underlying t=some d∧(match d with | .struct _ | .array _ _=>False | _=>True)
class AggT (P:Program) (t:TypeId) (n:outParam Nat):Prop where
 h:∃ d,P.underlying t=some d∧(match d with | .struct _ | .array _ _=>True | _=>False)
 size:(P.info? t).map (·.size)=some n
class SliceT (P:Program) (t:TypeId) (e:outParam TypeId):Prop where
 h:P.underlying t=some (.slice e)
class ElemT (P:Program) (t:TypeId) (z:outParam (List Value)) (n bytes:outParam Nat):Prop where
 h:(P.info? t).map (fun i=>(i.zero.map fun v=>v.cells.toList,i.size,i.bytes))=some (some z,n,bytes)

section laws
variable {P:Program} {ops:Array Oper} {rest:List Oper} {o:Oper} {a:Act} {Q:Exit→Act→World→Prop} {w w0:World} {Γ rΓ:List Asn}

theorem wD (hg:o.guard=none) {t:TypeId} {x:Operand} (ho:o.op=.box t x) (cs:List Value) (hx:(a.eval x).cells=cs.toArray) (hS:Sat w0 w Γ)
  (hK:∀ w' b,Sat w0 w' (Box b t cs :: Γ)→Ext w w'→wpList P ops Q rest (a.put o.dst (.pointer (some ⟨b,0,none⟩))) w'):wpList P ops Q (o :: rest) a w:=by
 refine wpList_plain hg fun K hK'=>?_
 unfold Oper.wp execOp
 simp only [ho,Instr.box,newVar,newRow,hx,Sem.run_bind,Sem.run_pure,run_newObj,Result.andThen_ok,Oper.upon_value]
 exact hK' _ _ (hK _ _ (hS.box t cs) (il _ _))

theorem un (hg:o.guard=none) {t:TypeId} (ho:o.op=.alloc t) {cs:List Value} {n bytes:Nat} [hz:ElemT P t cs n bytes] (hS:Sat w0 w Γ)
  (hK:∀ w' b,Sat w0 w' (Box b t cs :: Γ)→Ext w w'→wpList P ops Q rest (a.put o.dst (.pointer (some ⟨b,0,none⟩))) w'):wpList P ops Q (o :: rest) a w:=by
 refine wpList_plain hg fun K hK'=>?_
 have hz:=hz.h
 cases hi:P.info? t with
 | none=>simp [hi] at hz
 | some i =>
  cases hzz:i.zero with
  | none=>simp [hi,hzz] at hz
  | some z =>
   simp [hi,hzz] at hz
   have hzc:z.cells=cs.toArray:=by rw [← hz.1]
   unfold Oper.wp execOp
   simp only [ho,Instr.alloc,zeroValue,typeInfo,hi,hzz,newVar,newRow,hzc,Sem.run_bind,Sem.run_pure,run_newObj,run_program,Result.andThen_ok,Oper.upon_value]
   exact hK' _ _ (hK _ _ (hS.box t cs) (il _ _))

theorem n6 {t:TypeId} [hT:PlainT P t] {ad:Addr} {c:Value} (hc:w.cell? ad=some c):(loadVar t ad).run P w=.ok c w:=by
 obtain ⟨d,hd,hk⟩:=hT.h
 have hagg:(isAgg t).run P w=.ok false w:=by
  unfold isAgg
  rw [Sem.run_bind,run_underlying hd w]
  cases d <;> simp_all
 simp [loadVar,Sem.run_bind,hagg,hc]

theorem fo {t:TypeId} {n:Nat} [hT:AggT P t n] {b off:Nat} {cs:List Value} (hn:cs.length=n) (hc:∀ j c,cs[j]? = some c→w.cell? ⟨b,off+j,none⟩=some c) :
  (loadVar t ⟨b,off,none⟩).run P w=.ok (.agg cs.toArray) w:=by
 obtain ⟨d,hd,hk⟩:=hT.h
 have hagg:(isAgg t).run P w=.ok true w:=by
  unfold isAgg
  rw [Sem.run_bind,run_underlying hd w]
  cases d <;> simp_all
 have hs:=hT.size
 cases hi:P.info? t with
 | none=>simp [hi] at hs
 | some i =>
  simp [hi] at hs
  have hl:=run_loadCells_list (P:=P) w ⟨b,off,none⟩ cs (fun j c hj=>by rw [Addr.add_lit];exact hc j c hj)
  rw [hn,← hs] at hl
  simp [loadVar,Sem.run_bind,hagg,sizeOf,typeInfo,hi,hl]

theorem Sat.boxCell {b:Nat} {E:TypeId} {cs:List Value} (hS:Sat w0 w Γ) [k:AtBox Γ b E cs rΓ]:∀ j c,cs[j]? = some c→w.cell? ⟨b,j,none⟩=some c:=by
 obtain ⟨fp,⟨_,hh⟩,_⟩:=(hS.perm k.perm).head
 intro j c hj
 rw [cell_of_row w b j _ E (0,0) hh]
 simpa using hj

theorem e8 {b:Nat} {E:TypeId}:∀ (vs:List Value) (off i:Nat) (cur:List Value) (w:World),w.heap[b]? = some (.cells cur.toArray E (0,0))→off+i+vs.length≤cur.length→(∀ v∈vs,v.oneCell'=true) →
  ∃ w',(storeCells ⟨b,off,none⟩ vs i).run P w=.ok () w'∧w'.heap[b]? = some (.cells (cur.take (off+i)++vs++cur.drop (off+i+vs.length)).toArray E (0,0))∧Chg [b] w w'
 | [],off,i,cur,w,hb,_,_=>by
  refine ⟨w,rfl,?_,Chg.refl _ _⟩
  rw [hb];simp
 | v :: vs,off,i,cur,w,hb,hl,h1=>by
  simp only [List.length_cons] at hl
  have hi:off+i<cur.length:=by omega
  have hcell:w.cell? ⟨b,off+i,none⟩=some cur[off+i]:=by rw [cell_of_row w b _ _ E (0,0) hb];simp [hi]
  have hfro:w.frozen? ⟨b,off+i,none⟩=false:=frozen_of_row w b _ _ E hb
  have hst:(store ((⟨b,off,none⟩:Addr).add i) v).run P w=.ok () (w.setCell ⟨b,off+i,none⟩ v):=by
   rw [Addr.add_lit,run_store P w _ v _ (h1 v (by simp)),hcell]
   simp [hfro]
  have hb':(w.setCell ⟨b,off+i,none⟩ v).heap[b]? = some (.cells ((cur.set (off+i) v).toArray) E (0,0)):=by
   rw [heap_setCell_same w b (off+i) _ E v hb];simp
  obtain ⟨w',h2,h3,h4⟩:=e8 vs off (i+1) (cur.set (off+i) v) _ hb' (by simp;omega) (fun x hx=>h1 x (by simp [hx]))
  refine ⟨w',?_,?_,?_⟩
  ·simp only [storeCells,Sem.run_bind,hst,Result.andThen_ok];exact h2
  ·rw [h3]
   congr 3
   have e1:(cur.set (off+i) v).take (off+(i+1))=cur.take (off+i)++[v]:=by
    rw [show off+(i+1)=(off+i)+1 by omega,List.take_set,List.take_succ_eq_append_getElem hi,List.set_append_right _ _ (by simp;omega)]
    simp [show min (off+i) cur.length=off+i by omega]
   have e2:(cur.set (off+i) v).drop (off+(i+1)+vs.length)=cur.drop (off+i+(v :: vs).length):=by
    rw [List.drop_set_of_lt (by omega)]
    congr 1
    simp only [List.length_cons];omega
   rw [e1,e2];simp
  ·exact Chg.trans (show Chg [b] w (w.setCell ⟨b,off+i,none⟩ v) from ⟨rfl,rfl,rfl,by simp,fun k _ hk=>Below.heap_setCell _ _ _ _ (by simpa using hk)⟩) h4

theorem sZ {t:TypeId} {x y:Operand} (hg:o.guard=none) (ho:o.op=.store t x y) {z:List Value} {n bytes:Nat} [hz:ElemT P t z n bytes] (hS:Sat w0 w Γ) {b j:Nat} (hx:a.eval x=.pointer (some ⟨b,j,none⟩))
  {E:TypeId} {cs:List Value} [k:AtBox Γ b E cs rΓ] (vs:List Value) (hy:(a.eval y).cells=vs.toArray) (hn:vs.length=n) (hl:j+n≤cs.length) (h1:vs.all (·.oneCell')=true)
  (hK:∀ w',Sat w0 w' (Box b E (cs.take j++vs++cs.drop (j+n)) :: rΓ)→wpList P ops Q rest (a.put o.dst undef) w'):wpList P ops Q (o :: rest) a w:=by
 refine wpList_plain hg fun K hK'=>?_
 have hz:=hz.h
 cases hi:P.info? t with
 | none=>simp [hi] at hz
 | some i =>
  simp [hi] at hz
  obtain ⟨fp,⟨_,hh⟩,_⟩:=(hS.perm k.perm).head
  obtain ⟨w',hr,hh',hc⟩:=e8 (P:=P) vs j 0 cs w hh (by omega) (by simpa using h1)
  have hsz:¬ (vs.toArray.size≠i.size):=by simp;omega
  unfold Oper.wp execOp
  simp only [ho,hx,Instr.storeAt,Instr.sureAddr,storeVar,sizeOf,typeInfo,hi,hy,Sem.run_bind,Sem.run_pure,run_program,Result.andThen_ok,hsz,if_false,Sem.run_ite,List.toList_toArray,hr,Oper.upon_skip]
  refine hK' _ _ (hK w' ?_)
  refine Sat.upd (hS.perm k.perm) fun fp hfp hnd=>?_
  obtain ⟨rfl,_⟩:=hfp
  refine ⟨[b],⟨rfl,?_⟩,by simp,hc,fun x hx=>.inl hx⟩
  rw [hh']
  simp [hn]
theorem tT {v:Value} (h:v.oneCell'=true):v.cells=[v].toArray:=by cases v <;> first | rfl | simp [Value.oneCell'] at h
end laws

section laws2
variable {P:Program} {ops:Array Oper} {rest:List Oper} {o:Oper} {a:Act} {Q:Exit→Act→World→Prop} {w w0 wA:World} {Γ rΓ:List Asn} {α:Type} {R:Rep α} {E:TypeId}

theorem q7 {w:World} {v:Value} {xs:List α} (h:(aA R E).rd w [v] xs):∃ ao cap,v=.slice ao xs.length cap:=by
 obtain ⟨ao,cap,ccs,hv,_⟩:=h
 exact ⟨ao,cap,by simpa using hv⟩

def nh (R:Rep α) (ccs:List Value) (ys:List α):Asn:=⟨fun w fp=>dq R w ccs ys fp,fun h he=>ew h he,fun h=>eW h⟩
def tG (A B:Asn):Asn where
 holds w fp:=∃ f g,fp=f++g∧A.holds w f∧B.holds w g
 ext h he:=by
  obtain ⟨f,g,rfl,h1,h2⟩:=h
  exact ⟨f,g,rfl,A.ext h1 (fun b hb=>he b (List.mem_append_left _ hb)),B.ext h2 (fun b hb=>he b (List.mem_append_right _ hb))⟩
 lt h:=by
  obtain ⟨f,g,rfl,h1,h2⟩:=h
  intro b hb
  rcases List.mem_append.1 hb with h | h
  ·exact A.lt h1 b h
  ·exact B.lt h2 b h

theorem lP (z:Value) (k:Nat):(Builtin.zeroCells z.cells k).size=k*z.cells.size:=size_zeroCells _ _

theorem sK {w:World} {cur:Array Value} {xs:List α} {ccs:List Value} {f:List Nat} {cap:Nat} (h:dq R w ccs xs f) (hcap:xs.length≤cap) (hm:cap≤maxLen) (hs:cur.size=cap*R.sz)
  (ht:cur.toList.take ccs.length=ccs):(aA R E).own (w.drew.alloc (.cells cur E)) [.slice (some ⟨w.heap.size,0,none⟩) xs.length cap] xs (w.heap.size :: f):=by
 refine .inr ⟨w.heap.size,cap,cur,ccs,f,rfl,heap_alloc_new w.drew _,hcap,hm,hs,by rw [← fj (ek h)];exact ht,ew h (fun b hb=>?_),rfl⟩
 exact Below.heap_alloc w.drew _ b (eW h b hb)

theorem mX {t ty:TypeId} [ht:SliceT P t E] {z:List Value} {n bytes:Nat} [hz:ElemT P E z n bytes] (hn:R.sz=n) (hpos:0<n) (hzl:z.length=n) (hb0:0<bytes)
  {v:Value} {xs:List α} {f:List Nat} (hv:(aA R E).own w [v] xs f) {ccs:List Value} {ys:List α} {fy:List Nat} (hy:dq R w ccs ys fy) (hnd:(fy++f).Nodup)
  {ao:Option Addr} {c:Nat} (hnone:ao=none→c=0) (hrow:mN w ao ccs) (hby:(xs.length+ys.length)*bytes≤140737488355328) :
  ∃ v' w' f',(Builtin.append_ #[t,t] ty #[v,.slice ao ys.length c]).run P w=.ok v' w'∧(aA R E).own w' [v'] (xs++ys) f'∧f'.Nodup∧Chg (fy++f) w w'∧∀ b∈f',b∈fy++f∨w.heap.size≤b:=by
 have hz:=hz.h
 have hmax:xs.length+ys.length≤140737488355328:=Nat.le_trans (Nat.le_mul_of_pos_right _ hb0) hby
 have hyl:ccs.length=ys.length*R.sz:=fj (ek hy)
 have hy1:∀ u∈ccs,u.oneCell'=true:=sH (ek hy)
 cases hi:P.info? E with
 | none=>simp [hi] at hz
 | some i =>
 cases hzz:i.zero with
 | none=>simp [hi,hzz] at hz
 | some zv =>
 simp [hi,hzz] at hz
 obtain ⟨hz1,hz2,hz3⟩:=hz
 have hzs:zv.cells.size=R.sz:=by rw [← Array.length_toList,hz1,hzl,hn]
 have hsz:i.size=R.sz:=by omega
 have hdrew:Chg (fy++f) w w.drew:=⟨rfl,rfl,rfl,Nat.le_refl _,fun _ _ _=>rfl⟩
 have hgrow:∀ cur:Array Value,Chg (fy++f) w (w.drew.alloc (.cells cur E)):=fun cur=>hdrew.trans ((Chg.alloc w.drew _).mono (by simp))
 have hlt:∀ b∈fy++f,b<w.heap.size:=fun b hb=>by
  rcases List.mem_append.1 hb with h | h
  ·exact eW hy b h
  ·exact (aA R E).own_lt hv b h
 obtain ⟨nd1,nd2,nd3⟩:=List.nodup_append.1 hnd
 -- nothing is appended
 by_cases hy0:ys=[]
 ·subst hy0
  have hccs:ccs=[]:=by simp only [dq] at hy;exact hy.1
  have hfy:fy=[]:=by simp only [dq] at hy;exact hy.2
  subst hccs;subst hfy
  refine ⟨v,w,f,?_,by simpa using hv,by simpa using hnd,Chg.refl _ _,fun b hb=>.inl (by simpa using hb)⟩
  rcases hv with ⟨hv,rfl,rfl⟩ | ⟨g,cap,cur,cs,f2,hv,hg,h1,h2,h3,h4,h5,rfl⟩
  ·obtain rfl:v=.slice none 0 0:=by simpa using hv
   cases ao <;> simp [Builtin.append_,run_underlying ht.h,sizeOf,typeInfo,hi,Builtin.lenOf,Builtin.firstCells,loadCells,loadCellsFrom]
  ·obtain rfl:v=.slice (some ⟨g,0,none⟩) xs.length cap:=by simpa using hv
   cases ao <;> simp [Builtin.append_,run_underlying ht.h,sizeOf,typeInfo,hi,Builtin.lenOf,Builtin.firstCells,loadCells,loadCellsFrom,h1,storeCells]
 have hyp:0<ys.length:=List.length_pos_iff.2 hy0
 obtain ⟨b,off,rfl,hcell⟩:∃ b off,ao=some ⟨b,off,none⟩∧∀ j c,ccs[j]? = some c→w.cell? ⟨b,off+j,none⟩=some c:=by
  rcases hrow with rfl | h
  ·exfalso
   have:0<ys.length*R.sz:=Nat.mul_pos hyp (by omega)
   simp at hyl;omega
  ·exact h
 have hnews:∀ j u,ccs[j]? = some u→w.cell? ((⟨b,off,none⟩:Addr).add j)=some u:=fun j u hj=>by rw [Addr.add_lit];exact hcell j u hj
 rcases hv with ⟨hv,rfl,rfl⟩ | ⟨g,cap,cur,cs,f2,hv,hg,h1,h2,h3,h4,h5,rfl⟩
 ·obtain rfl:v=.slice none 0 0:=by simpa using hv
  simp only [List.length_nil,Nat.zero_add] at hby hmax
  have hr:=run_append_nil (P:=P) w t ty E i zv ht.h hi hzz ⟨b,off,none⟩ ys.length c ccs (by rw [hyl,hsz]) hnews hyp (by omega) (by rw [hz3];omega)
  refine ⟨_,_,w.heap.size :: fy,hr,?_,?_,hgrow _,?_⟩
  ·have hge:=grownCap_ge w ys.length 0 E
   rw [List.nil_append]
   refine sK hy hge (grownCap_le_maxLen w ys.length 0 E (by unfold maxLen;omega)) ?_ ?_
   ·rw [Array.size_append,lP,hzs,List.size_toArray,hyl,← Nat.add_mul]
    congr 1;omega
   ·rw [Array.toList_append,List.toList_toArray,List.take_left']
    rfl
  ·refine List.nodup_cons.2 ⟨fun hm=>?_,nd1⟩
   have:=hlt _ (List.mem_append_left _ hm);omega
  ·intro x hx
   rcases List.mem_cons.1 hx with rfl | hx
   ·exact .inr (Nat.le_refl _)
   ·exact .inl (List.mem_append_left _ hx)
 ·obtain rfl:v=.slice (some ⟨g,0,none⟩) xs.length cap:=by simpa using hv
  have hcl:cs.length=xs.length*R.sz:=fj (ek h5)
  have hfit:xs.length*R.sz≤cur.size:=by rw [h3];exact Nat.mul_le_mul_right _ h1
  obtain ⟨ng,nf2⟩:=List.nodup_cons.1 nd2
  by_cases hroom:xs.length+ys.length≤cap
  ·have hfit2:xs.length*i.size+ccs.length≤cur.size:=by rw [hsz,hyl,h3,← Nat.add_mul];exact Nat.mul_le_mul_right _ hroom
   have hr:=run_append_room (P:=P) w t ty E i ht.h hi g xs.length cap cur hg ⟨b,off,none⟩ ys.length c ccs (by rw [hyl,hsz]) hnews hy1 hroom hfit2
   have hoth:∀ k,k≠g→(w.setRow g (cur.toList.take (xs.length*i.size)++ccs++cur.toList.drop (xs.length*i.size+ccs.length)).toArray).heap[k]? = w.heap[k]?:=fun k hk=>setRow_other w g k _ hk
   refine ⟨_,_,g :: (f2++fy),hr,?_,?_,⟨rfl,rfl,rfl,by simp,fun k _ hk=>hoth k (fun e=>hk (by simp [e]))⟩,?_⟩
   ·rw [show xs.length+ys.length=(xs++ys).length by simp]
    refine .inr ⟨g,cap,_,cs++ccs,f2++fy,rfl,setRow_heap w g cur _ E _ hg,by simpa using hroom,h2,?_,?_,?_,rfl⟩
    ·simp only [List.size_toArray,List.length_append,List.length_take,List.length_drop,Array.length_toList]
     rw [hsz] at hfit2 ⊢
     omega
    ·rw [hsz,h4,List.length_append,Nat.add_mul,← hcl,← hyl,← List.length_append]
     exact List.take_left' rfl
    ·refine lD (ew hy fun x hx=>hoth x fun e=>?_) (ew h5 fun x hx=>hoth x fun e=>?_)
     ·subst e;exact nd3 x hx x (by simp) rfl
     ·subst e;exact ng hx
   ·refine List.nodup_cons.2 ⟨fun hm=>?_,List.nodup_append.2 ⟨nf2,nd1,fun a ha b hb e=>nd3 b hb a (by simp [ha]) e.symm⟩⟩
    rcases List.mem_append.1 hm with h | h
    ·exact ng h
    ·exact nd3 g h g (by simp) rfl
   ·intro x hx
    refine .inl ?_
    simp only [List.mem_cons,List.mem_append] at hx ⊢
    rcases hx with h | h | h <;> simp [h]
  ·have hcells:∀ j u,cs[j]? = some u→w.cell? ((⟨g,0,none⟩:Addr).add j)=some u:=fun j u hj=>by
    rw [Addr.add_lit,Nat.zero_add,cell_of_row w g j cur E (0,0) hg,← Array.getElem?_toList]
    rw [← h4,List.getElem?_take] at hj
    split at hj
    ·exact hj
    ·cases hj
   have hr:=run_append_grow (P:=P) w t ty E i zv ht.h hi hzz ⟨g,0,none⟩ xs.length cap cs (by rw [hcl,hsz]) hcells ⟨b,off,none⟩ ys.length c ccs (by rw [hyl,hsz]) hnews (by omega) (by omega) (growslice_fits (by omega) (by rw [hz3];exact hby))
   refine ⟨_,_,w.heap.size :: (f2++fy),hr,?_,?_,hgrow _,?_⟩
   ·have hge:=grownCap_ge w (xs.length+ys.length) cap E
    rw [show (xs.length+ys.length:Nat)=(xs++ys).length by simp] at hge ⊢
    refine sK (lD hy h5) hge (grownCap_le_maxLen w _ cap E (by unfold maxLen;simp;omega)) ?_ ?_
    ·rw [Array.size_append,Array.size_append,lP,hzs,List.size_toArray,List.size_toArray,hyl,hcl,← Nat.add_mul,← Nat.add_mul]
     congr 1;simp at hge ⊢;omega
    ·rw [Array.toList_append,Array.toList_append,List.toList_toArray,List.toList_toArray,List.take_left']
     rfl
   ·refine List.nodup_cons.2 ⟨fun hm=>?_,List.nodup_append.2 ⟨nf2,nd1,fun a ha b hb e=>nd3 b hb a (by simp [ha]) e.symm⟩⟩
    have:=hlt w.heap.size (by
     rcases List.mem_append.1 hm with h | h
     ·exact List.mem_append_right _ (by simp [h])
     ·exact List.mem_append_left _ h)
    omega
   ·intro x hx
    simp only [List.mem_cons,List.mem_append] at hx ⊢
    rcases hx with h | h | h
    ·exact .inr (by omega)
    ·exact .inl (by simp [h])
    ·exact .inl (by simp [h])

theorem tC (hg:o.guard=none) {t:TypeId} {s x:Operand} (ho:o.op=.call { callee:=.builtin .append,args:=#[s,x],argTypes:=#[t,t] })
  [SliceT P t E] {z:List Value} {n bytes:Nat} [ElemT P E z n bytes] (hn:R.sz=n) (hpos:0<n) (hzl:z.length=n) (hb0:0<bytes)
  {v:Value} {xs:List α} {ccs:List Value} {ys:List α} (hS:Sat w0 w (nh R ccs ys :: Own (aA R E) [v] xs :: Γ)) (hs:a.eval s=v)
  {ao:Option Addr} {m c:Nat} (hx:a.eval x=.slice ao m c) (hm:m=ys.length) (hnone:ao=none→c=0) (hrow:mN w ao ccs) (hby:(xs.length+ys.length)*bytes≤140737488355328)
  (hK:∀ v' w',Sat w0 w' (Own (aA R E) [v'] (xs++ys) :: Γ)→wpList P ops Q rest (a.put o.dst v') w'):wpList P ops Q (o :: rest) a w:=by
 subst hm
 refine wpList_plain hg fun K hK'=>?_
 have hS':Sat w0 w (tG (nh R ccs ys) (Own (aA R E) [v] xs) :: Γ):=hS.join fun f g h1 h2=>⟨f,g,rfl,h1,h2⟩
 obtain ⟨fp,⟨fy,f,rfl,hy,hv⟩,hnd,_⟩:=hS'.head
 obtain ⟨v',w',f',hr,k1,k2,k3,k4⟩:=mX (P:=P) (t:=t) (ty:=o.type) hn hpos hzl hb0 hv hy hnd hnone hrow hby
 unfold Oper.wp execOp
 simp only [ho,resolve,invoke,builtin,Sem.run_bind,Sem.run_pure,Result.andThen_ok,List.map_toArray,List.map_cons,List.map_nil,hs,hx,hr,Oper.upon_value]
 refine hK' _ _ (hK v' w' ?_)
 have hex:∀ fp,(tG (nh R ccs ys) (Own (aA R E) [v] xs)).holds w fp→fp.Nodup→∃ fp',(Own (aA R E) [v'] (xs++ys)).holds w' fp'∧fp'.Nodup∧Chg fp w w'∧∀ b∈fp',b∈fp∨w.heap.size≤b:=by
  rintro _ ⟨gy,g,rfl,hy2,hv2⟩ hnd2
  obtain ⟨v2,w2,f2,hr2,l1,l2,l3,l4⟩:=mX (P:=P) (t:=t) (ty:=o.type) hn hpos hzl hb0 hv2 hy2 hnd2 hnone hrow hby
  rw [hr] at hr2
  obtain ⟨rfl,rfl⟩:v'=v2∧w'=w2:=by simpa using hr2
  exact ⟨f2,l1,l2,l3,l4⟩
 exact hS'.upd hex

theorem mV (z:Array Value) (h:0<z.size):∀ k,(madeCells z (k*z.size)).toList=(List.replicate k z.toList).flatten
 | 0=>by simp [madeCells]
 | k+1=>by
  have ih:=mV z h k
  rw [List.replicate_succ',List.flatten_append,← ih]
  unfold madeCells
  rw [Nat.add_mul,Nat.one_mul]
  simp only [Array.toList_map,Array.toList_range,List.range_add,List.map_append,List.map_map,List.flatten_cons,List.flatten_nil,List.append_nil]
  congr 1
  apply List.ext_getElem
  ·simp
  ·intro j h1 h2
   have hj:j<z.size:=by simpa using h1
   simp only [List.getElem_map,List.getElem_range,Function.comp]
   rw [Nat.mul_add_mod_self_right,Nat.mod_eq_of_lt hj]
   simp [hj]
theorem vt (hg:o.guard=none) {t:TypeId} {l c:Operand} (ho:o.op=.makeSlice t l c) [ht:SliceT P t E] {z:List Value} {n bytes:Nat} [hz:ElemT P E z n bytes] (hn:R.sz=n) (hpos:0<n) (hzl:z.length=n)
  {x0:α} (hx0:∀ w,R.own w z x0 []) {L C:Int} (hl:a.eval l=.int .i64 L) (hc:a.eval c=.int .i64 C) (k:Nat) (hL:L=(k:Int)) (hC:C=(k:Int)) (hby:k*bytes≤281474976710656) (hk:k≤140737488355328) (hS:Sat w0 w Γ)
  (hK:∀ w' g,Sat w0 w' (Own (aA R E) [.slice (some ⟨g,0,none⟩) k k] (List.replicate k x0) :: Γ)→Ext w w'→wpList P ops Q rest (a.put o.dst (.slice (some ⟨g,0,none⟩) k k)) w'):wpList P ops Q (o :: rest) a w:=by
 refine wpList_plain hg fun K hK'=>?_
 have hz:=hz.h
 cases hi:P.info? E with
 | none=>simp [hi] at hz
 | some i =>
 cases hzz:i.zero with
 | none=>simp [hi,hzz] at hz
 | some zv =>
 simp [hi,hzz] at hz
 obtain ⟨hz1,hz2,hz3⟩:=hz
 subst hL;subst hC
 have hr:=run_make (P:=P) w t E i zv ht.h hi hzz .i64 .i64 k k (by omega) (by omega) (by rw [hz3];have:=hby;rw [Nat.mul_comm] at this;omega) (by omega)
 simp only [Int.toNat_natCast] at hr
 unfold Oper.wp execOp
 simp only [ho,hl,hc,Sem.run_bind,hr,Sem.run_pure,Result.andThen_ok,Oper.upon_value]
 have hzs:zv.cells.size=n:=by rw [← Array.length_toList,hz1,hzl]
 have hcur:(madeCells zv.cells (k*i.size)).toList=(List.replicate k z).flatten:=by
  rw [← hz1,hz2,← hzs]
  exact mV _ (by omega) k
 refine hK' _ _ (hK _ _ ?_ (il _ _))
 have hown:∀ k',dq R (w.alloc (.cells (madeCells zv.cells (k*i.size)) E)) (List.replicate k' z).flatten (List.replicate k' x0) []:=by
  intro k'
  induction k' with
  | zero=>exact ⟨rfl,rfl⟩
  | succ k' ih=>exact ⟨z,_,[],[],by simp [List.replicate_succ],rfl,hx0 _,ih⟩
 have kk:Sat w (w.alloc (.cells (madeCells zv.cells (k*i.size)) E)) [Own (aA R E) [.slice (some ⟨w.heap.size,0,none⟩) k k] (List.replicate k x0)]:=by
  refine ⟨il _ _,[w.heap.size],⟨[w.heap.size],[],rfl,.inr ⟨w.heap.size,k,_,_,[],by simp,heap_alloc_new w _,by simp,by unfold maxLen;omega,?_,rfl,?_,rfl⟩,rfl⟩,by simp,by simp⟩
  ·rw [← Array.length_toList,hcur];simp [hzl,hn]
  ·rw [hcur,List.take_of_length_le (by simp [hzl,hn])]
   exact hown k
 simpa using hS.call kk

theorem t0 {v:Value} {xs:List α} {fp:List Nat} (h:(aA R E).own w [v] xs fp):(v=.slice none 0 0∧xs=[])∨∃ g cap,v=.slice (some ⟨g,0,none⟩) xs.length cap:=by
 rcases h with ⟨h,h2,_⟩ | ⟨g,cap,_,_,_,h,_⟩
 ·exact .inl ⟨by simpa using h,h2⟩
 ·exact .inr ⟨g,cap,by simpa using h⟩
theorem Sat.shape {v:Value} {xs:List α} (h:Sat w0 w (Own (aA R E) [v] xs :: Γ)):(v=.slice none 0 0∧xs=[])∨∃ g cap,v=.slice (some ⟨g,0,none⟩) xs.length cap:=by
 obtain ⟨fp,h,_⟩:=h.head
 exact t0 h

theorem rv {w:World}:∀ {xs:List α} {ccs:List Value} {fp:List Nat},dq R w ccs xs fp→∀ (k:Nat) (_:k<xs.length) {ec:List Value} {y:α} {fy:List Nat},R.own w ec y fy →
  ∃ fl fk fr,fp=fl++fk++fr∧dq R w (ccs.take (k*R.sz)++ec++ccs.drop (k*R.sz+R.sz)) (xs.set k y) (fl++fy++fr)
 | [],_,_,_,k,hk,_,_,_,_=>absurd hk (by simp)
 | x :: xs,_,_,h,0,_,ec,y,fy,hy=>by
  obtain ⟨e0,rest,f1,f2,rfl,rfl,h1,h2⟩:=h
  refine ⟨[],f1,f2,by simp,ec,rest,fy,f2,?_,by simp,hy,h2⟩
  have:=R.rd_len (R.own_rd h1)
  simp [← this]
 | x :: xs,_,_,h,k+1,hk,ec,y,fy,hy=>by
  obtain ⟨e0,rest,f1,f2,rfl,rfl,h1,h2⟩:=h
  obtain ⟨fl,fk,fr,rfl,h3⟩:=rv h2 k (by simpa using hk) hy
  refine ⟨f1++fl,fk,fr,by simp,e0,_,f1,fl++fy++fr,?_,by simp,h1,h3⟩
  have hl:=R.rd_len (R.own_rd h1)
  have e:(k+1)*R.sz=e0.length+k*R.sz:=by rw [hl,Nat.add_mul];omega
  rw [e,List.take_append,List.take_of_length_le (by omega),Nat.add_sub_cancel_left,show e0.length+k*R.sz+R.sz=e0.length+(k*R.sz+R.sz) by omega,List.drop_append,List.drop_of_length_le (by omega),Nat.add_sub_cancel_left]
  simp

theorem lA (L ec:List Value) (p s N:Nat) (h1:p+s≤N) (h2:N≤L.length) (h3:ec.length=s):(L.take (p+0)++ec++L.drop (p+0+s)).take N=(L.take N).take p++ec++(L.take N).drop (p+s):=by
 rw [Nat.add_zero,List.take_append,List.take_of_length_le (by simp;omega),List.take_take,Nat.min_eq_left (by omega:p≤N),List.drop_take]
 congr 2
 simp;omega
theorem tp {t:TypeId} {x y:Operand} (hg:o.guard=none) (ho:o.op=.store t x y) {z:List Value} {n bytes:Nat} [hz:ElemT P t z n bytes] (hn:R.sz=n) {ec:List Value} {yv:α} {xs:List α} {g m cap:Nat}
  (hS:Sat w0 w (Own R ec yv :: Own (aA R E) [.slice (some ⟨g,0,none⟩) m cap] xs :: Γ)) (k off:Nat) (hk:k<xs.length) (hoff:off=k*n) (hx:a.eval x=.pointer (some ⟨g,off,none⟩)) (hy:(a.eval y).cells=ec.toArray)
  (hK:∀ w',Sat w0 w' (Own (aA R E) [.slice (some ⟨g,0,none⟩) m cap] (xs.set k yv) :: Γ)→wpList P ops Q rest (a.put o.dst undef) w'):wpList P ops Q (o :: rest) a w:=by
 refine wpList_plain hg fun K hK'=>?_
 have hz:=hz.h
 cases hi:P.info? t with
 | none=>simp [hi] at hz
 | some i =>
  simp [hi] at hz
  have hS':Sat w0 w (tG (Own R ec yv) (Own (aA R E) [.slice (some ⟨g,0,none⟩) m cap] xs) :: Γ):=hS.join fun f g h1 h2=>⟨f,g,rfl,h1,h2⟩
  obtain ⟨fp,⟨fy,f,rfl,hyo,hv⟩,hnd,_⟩:=hS'.head
  have hel:ec.length=R.sz:=R.rd_len (R.own_rd hyo)
  obtain ⟨cur,hh,hcs⟩:∃ cur,w.heap[g]? = some (.cells cur E (0,0))∧xs.length*R.sz≤cur.size:=by
   rcases hv with ⟨h,_⟩ | ⟨g',cap',cur,ccs,f2,h,hg',h1,h2,h3,_⟩
   ·simp at h
   ·simp at h
    obtain ⟨rfl,_⟩:=h
    exact ⟨cur,hg',by rw [h3];exact Nat.mul_le_mul_right _ h1⟩
  have hkk:k*R.sz+R.sz≤xs.length*R.sz:=by have:=Nat.mul_le_mul_right R.sz hk;rw [Nat.succ_mul] at this;exact this
  have hh':w.heap[g]? = some (.cells cur.toList.toArray E (0,0)):=by simpa using hh
  obtain ⟨w',hr,hnew,hc⟩:=e8 (P:=P) ec off 0 cur.toList w hh' (by rw [hoff,hel,← hn];simp;omega) (R.rd_one (R.own_rd hyo))
  have hsz:¬ (ec.toArray.size≠i.size):=by simp;omega
  unfold Oper.wp execOp
  simp only [ho,hx,Instr.storeAt,Instr.sureAddr,storeVar,sizeOf,typeInfo,hi,hy,Sem.run_bind,Sem.run_pure,run_program,Result.andThen_ok,hsz,if_false,Sem.run_ite,List.toList_toArray,hr,Oper.upon_skip]
  refine hK' _ _ (hK w' ?_)
  refine hS'.upd ?_
  rintro _ ⟨gy,gf,rfl,hy2,hv2⟩ hnd2
  rcases hv2 with ⟨h,_⟩ | ⟨g',cap',cur',ccs,f2,h,hg',h1,h2,h3,h4,h5,rfl⟩
  ·simp at h
  ·simp at h
   obtain ⟨rfl,rfl,rfl⟩:=h
   obtain ⟨rfl⟩:cur'=cur:=by rw [hh] at hg';simpa using hg'.symm
   obtain ⟨fl,fk,fr,rfl,h6⟩:=rv h5 k hk hy2
   have hoth:∀ x,x≠g→x<w.heap.size→w'.heap[x]? = w.heap[x]?:=fun x hx hlt=>hc.block x hlt (by simpa using hx)
   have hnd3:(gy++g :: (fl++fk++fr)).Nodup:=hnd2
   simp only [List.nodup_append,List.nodup_cons,List.mem_append,List.mem_cons] at hnd3
   have hgn:g∉fl++gy++fr:=by
    simp only [List.mem_append,not_or]
    refine ⟨⟨fun hm=>hnd3.2.1.1 (.inl (.inl hm)),fun hm=>hnd3.2.2 g hm g (.inl rfl) rfl⟩,fun hm=>hnd3.2.1.1 (.inr hm)⟩
   refine ⟨g :: (fl++gy++fr),.inr ⟨g,cap,_,ccs.take (k*R.sz)++ec++ccs.drop (k*R.sz+R.sz),fl++gy++fr,by simp,hnew,by simpa using h1,h2,?_,?_,ew h6 (fun b hb=>hoth b (fun e=>hgn (e ▸ hb)) ?_),rfl⟩,?_,hc.mono (by simp),?_⟩
   ·simp only [List.size_toArray,List.length_append,List.length_take,List.length_drop,Array.length_toList]
    rw [hoff,← hn]
    omega
   ·have hcl:ccs.length=xs.length*R.sz:=fj (ek h5)
    rw [← h4,hoff,← hn,hel,List.length_set]
    exact lA _ _ _ _ _ hkk (by simpa using hcs) hel
   ·exact eW h6 b hb
   ·refine List.nodup_cons.2 ⟨hgn,?_⟩
    have hs:(gy++(fl++fr)).Nodup:=List.Nodup.sublist (List.Sublist.append (List.Sublist.refl gy) (List.Sublist.cons g (List.Sublist.append (List.sublist_append_left fl fk) (List.Sublist.refl fr)))) hnd2
    rw [← List.append_assoc] at hs
    exact (List.Perm.append_right fr List.perm_append_comm).nodup_iff.1 hs
   ·intro b hb
    refine .inl ?_
    simp only [List.mem_cons,List.mem_append] at hb ⊢
    rcases hb with h | (h | h) | h <;> simp [h]

theorem pk {t e:TypeId} [ht:SliceT P t e] {z:List Value} {n bytes:Nat} [hz:ElemT P e z n bytes] {v:Value} {cs:List Value} (hcs:v.cells=cs.toArray) (hl:cs.length=n) (hpos:0<n) (hzl:z.length=n) (hn:n≤16) :
  (Instr.buildSlice t 1 #[(0,v)]).run P w=.ok (.slice (some ⟨w.heap.size,0,none⟩) 1 1) (w.alloc (.cells cs.toArray e)):=by
 have hz:=hz.h
 cases hi:P.info? e with
 | none=>simp [hi] at hz
 | some i =>
 cases hzz:i.zero with
 | none=>simp [hi,hzz] at hz
 | some zv =>
 simp [hi,hzz] at hz
 obtain ⟨hz1,hz2,hz3⟩:=hz
 have h24:¬ (n > 2 ^ 24):=by omega
 have hn0:¬ (n=0):=by omega
 have hfill:Instr.fill (fun i=>some (i*n,n)) ((Array.range n).map (zv.cells[· % zv.cells.size]!)) [(0,v)]=some cs.toArray:=by
  have hsz:((Array.range n).map (zv.cells[· % zv.cells.size]!)).size=n:=by simp
  have hfold:∀ (l:List Value) (pre:List Value) (A:Array Value),A.size=pre.length+l.length→A.toList.take pre.length=pre →
    ((l.zipIdx pre.length).foldl (fun A (c:Value × Nat)=>A.setIfInBounds c.2 c.1) A).toList=pre++l:=by
   intro l
   induction l with
   | nil=>intro pre A h1 h2;simp;rw [← h2,List.take_of_length_le (by simp at h1 ⊢;omega)]
   | cons x l ih =>
    intro pre A h1 h2
    simp only [List.zipIdx_cons,List.foldl_cons]
    have:=ih (pre++[x]) (A.setIfInBounds pre.length x) (by simp at h1 ⊢;omega) (by
     simp only [Array.toList_setIfInBounds,List.length_append,List.length_singleton]
     rw [List.take_set,List.take_succ_eq_append_getElem (by simp at h1 ⊢;omega),h2,List.set_append_right _ _ (Nat.le_refl _)]
     simp)
    simpa using this
  have h0:=hfold cs [] ((Array.range n).map (zv.cells[· % zv.cells.size]!)) (by simp [hl]) (by simp)
  simp only [Instr.fill,hcs,List.size_toArray,hl,hsz,Nat.zero_mul,Nat.zero_add,ne_eq,not_true_eq_false,decide_false,Bool.false_or,gt_iff_lt,Nat.lt_irrefl,Bool.false_eq_true,if_false]
  congr 1
  apply Array.ext'
  simpa using h0
 simp [Instr.buildSlice,run_underlying ht.h,sizeOf,typeInfo,hi,hz2,h24,hn0,zeroValue,hzz,hfill,newRow]

theorem o0 (hg:o.guard=none) {t e:TypeId} {x:Operand} (ho:o.op=.buildSlice t 1 #[(0,x)]) [SliceT P t e] {z:List Value} {n bytes:Nat} [ElemT P e z n bytes] {cs:List Value} (hcs:(a.eval x).cells=cs.toArray) (hl:cs.length=n) (hpos:0<n) (hzl:z.length=n) (hn:n≤16)
  (hS:Sat w0 w Γ) (hK:∀ w' b,Sat w0 w' (Box b e cs :: Γ)→Ext w w'→wpList P ops Q rest (a.put o.dst (.slice (some ⟨b,0,none⟩) 1 1)) w'):wpList P ops Q (o :: rest) a w:=by
 refine wpList_plain hg fun K hK'=>?_
 have hr:=pk (P:=P) (w:=w) (t:=t) (e:=e) hcs hl hpos hzl hn
 unfold Oper.wp execOp
 simp only [ho,List.map_toArray,List.map_cons,List.map_nil,hr,Sem.run_bind,Sem.run_pure,Result.andThen_ok,Oper.upon_value]
 exact hK' _ _ (hK _ _ (hS.box e cs) (il _ _))

theorem oL (R:Rep α) (hg:o.guard=none) {t:TypeId} (ho:o.op=.buildSlice t 0 #[]) [ht:SliceT P t E] {z:List Value} {n bytes:Nat} [hz:ElemT P E z n bytes]
  (hS:Sat w0 w Γ) (hK:∀ w' b,Sat w0 w' (Own (aA R E) [.slice (some ⟨b,0,none⟩) 0 0] [] :: Γ)→Ext w w'→wpList P ops Q rest (a.put o.dst (.slice (some ⟨b,0,none⟩) 0 0)) w'):wpList P ops Q (o :: rest) a w:=by
 refine wpList_plain hg fun K hK'=>?_
 have hz:=hz.h
 cases hi:P.info? E with
 | none=>simp [hi] at hz
 | some i =>
 have hr:(Instr.buildSlice t 0 #[]).run P w=.ok (.slice (some ⟨w.heap.size,0,none⟩) 0 0) (w.alloc (.cells #[] E)):=by
  simp [Instr.buildSlice,run_underlying ht.h,sizeOf,typeInfo,hi,Instr.fill,newRow,Array.range_zero']
 unfold Oper.wp execOp
 simp only [ho,List.map_toArray,List.map_nil,hr,Sem.run_bind,Sem.run_pure,Result.andThen_ok,Oper.upon_value]
 have hB:=hS.box E []
 refine hK' _ _ (hK _ _ (hB.conv (B:=Own (aA R E) [.slice (some ⟨w.heap.size,0,none⟩) 0 0] []) fun f hf=>?_) (il _ _))
 obtain ⟨rfl,hf⟩:=hf
 exact .inr ⟨w.heap.size,0,#[],[],[],rfl,hf,Nat.le_refl _,Nat.zero_le _,by simp,by simp,⟨rfl,rfl⟩,rfl⟩

theorem Sat.one {ec:List Value} {y:α} (h:Sat w0 w (Own R ec y :: Γ)):Sat w0 w (nh R ec [y] :: Γ) :=
 h.conv fun f hf=>⟨ec,[],f,[],by simp,by simp,hf,rfl,rfl⟩
theorem Sat.str (h:Sat w0 w Γ) (s:ByteArray) (hs:s.size≤9223372036854775807):Sat w0 w (Own hX [.string s] s :: Γ):=h.add ⟨⟨rfl,hs⟩,rfl⟩
theorem Sat.int (h:Sat w0 w Γ) (n:Int):Sat w0 w (Own cp [.int .i64 n] n :: Γ):=h.add ⟨rfl,rfl⟩
theorem Sat.pair {α β:Type} {R:Rep α} {S:Rep β} {c d:List Value} {x:α} {y:β} (h:Sat w0 w (Own R c x :: Own S d y :: Γ)):Sat w0 w (Own (mB R S) (c++d) (x,y) :: Γ) :=
 h.join fun f g h1 h2=>⟨c,d,f,g,rfl,rfl,h1,h2⟩
theorem Sat.ints {xs:List Int} (h:Sat w0 w Γ):Sat w0 w (nh cp (xs.map (Value.int .i64)) xs :: Γ):=by
 refine h.add ?_
 induction xs with
 | nil=>exact ⟨rfl,rfl⟩
 | cons x xs ih=>exact ⟨[.int .i64 x],_,[],[],rfl,rfl,⟨rfl,rfl⟩,ih⟩
end laws2
end Go.Proofs.Ytnipkopfefkojaa
namespace Go.Proofs.Ytnipkopfefkojaa
open Go.RowKit

abbrev Env:=Nat→Value
def upd (e:Env) (d:Nat) (v:Value):Env:=fun t=>bif Nat.beq t d then v else e t
def ev (e:Env):Operand→Value
 | .tmp t=>e t
 | .const v=>v
 | .global g=>.pointer (some ⟨g,0,none⟩)
 | .func f=>.func (.func f) #[] #[]
theorem lV {a b:Nat} (h:¬ a=b):Nat.beq a b=false:=by
 cases hb:Nat.beq a b
 ·rfl
 ·exact absurd (Nat.eq_of_beq_eq_true hb) h
structure Mt (n:Nat) (e:Env) (a:Act):Prop where
 size:a.tmps.size=n
 defers:a.defers=[]
 get:∀ t,a.tmps.getD t undef=e t
theorem Mt.eval {n:Nat} {e:Env} {a:Act} (h:Mt n e a):a.eval=ev e:=by
 funext x
 cases x <;> simp only [Act.eval,ev]
 exact h.get _
theorem Mt.put {n:Nat} {e:Env} {a:Act} (h:Mt n e a) {d:Nat} (hd:d<n) (v:Value):Mt n (upd e d v) (a.put (some d) v):=by
 refine ⟨by simp [Act.put,h.size],by simpa [Act.put] using h.defers,fun t=>?_⟩
 have hg:=h.get t
 have hs:=h.size
 simp only [Act.put,upd]
 by_cases ht:t=d
 ·subst ht
  simp [Array.getD,hs,hd]
 ·have:Nat.beq t d=false:=lV ht
  rw [this]
  simp only [cond_false,← hg,Array.getD,Array.size_setIfInBounds]
  split
  ·rename_i hlt
   have:=Array.getElem_setIfInBounds (xs:=a.tmps) (i:=d) (a:=v) (j:=t) (by simpa using hlt)
   rw [if_neg (fun e=>ht e.symm)] at this
   exact this
  ·rfl
theorem vE {e:Env} {d:Nat} {v:Value} (h:e d=v):upd e d v=e:=by
 funext t
 unfold upd
 by_cases ht:t=d
 ·subst ht;simp [h]
 ·have:Nat.beq t d=false:=lV ht
  rw [this];rfl
theorem keep {e e':Env} {d:Nat} {v:Value} (h:e' d=v) (h2:e=e'):e=upd e' d v:=by rw [vE h,h2]
def PV (P:Program) (o:Oper) (e:Env) (w:World) (v:Value):Prop:=∀ w',Ext w w'→(execOp (ev e) o).run P w'=.ok (.value v) w'
theorem PV.ext {P:Program} {o:Oper} {e:Env} {w w1:World} {v:Value} (h:PV P o e w v) (hx:Ext w w1):PV P o e w1 v:=fun w' h'=>h w' (hx.trans h')

def nrm (n:Nat) (K:Env→World→Prop):Exit→Act→World→Prop:=fun x a w=>x=.normal∧∃ e,Mt n e a∧K e w
def EL (P:Program) (n:Nat) (ops:Array Oper) (K:Env→World→Prop) (rest:List Oper) (e:Env) (w:World):Prop:=∀ a,Mt n e a→wpList P ops (nrm n K) rest a w
def QL (P:Program) (n:Nat) (ops:Array Oper) (w:World) (K:Env→Prop) (rest:List Oper) (e:Env):Prop:=∀ a,Mt n e a→wpQuiet P ops (fun w'=>Ext w w') (fun a'=>∃ e',Mt n e' a'∧K e') rest a

structure Goes (P:Program) (f:FuncId):Prop where
 h:∃ fn,P.funcs[f]? = some fn∧(fn.name == "runtime.NumGoroutine")=false∧fn.body.isNone=false
theorem Goes.run {P:Program} {f:FuncId} (h:Goes P f) (args:Array Value) (w:World):(callFunc f args).run P w=.ok (.enter f args) w:=by
 obtain ⟨fn,h1,h2,h3⟩:=h.h
 simp only [callFunc,Sem.run_bind,run_program,Result.andThen_ok,h1,h2,h3,Bool.false_eq_true,if_false]
 rfl

section
variable {P:Program} {n:Nat} {ops:Array Oper} {K:Env→World→Prop} {KQ:Env→Prop} {rest:List Oper} {e:Env} {w w0:World} {v:Value} {d:Nat} {op:Op} {ty:TypeId} {pos:String} {af:Array Edge} {Γ rΓ:List Asn}

theorem ah (h:K e w):EL P n ops K [] e w:=fun _ ha=>⟨rfl,e,ha,h⟩
theorem bm (h:KQ e):QL P n ops w KQ [] e:=fun _ ha=>⟨e,ha,h⟩
theorem km (hp:PV P ⟨some d,op,ty,pos,af,none⟩ e w v) (hd:d<n) (hK:EL P n ops K rest (upd e d v) w):EL P n ops K (⟨some d,op,ty,pos,af,none⟩ :: rest) e w:=by
 intro a ha
 refine wpList_plain rfl fun K' hK'=>?_
 unfold Oper.wp
 rw [ha.eval,hp w (Ext.refl w)]
 exact hK' _ _ (hK _ (ha.put hd v))
theorem nZ (hp:PV P ⟨some d,op,ty,pos,af,none⟩ e w v) (hd:d<n) (hK:QL P n ops w KQ rest (upd e d v)):QL P n ops w KQ (⟨some d,op,ty,pos,af,none⟩ :: rest) e:=by
 intro a ha
 unfold wpQuiet
 rw [if_pos (by rfl)]
 refine ⟨v,fun w' hw'=>?_,hK _ (ha.put hd v)⟩
 unfold Oper.quietAt
 rw [ha.eval,hp w' hw']
 exact ⟨rfl,rfl⟩
theorem aW {f:FuncId} {args:Array Operand} {tys:Array TypeId} {vals:Array Value} {R:Ending→World→Prop} (hg:Goes P f) (hc:Calls P f vals w R) (hv:(args.toList.map (ev e)).toArray=vals) (hd:d<n)
  (hK:∀ x w',R x w'→∃ v,x=.returned v∧EL P n ops K rest (upd e d v) w'):EL P n ops K (⟨some d,.call ⟨.value (.func f),args,tys⟩,ty,pos,af,none⟩ :: rest) e w:=by
 intro a ha
 refine wpList_plain rfl fun K' hK'=>?_
 unfold Oper.wp execOp
 have he:args.map (ev e)=vals:=by rw [← hv];apply Array.ext';simp
 simp only [ha.eval,resolve,ev,Deferred.ofValue,Sem.run_bind,Sem.run_pure,Result.andThen_ok,Array.empty_append,Array.append_empty,he,invoke,hg.run,Oper.upon_enter]
 refine hc.mono fun x w' hx=>?_
 obtain ⟨v,rfl,h⟩:=hK x w' hx
 exact hK' _ _ (h _ (ha.put hd v))
theorem cU {f:FuncId} {args:Array Operand} {tys:Array TypeId} {vals:Array Value} (v:Value) (hg:Goes P f)
  (hc:∀ w',Ext w w'→Calls P f vals w' fun x w''=>x=.returned v∧Ext w' w'') (hv:(args.toList.map (ev e)).toArray=vals) (hd:d<n)
  (hK:QL P n ops w KQ rest (upd e d v)):QL P n ops w KQ (⟨some d,.call ⟨.value (.func f),args,tys⟩,ty,pos,af,none⟩ :: rest) e:=by
 intro a ha
 unfold wpQuiet
 rw [if_pos (by rfl)]
 refine ⟨v,fun w' hw'=>?_,hK _ (ha.put hd v)⟩
 unfold Oper.quietAt execOp
 have he:args.map (ev e)=vals:=by rw [← hv];apply Array.ext';simp
 simp only [ha.eval,resolve,ev,Deferred.ofValue,Sem.run_bind,Sem.run_pure,Result.andThen_ok,Array.empty_append,Array.append_empty,he,invoke,hg.run]
 exact ⟨rfl,(hc w' hw').mono fun x w'' ⟨h1,h2⟩=>⟨h1,hw'.trans h2⟩⟩
def yld (ops:Array Oper) (e:Env) (j:Nat):Option Bool :=
 match (ops[j]?).bind (·.dst) with
 | some t=>match e t with | .bool b=>some b | _=>none
 | none=>none
theorem kI {a:Act} (ha:Mt n e a) {j:Nat} {b:Bool} (h:yld ops e j=some b):yielded ops a.tmps j=some b:=by
 unfold yld at h
 unfold yielded
 cases hj:(ops[j]?).bind (·.dst) with
 | none=>simp [hj] at h
 | some t =>
  simp only [hj] at h
  have hg:=ha.get t
  simp only [Option.bind_some]
  cases hv:e t with
  | bool c =>
   rw [hv] at h hg
   simp only [Option.some.injEq] at h
   subst h
   unfold Array.getD at hg
   split at hg
   ·rename_i hlt
    rw [Array.getElem?_eq_getElem hlt]
    have:a.tmps[t]=.bool c:=hg
    rw [this]
   ·simp [undef] at hg
  | _=>simp [hv] at h
theorem nN {a:Act} (ha:Mt n e a) {j:Nat} (h:(match (ops[j]?).bind (·.dst) with | some t=>e t | none=>undef)=undef):yielded ops a.tmps j=none:=by
 unfold yielded
 cases hj:(ops[j]?).bind (·.dst) with
 | none=>rfl
 | some t =>
  simp only [hj] at h
  have hg:=ha.get t
  rw [h] at hg
  simp only [Option.bind_some]
  cases hv:a.tmps[t]? with
  | none=>rfl
  | some v =>
   have:a.tmps.getD t undef=v:=by
    obtain ⟨h1,h2⟩:=Array.getElem?_eq_some_iff.1 hv
    simp [Array.getD,h1,h2]
   rw [this] at hg
   subst hg
   rfl
theorem yc {j:Nat} {b c:Bool} {dst:Option Nat} (h:yld ops e j=some c) (hc:c=b) (hK:EL P n ops K (⟨dst,op,ty,pos,af,none⟩ :: rest) e w):EL P n ops K (⟨dst,op,ty,pos,af,some (j,b)⟩ :: rest) e w:=by
 subst hc
 intro a ha
 have:=hK a ha
 unfold wpList at this ⊢
 rw [if_pos (by simp [Region.wanted])] at this
 rw [if_pos (by simp [Region.wanted,kI ha h])]
 exact this
theorem xA {j:Nat} {b b' c:Bool} {d:Nat} (h:yld ops e j=some c) (hc:c=b) (hb:(b == b')=false) (hd:d<n) (hK:EL P n ops K rest (upd e d undef) w):EL P n ops K (⟨some d,op,ty,pos,af,some (j,b')⟩ :: rest) e w:=by
 subst hc
 intro a ha
 unfold wpList
 rw [if_neg (by simp [Region.wanted,kI ha h];simpa using hb)]
 exact hK _ (ha.put hd _)
theorem xX {j:Nat} {b c:Bool} {dst:Option Nat} (h:yld ops e j=some c) (hc:c=b) (hK:QL P n ops w KQ (⟨dst,op,ty,pos,af,none⟩ :: rest) e):QL P n ops w KQ (⟨dst,op,ty,pos,af,some (j,b)⟩ :: rest) e:=by
 subst hc
 intro a ha
 have:=hK a ha
 unfold wpQuiet at this ⊢
 rw [if_pos (by simp [Region.wanted])] at this
 rw [if_pos (by simp [Region.wanted,kI ha h])]
 exact this
theorem xR {j:Nat} {b b' c:Bool} {d:Nat} (h:yld ops e j=some c) (hc:c=b) (hb:(b == b')=false) (hd:d<n) (hK:QL P n ops w KQ rest (upd e d undef)):QL P n ops w KQ (⟨some d,op,ty,pos,af,some (j,b')⟩ :: rest) e:=by
 subst hc
 intro a ha
 unfold wpQuiet
 rw [if_neg (by simp [Region.wanted,kI ha h];simpa using hb)]
 exact hK _ (ha.put hd _)
end

def Lf (n:Nat) (Q:Exit→Env→World→Prop):Exit→Act→World→Prop:=fun x a w=>∃ e,Mt n e a∧Q x e w
def CW (P:Program) (n:Nat) (c:Code) (Q:Exit→Env→World→Prop) (e:Env) (w:World):Prop:=∀ a,Mt n e a→c.wp P (Lf n Q) a w
def thn (K:Env→World→Prop) (Q:Exit→Env→World→Prop):Exit→Env→World→Prop
 | .normal,e,w=>K e w
 | x,e,w=>Q x e w
def inb (id:Nat) (Q:Exit→Env→World→Prop):Exit→Env→World→Prop
 | .exit id',e,w=>bif Nat.beq id' id then Q .normal e w else Q (.exit id') e w
 | x,e,w=>Q x e w
section
variable {P:Program} {n:Nat} {Q:Exit→Env→World→Prop} {K:Env→World→Prop} {e:Env} {w:World} {c x y:Code}
theorem po (h:∀ Q',(∀ x e w,Q x e w→Q' x e w)→CW P n c Q' e w):CW P n c Q e w:=h Q fun _ _ _ h=>h
theorem x7 {i:Nat} (h:Q .normal e w):inb i Q (.exit i) e w:=by
 have:Nat.beq i i=true:=by simp
 show (bif Nat.beq i i then _ else _)
 rw [this];exact h
theorem uO (h:CW P n x (thn (fun e w=>CW P n y Q e w) Q) e w):CW P n (.seq x y) Q e w:=by
 intro a ha
 refine wp_seq (wp_mono (h a ha) ?_)
 rintro x' a' w' ⟨e',he',hq⟩
 cases x' with
 | normal=>exact hq a' he'
 | _=>exact ⟨e',he',hq⟩
theorem aS (h:Q .normal e w):CW P n .skip Q e w:=fun _ ha=>wp_skip ⟨e,ha,h⟩
theorem aM {i:Nat} (h:Q (.exit i) e w):CW P n (.exit i) Q e w:=fun _ ha=>wp_exit ⟨e,ha,h⟩
theorem ak (h:Q .ret e w):CW P n .ret Q e w:=fun _ ha=>wp_ret ⟨e,ha,h⟩
theorem ue {o:Operand} {b:Bool} (hc:ev e o=.bool b) (hb:b=true) (h:CW P n x Q e w):CW P n (.cond o x y) Q e w :=
 fun a ha=>wp_cond_true (by rw [ha.eval,hc,hb]) (h a ha)
theorem vj {o:Operand} {b:Bool} (hc:ev e o=.bool b) (hb:b=false) (h:CW P n y Q e w):CW P n (.cond o x y) Q e w :=
 fun a ha=>wp_cond_false (by rw [ha.eval,hc,hb]) (h a ha)
theorem vU {i:Nat} (h:CW P n c (inb i Q) e w):CW P n (.block i c) Q e w:=by
 intro a ha
 refine wp_block (wp_mono (h a ha) ?_)
 rintro x' a' w' ⟨e',he',hq⟩
 cases x' with
 | exit id' =>
  by_cases hi:id'=i
  ·subst hi
   have:Nat.beq id' id'=true:=by simp
   have hq':(bif Nat.beq id' id' then Q .normal e' w' else Q (.exit id') e' w'):=hq
   rw [this] at hq'
   simp only [Exit.inBlock,if_true]
   exact ⟨e',he',hq'⟩
  ·have:Nat.beq id' i=false:=lV hi
   have hq':(bif Nat.beq id' i then Q .normal e' w' else Q (.exit id') e' w'):=hq
   rw [this] at hq'
   simp only [Exit.inBlock,hi,if_false]
   exact ⟨e',he',hq'⟩
 | _=>exact ⟨e',he',hq⟩
theorem ag {id:Nat} {l:List Oper} (h:EL P n l.toArray (fun e w=>Q .normal e w) l e w):CW P n (.region id l.toArray false) Q e w:=by
 intro a ha
 refine wp_mono (wp_region_lit (h a ha)) ?_
 rintro x a w ⟨rfl,e,he,hk⟩
 exact ⟨e,he,hk⟩
theorem ck {id:Nat} {l:List Oper} (hm:P.follows .mixedOrders=true) (hB:Region.lexB .any l.toArray=true) (h:QL P n l.toArray w (fun e=>∀ w',Ext w w'→Q .normal e w') l e):CW P n (.region id l.toArray true) Q e w:=by
 intro a ha
 refine wp_region_quiet (C:=fun w'=>Ext w w') hm hB ⟨rfl,rfl,rfl,Nat.le_refl _,fun _ _=>rfl⟩ ?_
 have:=h a ha
 have key:∀ (r:List Oper) (a:Act),wpQuiet P l.toArray (fun w'=>Ext w w') (fun a'=>∃ e',Mt n e' a'∧∀ w',Ext w w'→Q .normal e' w') r a→wpQuiet P l.toArray (fun w'=>Ext w w') (fun a'=>∀ w',Ext w w'→Lf n Q .normal a' w') r a:=by
  intro r
  induction r with
  | nil=>rintro a ⟨e',h1,h2⟩ w' hw';exact ⟨e',h1,h2 w' hw'⟩
  | cons o r ih =>
   intro a h
   unfold wpQuiet at h ⊢
   split
   ·rename_i hw
    rw [if_pos hw] at h
    exact Oper.quiet_mono ih h
   ·rename_i hw
    rw [if_neg hw] at h
    exact ih _ h
 exact key _ _ this
theorem wg (I:Nat→Env→World→Prop) (k0:Nat) (h0:I k0 e w)
  (hr:∀ k e w,I k e w→CW P n c (thn (fun e w=>∃ k',k'<k∧I k' e w) Q) e w):CW P n (.loop c) Q e w:=by
 intro a ha
 refine wp_loop_ghost (fun k a w=>∃ e,Mt n e a∧I k e w) k0 ⟨e,ha,h0⟩ ?_
 rintro k a w ⟨e,he,hI⟩
 refine wp_mono (hr k e w hI a he) ?_
 rintro x' a' w' ⟨e',he',hq⟩
 cases x' with
 | normal =>
  obtain ⟨k',hk',hI'⟩:=hq
  exact ⟨k',hk',e',he',hI'⟩
 | _=>exact ⟨e',he',hq⟩
theorem aJ (I:Nat→Env→World→Prop) (k0:Nat) (h0:I k0 e w) (hz:∀ e w,¬ I 0 e w)
  (hr:∀ k e w,I (k+1) e w→CW P n c (thn (fun e w=>I k e w) Q) e w):CW P n (.loop c) Q e w:=by
 refine wg I k0 h0 ?_
 intro k e w hI
 cases k with
 | zero=>exact absurd hI (hz e w)
 | succ k =>
  intro a ha
  refine wp_mono (hr k e w hI a ha) ?_
  rintro x' a' w' ⟨e',he',hq⟩
  cases x' with
  | normal=>exact ⟨e',he',k,Nat.lt_succ_self k,hq⟩
  | _=>exact ⟨e',he',hq⟩
end

def Fin (P:Program) (fn:Func) (n:Nat) (R:Ending→World→Prop):Exit→Env→World→Prop
 | .normal,e,w=>∃ v,(∀ a,Mt n e a→(results fn a.tmps).run P w=.ok v w)∧R (.returned v) w
 | .ret,e,w=>∃ v,(∀ a,Mt n e a→(results fn a.tmps).run P w=.ok v w)∧R (.returned v) w
 | _,_,_=>False
def pc:List Value→Nat→Env
 | [],_=>fun _=>undef
 | v :: l,k=>upd (pc l (k+1)) k v
theorem pS:∀ (l:List Value) (k t:Nat),pc l k t=if k≤t then l.getD (t-k) undef else undef
 | [],k,t=>by simp [pc]
 | v :: l,k,t=>by
  unfold pc upd
  by_cases h:t=k
  ·subst h;simp
  ·have hb:Nat.beq t k=false:=lV h
   rw [hb,cond_false,pS l (k+1) t]
   by_cases hk:k+1≤t
   ·rw [if_pos hk,if_pos (by omega),show t-k=(t-(k+1))+1 by omega]
    simp
   ·rw [if_neg hk]
    by_cases hk2:k≤t
    ·omega
    ·rw [if_neg hk2]
theorem aN {P:Program} {f:FuncId} {fn:Func} {c:Code} {l:List Value} {w:World} {R:Ending→World→Prop} (hf:P.funcs[f]? = some fn) (hb:fn.body=some c) {n:Nat} (hn:fn.ntmps=n) (hl:l.length≤n)
  (h:CW P n c (Fin P fn n R) (pc l 0) w):Calls P f l.toArray w R:=by
 refine calls_of_wp hf hb (wp_mono (h _ ?_) ?_)
 ·refine ⟨by simp;omega,rfl,fun t=>?_⟩
  rw [pS]
  simp only [Nat.zero_le,if_true,Nat.sub_zero,Array.getD,Array.size_append,List.size_toArray,Array.size_replicate]
  by_cases h1:t<l.length
  ·rw [dif_pos (by omega)]
   simp [h1]
  ·have h2:l.getD t undef=undef:=by simp [h1]
   rw [h2]
   split
   ·rename_i h3
    have:=Array.getElem_append_right (xs:=l.toArray) (ys:=Array.replicate (fn.ntmps-l.length) undef) (i:=t) (by simpa using h1) (h:=by simpa using h3)
    simpa using this
   ·rfl
 ·rintro x a w' ⟨e,he,hq⟩
  cases x with
  | normal=>obtain ⟨v,h1,h2⟩:=hq;exact bodyPost_end (h1 a he) he.defers h2
  | ret=>obtain ⟨v,h1,h2⟩:=hq;exact bodyPost_ret (h1 a he) he.defers h2
  | _=>exact hq.elim
end Go.Proofs.Ytnipkopfefkojaa
namespace Go.Proofs.Ytnipkopfefkojaa
open Go.RowKit

def rng (n:Int):Bool:=decide (-9223372036854775808≤n)&&decide (n≤9223372036854775807)
def ad (a b:Int):Option Int:=if rng (a+b) then some (a+b) else none
def sb (a b:Int):Option Int:=if rng (a-b) then some (a-b) else none
def ml (a b:Int):Option Int:=if rng (a*b) then some (a*b) else none
def qt (a b:Int):Option Int:=if b≠0∧rng (a.tdiv b) then some (a.tdiv b) else none
def rm (a b:Int):Option Int:=if b≠0 then some (a.tmod b) else none
def ix {α:Type} (xs:List α) (i:Int):Option α:=if 0≤i then xs[i.toNat]? else none
def bx (s:ByteArray) (i:Int):Option Int:=if 0≤i then (s[i.toNat]?).map (fun b=>(b.toNat:Int)) else none
def slc {α:Type} (xs:List α) (lo hi:Int):Option (List α):=if 0≤lo∧lo≤hi∧hi≤xs.length then some ((xs.take hi.toNat).drop lo.toNat) else none
def apd {α:Type} (bytes:Nat) (xs ys:List α):Option (List α):=if (xs.length+ys.length)*bytes≤140737488355328 then some (xs++ys) else none
def mk {α:Type} (bytes:Nat) (z:α) (n:Int):Option (List α):=if 0≤n∧n.toNat*bytes≤281474976710656∧n.toNat≤140737488355328 then some (List.replicate n.toNat z) else none
def sto {α:Type} (xs:List α) (i:Int) (y:α):Option (List α):=if 0≤i∧i.toNat<xs.length then some (xs.set i.toNat y) else none

theorem ob {α β:Type} {o:Option α} {f:α→Option β} {r:β} (h:o.bind f=some r):∃ x,o=some x∧f x=some r:=Option.bind_eq_some_iff.1 h
theorem oif {α:Type} {c:Bool} {x y:Option α} {r:α} (h:(bif c then x else y)=some r):(c=true∧x=some r)∨(c=false∧y=some r):=by
 cases c
 ·exact .inr ⟨rfl,h⟩
 ·exact .inl ⟨rfl,h⟩
theorem jj {n:Int} (h:rng n=true):IntKind.i64.wrap n=n:=by
 simp only [rng,Bool.and_eq_true,decide_eq_true_eq] at h
 exact IntWalk.i64_in n h
theorem wJ {a b c:Int} (h:ad a b=some c):rng (a+b)=true∧c=a+b:=by
 unfold ad at h;split at h
 ·exact ⟨by assumption,by simpa using h.symm⟩
 ·cases h
theorem wW {a b c:Int} (h:sb a b=some c):rng (a-b)=true∧c=a-b:=by
 unfold sb at h;split at h
 ·exact ⟨by assumption,by simpa using h.symm⟩
 ·cases h
theorem wl {a b c:Int} (h:ml a b=some c):rng (a*b)=true∧c=a*b:=by
 unfold ml at h;split at h
 ·exact ⟨by assumption,by simpa using h.symm⟩
 ·cases h
theorem fO {α:Type} {xs:List α} {i:Int} {x:α} (h:ix xs i=some x):∃ k:Nat,i=(k:Int)∧∃ h:k<xs.length,xs[k]=x:=by
 unfold ix at h
 split at h
 ·rename_i h0
  obtain ⟨h1,h2⟩:=List.getElem?_eq_some_iff.1 h
  exact ⟨i.toNat,by omega,h1,h2⟩
 ·cases h

section
variable {P:Program} {e:Env} {w w0:World} {d:Option Nat} {ty:TypeId} {pos:String} {af:Array Edge} {x y z:Operand} {Γ rΓ:List Asn}

theorem be {v:Value} (hx:ev e x=v):PV P ⟨d,.move x,ty,pos,af,none⟩ e w v:=fun w' _=>by
 unfold execOp;simp only [hx];rfl
theorem cr {v:Value} (hx:ev e x=v):PV P ⟨d,.assign x,ty,pos,af,none⟩ e w v:=fun w' _=>by
 unfold execOp;simp only [hx];rfl
theorem aw {b:Bool} {v:Value} (hx:ev e x=.bool b) (hb:b=true) (hy:ev e y=v):PV P ⟨d,.pick x y z,ty,pos,af,none⟩ e w v:=fun w' _=>by
 unfold execOp;subst hb;simp [hx,hy,asBool]
theorem az {b:Bool} {v:Value} (hx:ev e x=.bool b) (hb:b=false) (hz:ev e z=v):PV P ⟨d,.pick x y z,ty,pos,af,none⟩ e w v:=fun w' _=>by
 unfold execOp;subst hb;simp [hx,hz,asBool]
theorem bk {t:TypeId} {b:Bool} (hx:ev e x=.bool b):PV P ⟨d,.unOp .not t x,ty,pos,af,none⟩ e w (.bool (!b)):=fun w' _=>by
 unfold execOp;simp [hx,Op.unary]
section
variable {t u:TypeId} {a b c:Int}
theorem aE (hx:ev e x=.int .i64 a) (hy:ev e y=.int .i64 b) (h:ad a b=some c):PV P ⟨d,.binOp .add t x y u,ty,pos,af,none⟩ e w (.int .i64 c):=fun w' _=>by
 obtain ⟨h1,rfl⟩:=wJ h
 unfold execOp;simp [hx,hy,eqGuard,binOp,Op.intArith,jj h1]
theorem c9 (hx:ev e x=.int .i64 a) (hy:ev e y=.int .i64 b) (h:sb a b=some c):PV P ⟨d,.binOp .sub t x y u,ty,pos,af,none⟩ e w (.int .i64 c):=fun w' _=>by
 obtain ⟨h1,rfl⟩:=wW h
 unfold execOp;simp [hx,hy,eqGuard,binOp,Op.intArith,jj h1]
theorem pg (hx:ev e x=.int .i64 a) (hy:ev e y=.int .i64 b) (h:ml a b=some c):PV P ⟨d,.binOp .mul t x y u,ty,pos,af,none⟩ e w (.int .i64 c):=fun w' _=>by
 obtain ⟨h1,rfl⟩:=wl h
 unfold execOp;simp [hx,hy,eqGuard,binOp,Op.intArith,jj h1]
theorem ro (hx:ev e x=.int .i64 a) (hy:ev e y=.int .i64 b) (h:qt a b=some c):PV P ⟨d,.binOp .quo t x y u,ty,pos,af,none⟩ e w (.int .i64 c):=fun w' _=>by
 unfold qt at h;split at h
 ·rename_i h1
  obtain rfl:=Option.some.inj h
  unfold execOp;simp [hx,hy,eqGuard,binOp,Op.intDiv,h1.1,jj h1.2]
 ·cases h
theorem tQ (hx:ev e x=.int .i64 a) (hy:ev e y=.int .i64 b) (h:rm a b=some c):PV P ⟨d,.binOp .rem t x y u,ty,pos,af,none⟩ e w (.int .i64 c):=fun w' _=>by
 unfold rm at h;split at h
 ·rename_i h1
  obtain rfl:=Option.some.inj h
  unfold execOp;simp [hx,hy,eqGuard,binOp,Op.intDiv,h1]
 ·cases h
theorem pw {k:IntKind} (hx:ev e x=.int k a) (hy:ev e y=.int k b):PV P ⟨d,.binOp .add t x y u,ty,pos,af,none⟩ e w (.int k (k.wrap (a+b))):=fun w' _=>by
 unfold execOp;simp [hx,hy,eqGuard,binOp,Op.intArith]
theorem wL {k:IntKind} (hx:ev e x=.int k a) (hy:ev e y=.int k b):PV P ⟨d,.binOp .mul t x y u,ty,pos,af,none⟩ e w (.int k (k.wrap (a*b))):=fun w' _=>by
 unfold execOp;simp [hx,hy,eqGuard,binOp,Op.intArith]
theorem bK {k:IntKind} (hx:ev e x=.int k a) (hy:ev e y=.int k b):PV P ⟨d,.binOp .eql t x y u,ty,pos,af,none⟩ e w (.bool (a == b)):=fun w' _=>by
 unfold execOp;simp [hx,hy,eqGuard,binOp,Op.intCmp]
theorem cY {k:IntKind} (hx:ev e x=.int k a) (hy:ev e y=.int k b):PV P ⟨d,.binOp .neq t x y u,ty,pos,af,none⟩ e w (.bool (a != b)):=fun w' _=>by
 unfold execOp;simp [hx,hy,eqGuard,binOp,Op.intCmp]
theorem aU {k:IntKind} (hx:ev e x=.int k a) (hy:ev e y=.int k b):PV P ⟨d,.binOp .lss t x y u,ty,pos,af,none⟩ e w (.bool (decide (a<b))):=fun w' _=>by
 unfold execOp;simp [hx,hy,eqGuard,binOp,Op.intCmp]
theorem iF {k:IntKind} (hx:ev e x=.int k a) (hy:ev e y=.int k b):PV P ⟨d,.binOp .leq t x y u,ty,pos,af,none⟩ e w (.bool (decide (a≤b))):=fun w' _=>by
 unfold execOp;simp [hx,hy,eqGuard,binOp,Op.intCmp]
theorem bp {k:IntKind} (hx:ev e x=.int k a) (hy:ev e y=.int k b):PV P ⟨d,.binOp .gtr t x y u,ty,pos,af,none⟩ e w (.bool (decide (b<a))):=fun w' _=>by
 unfold execOp;simp [hx,hy,eqGuard,binOp,Op.intCmp]
theorem c3 {k:IntKind} (hx:ev e x=.int k a) (hy:ev e y=.int k b):PV P ⟨d,.binOp .geq t x y u,ty,pos,af,none⟩ e w (.bool (decide (b≤a))):=fun w' _=>by
 unfold execOp;simp [hx,hy,eqGuard,binOp,Op.intCmp]
end
def eqS (s r:ByteArray):Bool:=s.toList == r.toList
def ltS (s r:ByteArray):Bool:=Op.bytesLess s.toList r.toList
section
variable {t u:TypeId} {s r:ByteArray}
theorem kM (hx:ev e x=.string s) (hy:ev e y=.string r):PV P ⟨d,.binOp .eql t x y u,ty,pos,af,none⟩ e w (.bool (eqS s r)):=fun w' _=>by
 unfold execOp eqS;simp [hx,hy,eqGuard,binOp,Op.stringOp]
theorem wM (hx:ev e x=.string s) (hy:ev e y=.string r):PV P ⟨d,.binOp .neq t x y u,ty,pos,af,none⟩ e w (.bool (!(eqS s r))):=fun w' _=>by
 unfold execOp eqS;simp [hx,hy,eqGuard,binOp,Op.stringOp]
theorem sM (hx:ev e x=.string s) (hy:ev e y=.string r):PV P ⟨d,.binOp .geq t x y u,ty,pos,af,none⟩ e w (.bool (!(ltS s r))):=fun w' _=>by
 unfold execOp ltS;simp [hx,hy,eqGuard,binOp,Op.stringOp]
end
theorem vP (k:Nat) {t:TypeId} (ht:P.underlying t=some .bool) (a b:Bool) (w:World):(Op.equalIn (k+1) t (.bool a) (.bool b)).run P w=.ok (a == b) w:=by
 simp only [Op.equalIn,Sem.run_bind,run_underlying ht,Result.andThen_ok,Sem.run_pure]
theorem wz {t:TypeId} (ht:P.underlying t=some .bool) (a b:Bool) (w:World):(Op.equal t (.bool a) (.bool b)).run P w=.ok (a == b) w:=vP 9999 ht a b w
theorem wj {t u:TypeId} {a b:Bool} (ht:P.underlying t=some .bool) (hx:ev e x=.bool a) (hy:ev e y=.bool b):PV P ⟨d,.binOp .neq t x y u,ty,pos,af,none⟩ e w (.bool (a != b)):=fun w' _=>by
 have h1:(eqGuard .neq t x y (.bool a) (.bool b)).run P w'=.ok () w':=by simp [eqGuard]
 have h2:(binOp .neq t (.bool a) (.bool b)).run P w'=.ok (.bool (a != b)) w':=by
  show (do pure (.bool (!(← Op.equal t (.bool a) (.bool b)))):Sem Value).run P w'=_
  simp only [Sem.run_bind,wz ht,Result.andThen_ok,Sem.run_pure]
  rfl
 unfold execOp
 simp only [hx,hy,Sem.run_bind,h1,h2,Result.andThen_ok,Sem.run_pure]
theorem aH {k:Nat} {vs:Array Value} {v:Value} (hx:ev e x=.tuple vs) (h:vs[k]? = some v):PV P ⟨d,.extract x k,ty,pos,af,none⟩ e w v:=fun w' _=>by
 unfold execOp;simp [hx,Instr.extract,h]
theorem rL {s t:TypeId} {k k2:IntKind} {a:Int} {u:TypeDesc} (hs:P.underlying s=some u) (ht:P.underlying t=some (.int k2)) (hx:ev e x=.int k a):PV P ⟨d,.convert s t x,ty,pos,af,none⟩ e w (.int k2 (k2.wrap a)):=fun w' _=>by
 unfold execOp;simp [hx,convert,run_underlying ht,run_underlying hs,Conv.intToInt]
theorem jt {t:TypeId} {s:ByteArray} (ht:P.underlying t=some .string) (hx:ev e x=.string s):PV P ⟨d,.call ⟨.builtin .len,#[x],#[t]⟩,ty,pos,af,none⟩ e w (.int .i64 s.size):=fun w' _=>by
 unfold execOp;simp [resolve,invoke,builtin,hx,Builtin.len_,run_underlying ht,goInt]
def imx (a b:Int):Int:=if a<b then b else a
theorem eh {p:Addr} (hx:ev e x=.pointer (some p)):PV P ⟨d,.nilCheck x,ty,pos,af,none⟩ e w (.pointer (some p)):=fun w' _=>by
 unfold execOp;simp [hx]
theorem xG {t t2:TypeId} {a b:Int} (hx:ev e x=.int .i64 a) (hy:ev e y=.int .i64 b):PV P ⟨d,.call ⟨.builtin .max,#[x,y],#[t,t2]⟩,ty,pos,af,none⟩ e w (.int .i64 (imx a b)):=fun w' _=>by
 unfold execOp imx;simp [resolve,invoke,builtin,hx,hy,Builtin.max_,Builtin.max2]
theorem oV {t:TypeId} {s:ByteArray} {i:Int} {k:IntKind} {b:Int} (ht:P.underlying t=some .string) (hx:ev e x=.string s) (hy:ev e y=.int k i) (h:bx s i=some b):PV P ⟨d,.index t x y,ty,pos,af,none⟩ e w (.int .u8 b):=fun w' _=>by
 unfold bx at h
 split at h
 ·rename_i h0
  cases hb:s[i.toNat]? with
  | none=>simp [hb] at h
  | some c =>
   simp [hb] at h;subst h
   unfold execOp;simp [hx,hy,Instr.index,asIntOf,run_underlying ht,h0,hb]
 ·cases h
class FldT (P:Program) (t:TypeId) (k:Nat) (off:outParam Nat):Prop where
 h:∃ fs f,P.underlying t=some (.struct fs)∧fs[k]? = some f∧f.offset=off∧((P.info? f.type).map fun i=>Nat.beq i.size 0)=some false
theorem ac {t:TypeId} {k off b o:Nat} [ht:FldT P t k off] (hx:ev e x=.pointer (some ⟨b,o,none⟩)):PV P ⟨d,.fieldAddr t x k,ty,pos,af,none⟩ e w (.pointer (some ⟨b,o+off,none⟩)):=fun w' _=>by
 obtain ⟨fs,f,h1,h2,h3,h4⟩:=ht.h
 cases hi:P.info? f.type with
 | none=>simp [hi] at h4
 | some i =>
  have h5:¬ i.size=0:=by
   intro e0
   simp [hi,e0] at h4
  unfold execOp
  simp [hx,Instr.fieldAt,run_underlying h1,h2,Instr.sureAddr,fieldPlace,sizeOf,typeInfo,hi,h5,h3,Addr.add_lit]
theorem rq {w w':World} {p:Addr} {c:Value} (hE:Ext w w') (h:w.cell? p=some c):w'.cell? p=some c:=by rw [hE.cell (block_lt_of_cell h)];exact h
theorem ap {w w':World} {b off:Nat} {ec:List Value} (hE:Ext w w') (h:∀ j c,ec[j]? = some c→w.cell? ⟨b,off+j,none⟩=some c):∀ j c,ec[j]? = some c→w'.cell? ⟨b,off+j,none⟩=some c :=
 fun j c hj=>rq hE (h j c hj)
theorem ae {t:TypeId} [PlainT P t] {p:Addr} {c:Value} (hx:ev e x=.pointer (some p)) (hc:w.cell? p=some c):PV P ⟨d,.load t x,ty,pos,af,none⟩ e w c:=fun w' hw'=>by
 unfold execOp
 simp only [hx,Instr.loadAt,Instr.sureAddr,Sem.run_bind,Sem.run_pure,Result.andThen_ok,n6 (rq hw' hc)]
theorem au {t:TypeId} {n b off:Nat} [AggT P t n] {cs:List Value} (hx:ev e x=.pointer (some ⟨b,off,none⟩)) (hn:cs.length=n) (hc:∀ j c,cs[j]? = some c→w.cell? ⟨b,off+j,none⟩=some c) :
  PV P ⟨d,.load t x,ty,pos,af,none⟩ e w (.agg cs.toArray):=fun w' hw'=>by
 unfold execOp
 simp only [hx,Instr.loadAt,Instr.sureAddr,Sem.run_bind,Sem.run_pure,Result.andThen_ok,fo hn (ap hw' hc)]
theorem ax {α:Type} {R:Rep α} {E E':TypeId} {t:TypeId} [ht:SliceT P t E'] {wA:World} {v:Value} {xs:List α} (hx:ev e x=v) (hr:(aA R E).rd wA [v] xs) :
  PV P ⟨d,.call ⟨.builtin .len,#[x],#[t]⟩,ty,pos,af,none⟩ e w (.int .i64 xs.length):=fun w' _=>by
 obtain ⟨ao,cap,rfl⟩:=q7 hr
 unfold execOp;simp [resolve,invoke,builtin,hx,Builtin.len_,run_underlying ht.h,goInt]
theorem ot {α:Type} {R:Rep α} {E E':TypeId} {t:TypeId} [ht:SliceT P t E'] {zz:List Value} {n bytes:Nat} [hz:ElemT P E' zz n bytes] {wA:World} {v:Value} {xs:List α} (hs:ev e x=v) (hr:(aA R E).rd wA [v] xs)
  (hn:R.sz=n) (hpos:0<n) {k:IntKind} {i:Int} (hi:ev e y=.int k i) {u:α} (h:ix xs i=some u) :
  ∃ b off ec,R.rd wA ec u∧(∀ j c,ec[j]? = some c→wA.cell? ⟨b,off+j,none⟩=some c)∧∀ w,PV P ⟨d,.indexAddr t x y,ty,pos,af,none⟩ e w (.pointer (some ⟨b,off,none⟩)):=by
 obtain ⟨k',rfl,hk,rfl⟩:=fO h
 obtain ⟨ao,cap,ccs,hv,h1,h2,h3,h4,h5⟩:=hr
 obtain rfl:v=.slice ao xs.length cap:=by simpa using hv
 obtain ⟨ec,hec,hcc⟩:=kW h4 k' hk
 have hz:=hz.h
 have hlen:=fj h4
 cases hq:P.info? E' with
 | none=>simp [hq] at hz
 | some inf =>
  simp [hq] at hz
  obtain ⟨b,off,rfl,hc⟩:∃ b off,ao=some ⟨b,off,none⟩∧∀ j c,ccs[j]? = some c→wA.cell? ⟨b,off+j,none⟩=some c:=by
   rcases h5 with rfl | ⟨b,off,rfl,hc⟩
   ·have:0<xs.length*R.sz:=Nat.mul_pos (by omega) (by omega)
    simp at hlen
    omega
   ·exact ⟨b,off,rfl,hc⟩
  have hsz:inf.size=R.sz:=by rw [hn];exact hz.2.1
  refine ⟨b,off+k'*R.sz,ec,hec,fun j c hj=>by rw [Nat.add_assoc];exact hc _ _ (hcc j c hj),fun w w' _=>?_⟩
  unfold execOp
  simp [hs,hi,Instr.indexAt,asIntOf,run_underlying ht.h,sizeOf,typeInfo,hq,hk,Addr.add_lit,hsz]
end

section
variable {P:Program} {n:Nat} {ops:Array Oper} {K:Env→World→Prop} {KQ:Env→Prop} {rest:List Oper} {e:Env} {w w0 wA:World} {v:Value} {d:Nat} {ty:TypeId} {pos:String} {af:Array Edge} {Γ rΓ:List Asn} {x y:Operand} {α:Type} {R:Rep α} {E E':TypeId}
theorem aI {t:TypeId} [SliceT P t E'] {zz:List Value} {m bytes:Nat} [ElemT P E' zz m bytes] {xs:List α} (hs:ev e x=v) (hr:(aA R E).rd wA [v] xs)
  (hn:R.sz=m) (hpos:0<m) {k:IntKind} {i:Int} (hi:ev e y=.int k i) {u:α} (h:ix xs i=some u) (hd:d<n)
  (hK:∀ b off ec,R.rd wA ec u→(∀ j c,ec[j]? = some c→wA.cell? ⟨b,off+j,none⟩=some c)→EL P n ops K rest (upd e d (.pointer (some ⟨b,off,none⟩))) w):EL P n ops K (⟨some d,.indexAddr t x y,ty,pos,af,none⟩ :: rest) e w:=by
 obtain ⟨b,off,ec,h1,h2,h3⟩:=ot (P:=P) (d:=some d) (ty:=ty) (pos:=pos) (af:=af) (t:=t) hs hr hn hpos hi h
 exact km (h3 _) hd (hK b off ec h1 h2)
theorem bl {t:TypeId} [SliceT P t E'] {zz:List Value} {m bytes:Nat} [ElemT P E' zz m bytes] {xs:List α} (hs:ev e x=v) (hr:(aA R E).rd wA [v] xs)
  (hn:R.sz=m) (hpos:0<m) {k:IntKind} {i:Int} (hi:ev e y=.int k i) {u:α} (h:ix xs i=some u) (hd:d<n)
  (hK:∀ b off ec,R.rd wA ec u→(∀ j c,ec[j]? = some c→wA.cell? ⟨b,off+j,none⟩=some c)→QL P n ops w KQ rest (upd e d (.pointer (some ⟨b,off,none⟩)))):QL P n ops w KQ (⟨some d,.indexAddr t x y,ty,pos,af,none⟩ :: rest) e:=by
 obtain ⟨b,off,ec,h1,h2,h3⟩:=ot (P:=P) (d:=some d) (ty:=ty) (pos:=pos) (af:=af) (t:=t) hs hr hn hpos hi h
 exact nZ (h3 _) hd (hK b off ec h1 h2)
theorem bv {t:TypeId} (cs:List Value) (hx:(ev e x).cells=cs.toArray) (hS:Sat w0 w Γ) (hd:d<n)
  (hK:∀ w' b,Sat w0 w' (Box b t cs :: Γ)→Ext w w'→EL P n ops K rest (upd e d (.pointer (some ⟨b,0,none⟩))) w'):EL P n ops K (⟨some d,.box t x,ty,pos,af,none⟩ :: rest) e w :=
 fun a ha=>wD rfl rfl cs (by rw [ha.eval];exact hx) hS fun w' b h1 h2=>hK w' b h1 h2 _ (ha.put hd _)
theorem aF {t:TypeId} {cs:List Value} {m bytes:Nat} [ElemT P t cs m bytes] (hS:Sat w0 w Γ) (hd:d<n)
  (hK:∀ w' b,Sat w0 w' (Box b t cs :: Γ)→Ext w w'→EL P n ops K rest (upd e d (.pointer (some ⟨b,0,none⟩))) w'):EL P n ops K (⟨some d,.alloc t,ty,pos,af,none⟩ :: rest) e w :=
 fun _ ha=>un rfl rfl hS fun w' b h1 h2=>hK w' b h1 h2 _ (ha.put hd _)
theorem aj {t:TypeId} {z:List Value} {m bytes:Nat} [ElemT P t z m bytes] (hS:Sat w0 w Γ) {b j:Nat} (hx:ev e x=.pointer (some ⟨b,j,none⟩))
  {E:TypeId} {cs:List Value} [AtBox Γ b E cs rΓ] (vs:List Value) (hy:(ev e y).cells=vs.toArray) (hn:vs.length=m) (hl:j+m≤cs.length) (h1:vs.all (·.oneCell')=true)
  (hK:∀ w',Sat w0 w' (Box b E (cs.take j++vs++cs.drop (j+m)) :: rΓ)→EL P n ops K rest e w'):EL P n ops K (⟨none,.store t x y,ty,pos,af,none⟩ :: rest) e w :=
 fun _ ha=>sZ rfl rfl hS (by rw [ha.eval];exact hx) vs (by rw [ha.eval];exact hy) hn hl h1 fun w' h1=>hK w' h1 _ ha
theorem uW {t:TypeId} {z:List Value} {m bytes:Nat} [ElemT P t z m bytes] (hn:R.sz=m) {ec:List Value} {yv:α} {xs ys:List α} {g ln cap:Nat}
  (hS:Sat w0 w (Own R ec yv :: Own (aA R E) [.slice (some ⟨g,0,none⟩) ln cap] xs :: Γ)) (k off:Nat) {i:Int} (hi:i=(k:Int)) (h:sto xs i yv=some ys) (hoff:off=k*m) (hx:ev e x=.pointer (some ⟨g,off,none⟩)) (hy:(ev e y).cells=ec.toArray)
  (hK:∀ w',Sat w0 w' (Own (aA R E) [.slice (some ⟨g,0,none⟩) ln cap] ys :: Γ)→EL P n ops K rest e w'):EL P n ops K (⟨none,.store t x y,ty,pos,af,none⟩ :: rest) e w:=by
 intro a ha
 subst hi
 unfold sto at h
 split at h
 ·rename_i h0
  obtain rfl:=Option.some.inj h
  simp only [Int.toNat_natCast] at h0 hK
  exact tp rfl rfl hn hS k off h0.2 hoff (by rw [ha.eval];exact hx) (by rw [ha.eval];exact hy) fun w' h1=>hK w' h1 _ ha
 ·cases h
theorem aC {t:TypeId} [SliceT P t E] {z:List Value} {m bytes:Nat} [ElemT P E z m bytes] (hn:R.sz=m) (hpos:0<m) (hzl:z.length=m) (hb0:0<bytes)
  {xs:List α} {ccs:List Value} {ys zs:List α} (hS:Sat w0 w (nh R ccs ys :: Own (aA R E) [v] xs :: Γ)) (hs:ev e x=v)
  {ao:Option Addr} {ln c:Nat} (hx:ev e y=.slice ao ln c) (hm:ln=ys.length) (hnone:ao=none→c=0) (hrow:mN w ao ccs) (h:apd bytes xs ys=some zs) (hd:d<n)
  (hK:∀ w' v',Sat w0 w' (Own (aA R E) [v'] zs :: Γ)→EL P n ops K rest (upd e d v') w'):EL P n ops K (⟨some d,.call ⟨.builtin .append,#[x,y],#[t,t]⟩,ty,pos,af,none⟩ :: rest) e w:=by
 intro a ha
 unfold apd at h
 split at h
 ·rename_i hby
  obtain rfl:=Option.some.inj h
  exact tC rfl rfl hn hpos hzl hb0 hS (by rw [ha.eval];exact hs) (by rw [ha.eval];exact hx) hm hnone hrow hby fun v' w' h1=>hK w' v' h1 _ (ha.put hd _)
 ·cases h
theorem sA {t:TypeId} [SliceT P t E] {z:List Value} {m bytes:Nat} [ElemT P E z m bytes] (hn:R.sz=m) (hpos:0<m) (hzl:z.length=m) {x0:α} (hx0:∀ w,R.own w z x0 []) {i:Int} {xs:List α}
  (hl:ev e x=.int .i64 i) (hc:ev e y=.int .i64 i) (h:mk bytes x0 i=some xs) (hS:Sat w0 w Γ) (hd:d<n)
  (hK:∀ w' g k,Sat w0 w' (Own (aA R E) [.slice (some ⟨g,0,none⟩) k k] xs :: Γ)→Ext w w'→xs.length=k→EL P n ops K rest (upd e d (.slice (some ⟨g,0,none⟩) k k)) w'):EL P n ops K (⟨some d,.makeSlice t x y,ty,pos,af,none⟩ :: rest) e w:=by
 intro a ha
 unfold mk at h
 split at h
 ·rename_i h0
  obtain rfl:=Option.some.inj h
  exact vt rfl rfl hn hpos hzl hx0 (by rw [ha.eval];exact hl) (by rw [ha.eval];exact hc) i.toNat (by omega) (by omega) h0.2.1 h0.2.2 hS fun w' g h1 h2=>hK w' g _ h1 h2 (by simp) _ (ha.put hd _)
 ·cases h
theorem aq {t u:TypeId} [SliceT P t u] {z:List Value} {m bytes:Nat} [ElemT P u z m bytes] (cs:List Value) (hcs:(ev e x).cells=cs.toArray) (hl:cs.length=m) (hpos:0<m) (hzl:z.length=m) (hn:m≤16)
  (hS:Sat w0 w Γ) (hd:d<n) (hK:∀ w' b,Sat w0 w' (Box b u cs :: Γ)→Ext w w'→EL P n ops K rest (upd e d (.slice (some ⟨b,0,none⟩) 1 1)) w'):EL P n ops K (⟨some d,.buildSlice t 1 #[(0,x)],ty,pos,af,none⟩ :: rest) e w :=
 fun _ ha=>o0 rfl rfl (by rw [ha.eval];exact hcs) hl hpos hzl hn hS fun w' b h1 h2=>hK w' b h1 h2 _ (ha.put hd _)
theorem bi (R:Rep α) {t:TypeId} [SliceT P t E] {z:List Value} {m bytes:Nat} [ElemT P E z m bytes] (hS:Sat w0 w Γ) (hd:d<n)
  (hK:∀ w' v,Sat w0 w' (Own (aA R E) [v] [] :: Γ)→Ext w w'→EL P n ops K rest (upd e d v) w'):EL P n ops K (⟨some d,.buildSlice t 0 #[],ty,pos,af,none⟩ :: rest) e w :=
 fun _ ha=>oL R rfl rfl hS fun w' b h1 h2=>hK w' _ h1 h2 _ (ha.put hd _)
theorem ow {t:TypeId} {lo hi:Option Operand} [ht:SliceT P t E'] {z:List Value} {m bytes:Nat} [hz:ElemT P E' z m bytes] (hn:R.sz=m) {d:Option Nat}
    (hx:ev e x=v) {xs ys:List α} (hr:(aA R E).rd wA [v] xs) {l h:Int} (hlo:(lo.map (ev e)=some (.int .i64 l))∨(lo=none∧l=0)) (hhi:(hi.map (ev e)=some (.int .i64 h))∨(hi=none∧h=xs.length)) (hq:slc xs l h=some ys) :
    ∃ v',(aA R E).rd wA [v'] ys∧∀ w,PV P ⟨d,.slice t x lo hi none,ty,pos,af,none⟩ e w v':=by
  unfold slc at hq
  split at hq
  case isFalse=>cases hq
  rename_i h0
  obtain rfl:=Option.some.inj hq
  obtain ⟨l',rfl⟩:=Int.eq_ofNat_of_zero_le h0.1
  obtain ⟨h',rfl⟩:=Int.eq_ofNat_of_zero_le (Int.le_trans h0.1 h0.2.1)
  obtain ⟨_,hlh,hh⟩:=h0
  replace hlh:l'≤h':=by omega
  replace hh:h'≤xs.length:=by omega
  simp only [Int.toNat_natCast]
  obtain ⟨ao,cap,ccs,hv,h1,h2,h3,h4,h5⟩:=hr
  obtain rfl:v=.slice ao xs.length cap:=by simpa using hv
  have hz:=hz.h
  cases hq:P.info? E' with
  | none=>simp [hq] at hz
  | some inf =>
    simp [hq] at hz
    have hcap:h'≤cap:=by omega
    have hsz:inf.size=R.sz:=by rw [hn];exact hz.2.1
    have hlen:((xs.take h').drop l').length=h' - l':=by simp;omega
    have hccl:=fj h4
    have hrd:=(kw l' (kw h' h4).1).2
    refine ⟨.slice (if cap=l' then ao else ao.map (·.add (l'*inf.size))) (h' - l') (cap-l'),⟨_,cap-l',_,by rw [hlen],by rw [hlen];omega,by omega,?_,hrd,?_⟩,fun w w' _=>?_⟩
    · intro e
      split at e
      · omega
      · cases ao with
        | none=>have:=h3 rfl;omega
        | some _=>simp at e
    · by_cases hcl:cap=l'
      · left
        have:h'=l':=by omega
        subst this
        apply List.eq_nil_of_length_eq_zero
        simp
      · rw [if_neg hcl]
        rcases h5 with rfl | ⟨b,off,rfl,h5⟩
        · left;simp
        · right
          refine ⟨b,off+l'*R.sz,by rw [hsz];simp [Addr.add_lit],fun j c hj=>?_⟩
          rw [List.getElem?_drop,List.getElem?_take] at hj
          split at hj
          · rw [Nat.add_assoc];exact h5 _ c hj
          · cases hj
    · have hb:(Instr.sliceBounds true xs.length cap (lo.map (ev e)) (hi.map (ev e)) none).run P w'=.ok (l',h',cap) w':=by
        rcases hlo with e1 | ⟨e1,e1'⟩ <;> rcases hhi with e2 | ⟨e2,e2'⟩
        all_goals
          (try rw [e1]);(try rw [e2])
          first
            | (simp [Instr.sliceBounds,Instr.sliceBound,asIntOf,hcap,hlh];done)
            | (have:l'=0:=by omega
               subst this
               simp [Instr.sliceBounds,Instr.sliceBound,asIntOf,hcap,hlh];done)
            | (have:h'=xs.length:=by omega
               subst this
               simp [Instr.sliceBounds,Instr.sliceBound,asIntOf,hcap,hlh];done)
            | (have:l'=0:=by omega
               have:h'=xs.length:=by omega
               subst_vars
               simp [Instr.sliceBounds,Instr.sliceBound,asIntOf])
      unfold execOp
      simp only [hx,Instr.sliceAt,Sem.run_bind,run_underlying ht.h,Result.andThen_ok,Instr.slice,hb,sizeOf,typeInfo,hq,run_program,Sem.run_pure,Option.map_none]
theorem eq {t:TypeId} {lo hi:Option Operand} [SliceT P t E'] {z:List Value} {m bytes:Nat} [ElemT P E' z m bytes] (hn:R.sz=m)
  (hx:ev e x=v) {xs ys:List α} (hr:(aA R E).rd wA [v] xs) {l h:Int} (hlo:(lo.map (ev e)=some (.int .i64 l))∨(lo=none∧l=0)) (hhi:(hi.map (ev e)=some (.int .i64 h))∨(hi=none∧h=xs.length)) (hq:slc xs l h=some ys) (hd:d<n)
  (hK:∀ v',(aA R E).rd wA [v'] ys→EL P n ops K rest (upd e d v') w):EL P n ops K (⟨some d,.slice t x lo hi none,ty,pos,af,none⟩ :: rest) e w:=by
 obtain ⟨v',h1,h2⟩:=ow (P:=P) (d:=some d) (ty:=ty) (pos:=pos) (af:=af) (t:=t) hn hx hr hlo hhi hq
 exact km (h2 _) hd (hK v' h1)
theorem vI {t:TypeId} {lo hi:Option Operand} [SliceT P t E'] {z:List Value} {m bytes:Nat} [ElemT P E' z m bytes] (hn:R.sz=m)
  (hx:ev e x=v) {xs ys:List α} (hr:(aA R E).rd wA [v] xs) {l h:Int} (hlo:(lo.map (ev e)=some (.int .i64 l))∨(lo=none∧l=0)) (hhi:(hi.map (ev e)=some (.int .i64 h))∨(hi=none∧h=xs.length)) (hq:slc xs l h=some ys) (hd:d<n)
  (hK:∀ v',(aA R E).rd wA [v'] ys→QL P n ops w KQ rest (upd e d v')):QL P n ops w KQ (⟨some d,.slice t x lo hi none,ty,pos,af,none⟩ :: rest) e:=by
 obtain ⟨v',h1,h2⟩:=ow (P:=P) (d:=some d) (ty:=ty) (pos:=pos) (af:=af) (t:=t) hn hx hr hlo hhi hq
 exact nZ (h2 _) hd (hK v' h1)
end
section
variable {P:Program} {fn:Func} {n:Nat} {e:Env} {w:World} {R:Ending→World→Prop}
theorem aL {t:Tmp} (h:fn.results=#[.tmp t]) {v:Value} (ht:e t=v) (hR:R (.returned v) w):Fin P fn n R .ret e w :=
 ⟨v,fun a ha=>by rw [results_tmp h,ha.get,ht],hR⟩
theorem vu {t u:Tmp} (h:fn.results=#[.tmp t,.tmp u]) {v v2:Value} (ht:e t=v) (hu:e u=v2) (hR:R (.returned (.tuple #[v,v2])) w):Fin P fn n R .ret e w :=
 ⟨_,fun a ha=>by rw [results_tmp2 h,ha.get,ha.get,ht,hu],hR⟩
theorem dg {p:Tmp} {ty:TypeId} {m:Nat} [AggT P ty m] (h:fn.results=#[.cell p ty]) {b off:Nat} {cs:List Value} (hp:e p=.pointer (some ⟨b,off,none⟩)) (hm:cs.length=m) (hc:∀ j c,cs[j]? = some c→w.cell? ⟨b,off+j,none⟩=some c) (hR:R (.returned (.agg cs.toArray)) w) :
  Fin P fn n R .ret e w:=by
 refine ⟨_,fun a ha=>?_,hR⟩
 have h1:a.tmps.getD p undef=.pointer (some ⟨b,off,none⟩):=by rw [ha.get,hp]
 have h1':a.tmps[p]?.getD undef=.pointer (some ⟨b,off,none⟩):=by simpa using h1
 simp [results,h,h1',asAddr,fo (P:=P) (t:=ty) hm hc]
theorem cT {p t:Tmp} {ty:TypeId} {m:Nat} [AggT P ty m] (h:fn.results=#[.cell p ty,.tmp t]) {b off:Nat} {cs:List Value} {v2:Value} (hp:e p=.pointer (some ⟨b,off,none⟩)) (hm:cs.length=m) (hc:∀ j c,cs[j]? = some c→w.cell? ⟨b,off+j,none⟩=some c) (ht:e t=v2) (hR:R (.returned (.tuple #[.agg cs.toArray,v2])) w) :
  Fin P fn n R .ret e w:=by
 refine ⟨_,fun a ha=>?_,hR⟩
 have h1:a.tmps.getD p undef=.pointer (some ⟨b,off,none⟩):=by rw [ha.get,hp]
 have h1':a.tmps[p]?.getD undef=.pointer (some ⟨b,off,none⟩):=by simpa using h1
 have h2:a.tmps.getD t undef=v2:=by rw [ha.get,ht]
 have h2':a.tmps[t]?.getD undef=v2:=by simpa using h2
 simp [results,h,h1',h2',asAddr,fo (P:=P) (t:=ty) hm hc]
theorem lW {p t u:Tmp} {ty:TypeId} {m:Nat} [AggT P ty m] (h:fn.results=#[.cell p ty,.tmp t,.tmp u]) {b off:Nat} {cs:List Value} {v2 v3:Value} (hp:e p=.pointer (some ⟨b,off,none⟩)) (hm:cs.length=m) (hc:∀ j c,cs[j]? = some c→w.cell? ⟨b,off+j,none⟩=some c) (ht:e t=v2) (hu:e u=v3) (hR:R (.returned (.tuple #[.agg cs.toArray,v2,v3])) w) :
  Fin P fn n R .ret e w:=by
 refine ⟨_,fun a ha=>?_,hR⟩
 have h1:a.tmps.getD p undef=.pointer (some ⟨b,off,none⟩):=by rw [ha.get,hp]
 have h1':a.tmps[p]?.getD undef=.pointer (some ⟨b,off,none⟩):=by simpa using h1
 have h2:a.tmps.getD t undef=v2:=by rw [ha.get,ht]
 have h2':a.tmps[t]?.getD undef=v2:=by simpa using h2
 have h3:a.tmps.getD u undef=v3:=by rw [ha.get,hu]
 have h3':a.tmps[u]?.getD undef=v3:=by simpa using h3
 simp [results,h,h1',h2',h3',asAddr,fo (P:=P) (t:=ty) hm hc]
theorem qB {p0:Tmp} {ty0:TypeId} {m0:Nat} [AggT P ty0 m0] {b0 off0:Nat} {cs0:List Value} {p1:Tmp} {ty1:TypeId} {m1:Nat} [AggT P ty1 m1] {b1 off1:Nat} {cs1:List Value} (h:fn.results=#[.cell p0 ty0,.cell p1 ty1]) (hp0:e p0=.pointer (some ⟨b0,off0,none⟩)) (hm0:cs0.length=m0) (hc0:∀ j c,cs0[j]? = some c→w.cell? ⟨b0,off0+j,none⟩=some c) (hp1:e p1=.pointer (some ⟨b1,off1,none⟩)) (hm1:cs1.length=m1) (hc1:∀ j c,cs1[j]? = some c→w.cell? ⟨b1,off1+j,none⟩=some c) (hR:R (.returned (.tuple #[.agg cs0.toArray,.agg cs1.toArray])) w):Fin P fn n R .ret e w:=by
 refine ⟨_,fun a ha=>?_,hR⟩
 have k0:a.tmps[p0]?.getD undef=.pointer (some ⟨b0,off0,none⟩):=by simpa using (show a.tmps.getD p0 undef=.pointer (some ⟨b0,off0,none⟩) by rw [ha.get,hp0])
 have k1:a.tmps[p1]?.getD undef=.pointer (some ⟨b1,off1,none⟩):=by simpa using (show a.tmps.getD p1 undef=.pointer (some ⟨b1,off1,none⟩) by rw [ha.get,hp1])
 simp [results,h,k0,fo (P:=P) (t:=ty0) hm0 hc0,k1,fo (P:=P) (t:=ty1) hm1 hc1,asAddr]
end
end Go.Proofs.Ytnipkopfefkojaa
namespace Go.Proofs.Ytnipkopfefkojaa
open Go.RowKit

def lh:Rep Bool where
 sz:=1
 rd _ cs b:=cs=[.bool b]
 own _ cs b fp:=cs=[.bool b]∧fp=[]
 rd_len h:=by subst h;rfl
 rd_one h:=by subst h;simp [Value.oneCell']
 rd_ext h _:=h
 own_rd h:=h.1
 own_ext h _:=h
 own_lt h:=by rw [h.2];simp
def u8R:Rep Int where
 sz:=1
 rd _ cs n:=cs=[.int .u8 n]
 own _ cs n fp:=cs=[.int .u8 n]∧fp=[]
 rd_len h:=by subst h;rfl
 rd_one h:=by subst h;simp [Value.oneCell']
 rd_ext h _:=h
 own_rd h:=h.1
 own_ext h _:=h
 own_lt h:=by rw [h.2];simp

def lpS {R V S:Type} (s:Sum R V) (f:R→Option S) (g:V→Option S):Option S:=match s with | .inl r=>f r | .inr v=>g v
def lpB {V S:Type} (s:V) (g:V→Option S):Option S:=g s
theorem exA {R V S:Type} {s:Sum R V} {v:V} {f:R→Option S} {g:V→Option S} {r:S} (h:some (Sum.inr v)=some s) (hK:lpS s f g=some r):g v=some r:=by cases h;exact hK
theorem exL {R V S:Type} {s:Sum R V} {q:R} {f:R→Option S} {g:V→Option S} {r:S} (h:some (Sum.inl q)=some s) (hK:lpS s f g=some r):f q=some r:=by cases h;exact hK
theorem exB {V S:Type} {s v:V} {g:V→Option S} {r:S} (h:some v=some s) (hK:lpB s g=some r):g v=some r:=by cases h;exact hK
theorem ai {α β:Type} {f:α→β} {a:α} {b:β} {l:List α} {m:List β} (h:f a=b) (t:l.map f=m):(a :: l).map f=b :: m:=by rw [List.map_cons,h,t]
theorem am {x:Bool} (h:x=true):(!x)=false:=by rw [h];rfl
theorem an {x:Bool} (h:x=false):(!x)=true:=by rw [h];rfl

theorem bT {P:Program} {n:Nat} {ops:Array Oper} {K:Env→World→Prop} {rest:List Oper} {e:Env} {w:World} {op:Op} {ty:TypeId} {pos:String} {af:Array Edge} {j:Nat} {b':Bool} {d:Nat} (h:(match (ops[j]?).bind (·.dst) with | some t=>e t | none=>undef)=undef) (hd:d<n) (hK:EL P n ops K rest (upd e d undef) w):EL P n ops K (⟨some d,op,ty,pos,af,some (j,b')⟩ :: rest) e w:=by
 intro a ha
 have hy:yielded ops a.tmps j=none:=nN ha h
 unfold wpList
 rw [if_neg (by simp [Region.wanted,hy])]
 exact hK _ (ha.put hd _)
theorem bf {P:Program} {n:Nat} {ops:Array Oper} {KQ:Env→Prop} {rest:List Oper} {e:Env} {w:World} {op:Op} {ty:TypeId} {pos:String} {af:Array Edge} {j:Nat} {b':Bool} {d:Nat} (h:(match (ops[j]?).bind (·.dst) with | some t=>e t | none=>undef)=undef) (hd:d<n) (hK:QL P n ops w KQ rest (upd e d undef)):QL P n ops w KQ (⟨some d,op,ty,pos,af,some (j,b')⟩ :: rest) e:=by
 intro a ha
 have hy:yielded ops a.tmps j=none:=nN ha h
 unfold wpQuiet
 rw [if_neg (by simp [Region.wanted,hy])]
 exact hK _ (ha.put hd _)
theorem oc {w:World} {α:Type} {R:Rep α} {E:TypeId} {v:Value} {xs:List α} (h:(aA R E).rd w [v] xs):v.oneCell'=true:=(aA R E).rd_one h v (List.mem_singleton.2 rfl)
theorem aK {e:Env} {x:Operand} {v:Value} (h:ev e x=v) (h1:v.oneCell'=true):(ev e x).cells=[v].toArray:=by rw [h];exact tT h1
theorem all_cons {α:Type} {p:α→Bool} {a:α} {l:List α} (h:p a=true) (t:l.all p=true):(a :: l).all p=true:=by simp [h,t]
theorem vh {w:World} {b off:Nat} {cs:List Value} (h:∀ j c,cs[j]? = some c→w.cell? ⟨b,off+j,none⟩=some c) (k n:Nat):∀ j c,((cs.drop k).take n)[j]? = some c→w.cell? ⟨b,off+k+j,none⟩=some c:=by
 intro j c hj
 rw [List.getElem?_take] at hj
 split at hj
 ·rw [List.getElem?_drop] at hj;rw [Nat.add_assoc];exact h _ c hj
 ·cases hj
section
variable {w w0 wA:World} {Γ rest:List Asn} {α:Type} {R:Rep α} {E:TypeId} {v:Value} {xs:List α}
theorem Sat.top (i:Nat) {A:Asn} (h:Sat w0 w Γ) (hi:Γ[i]? = some A):Sat w0 w (A :: Γ.eraseIdx i):=by
 refine h.perm ?_
 clear h
 induction Γ generalizing i with
 | nil=>simp at hi
 | cons B Γ ih =>
  cases i with
  | zero=>simp at hi;subst hi;exact .refl _
  | succ i =>
   simp at hi
   exact (List.Perm.cons B (ih i hi)).trans (.swap _ _ _)
theorem Sat.rem (i:Nat) {A:Asn} (h:Sat w0 w Γ) (hi:Γ[i]? = some A):Sat w0 w (Γ.eraseIdx i):=(h.top i hi).tail
theorem Sat.rdAt (i:Nat) {cs:List Value} {x:α} {R:Rep α} (h:Sat w0 w Γ) (hi:Γ[i]? = some (Own R cs x)):R.rd w cs x:=(h.top i hi).rd
theorem Sat.nil (R:Rep α) (E:TypeId) (h:Sat w0 w Γ):Sat w0 w (Own (aA R E) [.slice none 0 0] [] :: Γ):=h.add (.inl ⟨rfl,rfl,rfl⟩)
theorem Sat.bool (h:Sat w0 w Γ) (b:Bool):Sat w0 w (Own lh [.bool b] b :: Γ):=h.add ⟨rfl,rfl⟩
theorem Sat.u8 (h:Sat w0 w Γ) (n:Int):Sat w0 w (Own u8R [.int .u8 n] n :: Γ):=h.add ⟨rfl,rfl⟩
theorem aB {cs:List Value} (h:(aA R E).rd w cs xs):∃ v,cs=[v]:=List.length_eq_one_iff.1 ((aA R E).rd_len h)
theorem bF {cs:List Value} {x:α} (h:R.rd w0 cs x) (hx:Ext w0 w):R.rd w cs x:=R.rd_ext h hx
theorem Sat.up {cs:List Value} {x:α} (hS:Sat w0 w Γ) (h:R.rd w0 cs x):R.rd w cs x:=R.rd_ext h hS.below
theorem Sat.boxAt (i:Nat) {b:Nat} {cs:List Value} (h:Sat w0 w Γ) (hi:Γ[i]? = some (Box b E cs)):∀ j c,cs[j]? = some c→w.cell? ⟨b,j,none⟩=some c:=by
 have h2:=h.top i hi
 exact h2.boxCell
theorem mt {b:Nat} {cs:List Value} (h:∀ j c,cs[j]? = some c→w.cell? ⟨b,j,none⟩=some c) (k n:Nat):∀ j c,((cs.drop k).take n)[j]? = some c→w.cell? ⟨b,k+j,none⟩=some c:=by
 intro j c hj
 rw [List.getElem?_take] at hj
 split at hj
 ·rw [List.getElem?_drop] at hj;exact h _ c hj
 ·cases hj
theorem av {b:Nat} {cs:List Value} (h:∀ j c,cs[j]? = some c→w.cell? ⟨b,j,none⟩=some c):∀ j c,cs[j]? = some c→w.cell? ⟨b,0+j,none⟩=some c:=by
 intro j c hj;rw [Nat.zero_add];exact h j c hj
theorem Sat.boxRow (i:Nat) {b:Nat} {cs:List Value} (h:Sat w0 w Γ) (hi:Γ[i]? = some (Box b E cs)):mN w (some ⟨b,0,none⟩) cs :=
 .inr ⟨b,0,rfl,av (h.boxAt i hi)⟩
theorem Sat.lit1 {b:Nat} {cs:List Value} {y:α} (h:Sat w0 w (Box b E cs :: Own R cs y :: Γ)):Sat w0 w (Own (aA R E) [.slice (some ⟨b,0,none⟩) 1 1] [y] :: Γ):=by
 refine h.join ?_
 rintro f g ⟨rfl,h1⟩ h2
 have hl:=R.rd_len (R.own_rd h2)
 refine .inr ⟨b,1,cs.toArray,cs,g,rfl,h1,by simp,by unfold maxLen;omega,by simp [hl],by simp [← hl],⟨cs,[],g,[],by simp,by simp,h2,rfl,rfl⟩,by simp⟩
theorem vA {ccs:List Value} {ys:List Int} (h:rdL cp w ccs ys):ccs=ys.map (Value.int .i64):=by
 induction ys generalizing ccs with
 | nil=>simpa [rdL] using h
 | cons y ys ih =>
  obtain ⟨ec,r,rfl,h1,h2⟩:=h
  obtain rfl:=ih h2
  have:ec=[.int .i64 y]:=h1
  rw [this];rfl
theorem eS {v:Value} {ys:List Int} (h:(aA cp E).rd w [v] ys):∃ ao c,v=.slice ao ys.length c∧(ao=none→c=0)∧mN w ao (ys.map (Value.int .i64)):=by
 obtain ⟨ao,cap,ccs,hv,h1,h2,h3,h4,h5⟩:=h
 obtain rfl:=vA h4
 exact ⟨ao,cap,by simpa using hv,h3,h5⟩
end
section
variable {P:Program} {n:Nat} {ops:Array Oper} {K:Env→World→Prop} {rest:List Oper} {e:Env} {w w0 wA:World} {v:Value} {d:Nat} {ty:TypeId} {pos:String} {af:Array Edge} {Γ rΓ:List Asn} {x y:Operand} {α:Type} {R:Rep α} {E E':TypeId}
theorem lq {t:TypeId} [ht:SliceT P t E] {zz:List Value} {m bytes:Nat} [hz:ElemT P E zz m bytes] {xs:List α} (hS:Sat w0 w (Own (aA R E) [v] xs :: Γ)) (hs:ev e x=v)
  (hn:R.sz=m) (hpos:0<m) {k:IntKind} {i:Int} (hi:ev e y=.int k i) {u:α} (h:ix xs i=some u) (hd:d<n)
  (hK:∀ g cap ec,v=.slice (some ⟨g,0,none⟩) xs.length cap→R.rd w ec u→(∀ j c,ec[j]? = some c→w.cell? ⟨g,i.toNat*m+j,none⟩=some c)→EL P n ops K rest (upd e d (.pointer (some ⟨g,i.toNat*m,none⟩))) w) :
  EL P n ops K (⟨some d,.indexAddr t x y,ty,pos,af,none⟩ :: rest) e w:=by
 obtain ⟨k',rfl,hk,rfl⟩:=fO h
 obtain ⟨fp,hv,_⟩:=hS.head
 rcases hv with ⟨_,h2,_⟩ | ⟨g,cap,cur,ccs,f2,hv,hg,h1,h2,h3,h4,h5,rfl⟩
 ·subst h2;simp at hk
 obtain rfl:v=.slice (some ⟨g,0,none⟩) xs.length cap:=by simpa using hv
 obtain ⟨ec,hec,hcc⟩:=kW (ek h5) k' hk
 have hz:=hz.h
 cases hq:P.info? E with
 | none=>simp [hq] at hz
 | some inf =>
  simp [hq] at hz
  have hsz:inf.size=m:=hz.2.1
  refine km (v:=.pointer (some ⟨g,k'*m,none⟩)) ?_ hd ?_
  ·intro w' _
   unfold execOp
   simp [hs,hi,Instr.indexAt,asIntOf,run_underlying ht.h,sizeOf,typeInfo,hq,hk,Addr.add_lit,hsz]
  ·refine hK g cap ec rfl hec ?_
   intro j c hj
   have h0:=hcc j c hj
   simp only [Int.toNat_natCast]
   rw [cell_of_row w g _ cur E (0,0) hg,← Array.getElem?_toList]
   rw [← h4,List.getElem?_take] at h0
   rw [← hn]
   split at h0
   ·exact h0
   ·cases h0
theorem iu {t:TypeId} {z:List Value} {m bytes:Nat} [ElemT P t z m bytes] (hn:R.sz=m) {ec:List Value} {yv:α} {xs ys:List α} {g ln cap:Nat} (hv:v=.slice (some ⟨g,0,none⟩) ln cap)
  (hS:Sat w0 w (Own R ec yv :: Own (aA R E) [v] xs :: Γ)) {i:Int} (h:sto xs i yv=some ys) (hx:ev e x=.pointer (some ⟨g,i.toNat*m,none⟩)) (hy:(ev e y).cells=ec.toArray)
  (hK:∀ w',Sat w0 w' (Own (aA R E) [v] ys :: Γ)→EL P n ops K rest e w'):EL P n ops K (⟨none,.store t x y,ty,pos,af,none⟩ :: rest) e w:=by
 subst hv
 have h0:0≤i:=by
  unfold sto at h;split at h
  ·rename_i h1;exact h1.1
  ·cases h
 exact uW hn hS i.toNat (i.toNat*m) (by omega) h rfl hx hy hK
end
class BldT (P:Program) (t:TypeId) (pl:outParam (Array (Nat × Nat))):Prop where
 h:∃ fs,P.underlying t=some (.struct fs)∧∀ w,(fs.mapM (fun f=>do pure (f.offset,← sizeOf f.type)):Sem (Array (Nat × Nat))).run P w=.ok pl w
def mx (place:Nat→Option (Nat × Nat)) (cells:List Value):List (Nat × List Value)→Option (List Value)
  | []=>some cells
  | (i,v) :: rest=>match place i with
    | none=>none
    | some (off,size)=>bif Nat.beq v.length size&&Nat.ble (off+v.length) cells.length then mx place (cells.take off++v++cells.drop (off+v.length)) rest else none
theorem pG:∀ (v:List Value) (off k:Nat) (cells:List Value),off+k+v.length≤cells.length →
  ((v.zipIdx k).foldl (fun (cs:Array Value) (c:Value × Nat)=>cs.setIfInBounds (off+c.2) c.1) cells.toArray)=(cells.take (off+k)++v++cells.drop (off+k+v.length)).toArray
 | [],off,k,cells,h=>by simp
 | x :: v,off,k,cells,h=>by
  simp only [List.length_cons] at h
  have hi:off+k<cells.length:=by omega
  simp only [List.zipIdx_cons,List.foldl_cons,List.setIfInBounds_toArray]
  rw [pG v off (k+1) (cells.set (off+k) x) (by simp;omega)]
  have e1:(cells.set (off+k) x).take (off+(k+1))=cells.take (off+k)++[x]:=by
   rw [show off+(k+1)=(off+k)+1 by omega,List.take_set,List.take_succ_eq_append_getElem hi,List.set_append_right _ _ (by simp;omega)]
   simp [show min (off+k) cells.length=off+k by omega]
  have e2:(cells.set (off+k) x).drop (off+(k+1)+v.length)=cells.drop (off+k+(x :: v).length):=by
   rw [List.drop_set_of_lt (by omega)]
   congr 1
   simp only [List.length_cons];omega
  rw [e1,e2];simp
theorem pD (place:Nat→Option (Nat × Nat)):∀ (ps:List (Nat × Value)) (qs:List (Nat × List Value)) (cells:List Value) {r:List Value},ps.map (fun p=>(p.1,p.2.cells))=qs.map (fun q=>(q.1,q.2.toArray))→mx place cells qs=some r→Instr.fill place cells.toArray ps=some r.toArray
  | [],[],cells,r,_,h=>by simp only [mx,Option.some.injEq] at h;subst h;rfl
  | [],_ :: _,_,_,h,_=>by simp at h
  | _ :: _,[],_,_,h,_=>by simp at h
  | (i,v) :: ps,(j,c) :: qs,cells,r,h,hf=>by
    simp only [List.map_cons,List.cons.injEq,Prod.mk.injEq] at h
    obtain ⟨⟨rfl,hc⟩,ht⟩:=h
    unfold mx at hf
    unfold Instr.fill
    cases hp:place i with
    | none=>simp [hp] at hf
    | some os =>
      obtain ⟨off,size⟩:=os
      simp only [hp] at hf ⊢
      cases hb:(Nat.beq c.length size&&Nat.ble (off+c.length) cells.length) with
      | false=>rw [hb] at hf;cases hf
      | true =>
        rw [hb] at hf
        simp only [Bool.and_eq_true] at hb
        have h1:=Nat.eq_of_beq_eq_true hb.1
        have h2:=Nat.le_of_ble_eq_true hb.2
        rw [hc]
        have hn:(decide (c.toArray.size≠size)||decide (off+c.toArray.size > cells.toArray.size))=false:=by simp;omega
        rw [if_neg (by simp only [hn];simp)]
        have:=pG c off 0 cells (by omega)
        simp only [Nat.add_zero] at this
        have e:c.toArray.zipIdx.foldl (fun cs (c,j)=>cs.setIfInBounds (off+j) c) cells.toArray=(cells.take off++c++cells.drop (off+c.length)).toArray:=by
          rw [← this]
          simp
        rw [e]
        exact pD place ps qs _ ht hf
theorem bc {P:Program} {e:Env} {w:World} {d:Option Nat} {ty:TypeId} {pos:String} {af:Array Edge} {t:TypeId} {z:List Value} {n bytes:Nat} {pl:Array (Nat × Nat)} [hz:ElemT P t z n bytes] [hb:BldT P t pl] {parts:Array (Nat × Operand)} (qs:List (Nat × List Value)) (r:List Value)
  (hp:parts.toList.map (fun p=>(p.1,(ev e p.2).cells))=qs.map (fun q=>(q.1,q.2.toArray))) (hf:mx (pl[·]?) z qs=some r):PV P ⟨d,.build t parts,ty,pos,af,none⟩ e w (.agg r.toArray):=fun w' _=>by
 have hz:=hz.h
 obtain ⟨fs,h1,h2⟩:=hb.h
 cases hi:P.info? t with
 | none=>simp [hi] at hz
 | some i =>
 cases hzz:i.zero with
 | none=>simp [hi,hzz] at hz
 | some zv =>
 simp [hi,hzz] at hz
 have hzc:zv.cells=z.toArray:=by rw [← hz.1]
 have hff:=pD (pl[·]?) (parts.toList.map fun p=>(p.1,ev e p.2)) qs z (by rw [List.map_map];exact hp) hf
 unfold execOp
 simp only [Instr.build,zeroValue,typeInfo,hi,hzz,Sem.run_bind,Sem.run_pure,run_program,Result.andThen_ok,run_underlying h1,h2,hzc,Array.toList_map]
 rw [hff]
 simp
theorem cL {e:Env} {i:Nat} {x:Operand} {c:List Value} {l:List (Nat × Operand)} {m:List (Nat × List Value)} (h:(ev e x).cells=c.toArray) (t:l.map (fun p=>(p.1,(ev e p.2).cells))=m.map (fun q=>(q.1,q.2.toArray))) :
  ((i,x) :: l).map (fun p=>(p.1,(ev e p.2).cells))=((i,c) :: m).map (fun q=>(q.1,q.2.toArray)):=by
 rw [List.map_cons,List.map_cons,t,h]
end Go.Proofs.Ytnipkopfefkojaa
namespace Go.Proofs.Ytnipkopfefkojaa
-- int64
instance:PlainT Try.prog 2:=⟨_,Try.underlying2,trivial⟩
instance:ElemT Try.prog 2 [.int .i64 0] 1 8:=⟨by kernel_rfl⟩
-- int
instance:PlainT Try.prog 3:=⟨_,Try.underlying3,trivial⟩
instance:ElemT Try.prog 3 [.int .i64 0] 1 8:=⟨by kernel_rfl⟩
-- bool
instance:PlainT Try.prog 4:=⟨_,Try.underlying4,trivial⟩
instance:ElemT Try.prog 4 [.bool false] 1 1:=⟨by kernel_rfl⟩
-- uint8
instance:PlainT Try.prog 5:=⟨_,Try.underlying5,trivial⟩
instance:ElemT Try.prog 5 [.int .u8 0] 1 1:=⟨by kernel_rfl⟩
-- string
instance:PlainT Try.prog 9:=⟨_,Try.underlying9,trivial⟩
instance:ElemT Try.prog 9 [.string ByteArray.empty] 1 16:=⟨by kernel_rfl⟩
-- uintptr
instance:PlainT Try.prog 12:=⟨_,Try.underlying12,trivial⟩
instance:ElemT Try.prog 12 [.int .u64 0] 1 8:=⟨by kernel_rfl⟩
-- int32
instance:PlainT Try.prog 21:=⟨_,Try.underlying21,trivial⟩
instance:ElemT Try.prog 21 [.int .i32 0] 1 4:=⟨by kernel_rfl⟩
-- []uint8
instance:PlainT Try.prog 22:=⟨_,Try.underlying22,trivial⟩
instance:SliceT Try.prog 22 5:=⟨Try.underlying22⟩
instance:ElemT Try.prog 22 [.slice none 0 0] 1 24:=⟨by kernel_rfl⟩
-- []impl.Table
instance:PlainT Try.prog 24:=⟨_,Try.underlying24,trivial⟩
instance:SliceT Try.prog 24 84:=⟨Try.underlying24⟩
instance:ElemT Try.prog 24 [.slice none 0 0] 1 24:=⟨by kernel_rfl⟩
-- struct { Tables []impl.Table }
instance:AggT Try.prog 25 1:=⟨⟨_,Try.underlying25,trivial⟩,by kernel_rfl⟩
instance:FldT Try.prog 25 0 0:=⟨_,_,Try.underlying25,rfl,rfl,by kernel_rfl⟩
instance:BldT Try.prog 25 #[(0,1)]:=⟨_,Try.underlying25,fun w=>by kernel_rfl⟩
instance:ElemT Try.prog 25 [.slice none 0 0] 1 24:=⟨by kernel_rfl⟩
-- impl.Database
instance:AggT Try.prog 26 1:=⟨⟨_,Try.underlying26,trivial⟩,by kernel_rfl⟩
instance:FldT Try.prog 26 0 0:=⟨_,_,Try.underlying26,rfl,rfl,by kernel_rfl⟩
instance:BldT Try.prog 26 #[(0,1)]:=⟨_,Try.underlying26,fun w=>by kernel_rfl⟩
instance:ElemT Try.prog 26 [.slice none 0 0] 1 24:=⟨by kernel_rfl⟩
-- []impl.Atom
instance:PlainT Try.prog 27:=⟨_,Try.underlying27,trivial⟩
instance:SliceT Try.prog 27 50:=⟨Try.underlying27⟩
instance:ElemT Try.prog 27 [.slice none 0 0] 1 24:=⟨by kernel_rfl⟩
-- []int
instance:PlainT Try.prog 28:=⟨_,Try.underlying28,trivial⟩
instance:SliceT Try.prog 28 3:=⟨Try.underlying28⟩
instance:ElemT Try.prog 28 [.slice none 0 0] 1 24:=⟨by kernel_rfl⟩
-- struct { VariableCount int;Atoms []impl.Atom;Output []int }
instance:AggT Try.prog 29 3:=⟨⟨_,Try.underlying29,trivial⟩,by kernel_rfl⟩
instance:FldT Try.prog 29 0 0:=⟨_,_,Try.underlying29,rfl,rfl,by kernel_rfl⟩
instance:FldT Try.prog 29 1 1:=⟨_,_,Try.underlying29,rfl,rfl,by kernel_rfl⟩
instance:FldT Try.prog 29 2 2:=⟨_,_,Try.underlying29,rfl,rfl,by kernel_rfl⟩
instance:BldT Try.prog 29 #[(0,1),(1,1),(2,1)]:=⟨_,Try.underlying29,fun w=>by kernel_rfl⟩
instance:ElemT Try.prog 29 [.int .i64 0,.slice none 0 0,.slice none 0 0] 3 56:=⟨by kernel_rfl⟩
-- impl.Query
instance:AggT Try.prog 30 3:=⟨⟨_,Try.underlying30,trivial⟩,by kernel_rfl⟩
instance:FldT Try.prog 30 0 0:=⟨_,_,Try.underlying30,rfl,rfl,by kernel_rfl⟩
instance:FldT Try.prog 30 1 1:=⟨_,_,Try.underlying30,rfl,rfl,by kernel_rfl⟩
instance:FldT Try.prog 30 2 2:=⟨_,_,Try.underlying30,rfl,rfl,by kernel_rfl⟩
instance:BldT Try.prog 30 #[(0,1),(1,1),(2,1)]:=⟨_,Try.underlying30,fun w=>by kernel_rfl⟩
instance:ElemT Try.prog 30 [.int .i64 0,.slice none 0 0,.slice none 0 0] 3 56:=⟨by kernel_rfl⟩
-- [][]int
instance:PlainT Try.prog 33:=⟨_,Try.underlying33,trivial⟩
instance:SliceT Try.prog 33 28:=⟨Try.underlying33⟩
instance:ElemT Try.prog 33 [.slice none 0 0] 1 24:=⟨by kernel_rfl⟩
-- struct { Arity int;Rows [][]int }
instance:AggT Try.prog 34 2:=⟨⟨_,Try.underlying34,trivial⟩,by kernel_rfl⟩
instance:FldT Try.prog 34 0 0:=⟨_,_,Try.underlying34,rfl,rfl,by kernel_rfl⟩
instance:FldT Try.prog 34 1 1:=⟨_,_,Try.underlying34,rfl,rfl,by kernel_rfl⟩
instance:BldT Try.prog 34 #[(0,1),(1,1)]:=⟨_,Try.underlying34,fun w=>by kernel_rfl⟩
instance:ElemT Try.prog 34 [.int .i64 0,.slice none 0 0] 2 32:=⟨by kernel_rfl⟩
-- impl.Relation
instance:AggT Try.prog 35 2:=⟨⟨_,Try.underlying35,trivial⟩,by kernel_rfl⟩
instance:FldT Try.prog 35 0 0:=⟨_,_,Try.underlying35,rfl,rfl,by kernel_rfl⟩
instance:FldT Try.prog 35 1 1:=⟨_,_,Try.underlying35,rfl,rfl,by kernel_rfl⟩
instance:BldT Try.prog 35 #[(0,1),(1,1)]:=⟨_,Try.underlying35,fun w=>by kernel_rfl⟩
instance:ElemT Try.prog 35 [.int .i64 0,.slice none 0 0] 2 32:=⟨by kernel_rfl⟩
-- struct { Variables []int;Relation impl.Relation }
instance:AggT Try.prog 46 3:=⟨⟨_,Try.underlying46,trivial⟩,by kernel_rfl⟩
instance:FldT Try.prog 46 0 0:=⟨_,_,Try.underlying46,rfl,rfl,by kernel_rfl⟩
instance:FldT Try.prog 46 1 1:=⟨_,_,Try.underlying46,rfl,rfl,by kernel_rfl⟩
instance:BldT Try.prog 46 #[(0,1),(1,2)]:=⟨_,Try.underlying46,fun w=>by kernel_rfl⟩
instance:ElemT Try.prog 46 [.slice none 0 0,.int .i64 0,.slice none 0 0] 3 56:=⟨by kernel_rfl⟩
-- impl.VarRelation
instance:AggT Try.prog 47 3:=⟨⟨_,Try.underlying47,trivial⟩,by kernel_rfl⟩
instance:FldT Try.prog 47 0 0:=⟨_,_,Try.underlying47,rfl,rfl,by kernel_rfl⟩
instance:FldT Try.prog 47 1 1:=⟨_,_,Try.underlying47,rfl,rfl,by kernel_rfl⟩
instance:BldT Try.prog 47 #[(0,1),(1,2)]:=⟨_,Try.underlying47,fun w=>by kernel_rfl⟩
instance:ElemT Try.prog 47 [.slice none 0 0,.int .i64 0,.slice none 0 0] 3 56:=⟨by kernel_rfl⟩
-- struct { Relation string;Vars []int }
instance:AggT Try.prog 49 2:=⟨⟨_,Try.underlying49,trivial⟩,by kernel_rfl⟩
instance:FldT Try.prog 49 0 0:=⟨_,_,Try.underlying49,rfl,rfl,by kernel_rfl⟩
instance:FldT Try.prog 49 1 1:=⟨_,_,Try.underlying49,rfl,rfl,by kernel_rfl⟩
instance:BldT Try.prog 49 #[(0,1),(1,1)]:=⟨_,Try.underlying49,fun w=>by kernel_rfl⟩
instance:ElemT Try.prog 49 [.string ByteArray.empty,.slice none 0 0] 2 40:=⟨by kernel_rfl⟩
-- impl.Atom
instance:AggT Try.prog 50 2:=⟨⟨_,Try.underlying50,trivial⟩,by kernel_rfl⟩
instance:FldT Try.prog 50 0 0:=⟨_,_,Try.underlying50,rfl,rfl,by kernel_rfl⟩
instance:FldT Try.prog 50 1 1:=⟨_,_,Try.underlying50,rfl,rfl,by kernel_rfl⟩
instance:BldT Try.prog 50 #[(0,1),(1,1)]:=⟨_,Try.underlying50,fun w=>by kernel_rfl⟩
instance:ElemT Try.prog 50 [.string ByteArray.empty,.slice none 0 0] 2 40:=⟨by kernel_rfl⟩
-- struct { b []uint8;i int;h int }
instance:AggT Try.prog 60 3:=⟨⟨_,Try.underlying60,trivial⟩,by kernel_rfl⟩
instance:FldT Try.prog 60 0 0:=⟨_,_,Try.underlying60,rfl,rfl,by kernel_rfl⟩
instance:FldT Try.prog 60 1 1:=⟨_,_,Try.underlying60,rfl,rfl,by kernel_rfl⟩
instance:FldT Try.prog 60 2 2:=⟨_,_,Try.underlying60,rfl,rfl,by kernel_rfl⟩
instance:BldT Try.prog 60 #[(0,1),(1,1),(2,1)]:=⟨_,Try.underlying60,fun w=>by kernel_rfl⟩
instance:ElemT Try.prog 60 [.slice none 0 0,.int .i64 0,.int .i64 0] 3 40:=⟨by kernel_rfl⟩
-- spec.l1Cur
instance:AggT Try.prog 61 3:=⟨⟨_,Try.underlying61,trivial⟩,by kernel_rfl⟩
instance:FldT Try.prog 61 0 0:=⟨_,_,Try.underlying61,rfl,rfl,by kernel_rfl⟩
instance:FldT Try.prog 61 1 1:=⟨_,_,Try.underlying61,rfl,rfl,by kernel_rfl⟩
instance:FldT Try.prog 61 2 2:=⟨_,_,Try.underlying61,rfl,rfl,by kernel_rfl⟩
instance:BldT Try.prog 61 #[(0,1),(1,1),(2,1)]:=⟨_,Try.underlying61,fun w=>by kernel_rfl⟩
instance:ElemT Try.prog 61 [.slice none 0 0,.int .i64 0,.int .i64 0] 3 40:=⟨by kernel_rfl⟩
-- []string
instance:PlainT Try.prog 81:=⟨_,Try.underlying81,trivial⟩
instance:SliceT Try.prog 81 9:=⟨Try.underlying81⟩
instance:ElemT Try.prog 81 [.slice none 0 0] 1 24:=⟨by kernel_rfl⟩
-- struct { Name string;Relation impl.Relation }
instance:AggT Try.prog 83 3:=⟨⟨_,Try.underlying83,trivial⟩,by kernel_rfl⟩
instance:FldT Try.prog 83 0 0:=⟨_,_,Try.underlying83,rfl,rfl,by kernel_rfl⟩
instance:FldT Try.prog 83 1 1:=⟨_,_,Try.underlying83,rfl,rfl,by kernel_rfl⟩
instance:BldT Try.prog 83 #[(0,1),(1,2)]:=⟨_,Try.underlying83,fun w=>by kernel_rfl⟩
instance:ElemT Try.prog 83 [.string ByteArray.empty,.int .i64 0,.slice none 0 0] 3 48:=⟨by kernel_rfl⟩
-- impl.Table
instance:AggT Try.prog 84 3:=⟨⟨_,Try.underlying84,trivial⟩,by kernel_rfl⟩
instance:FldT Try.prog 84 0 0:=⟨_,_,Try.underlying84,rfl,rfl,by kernel_rfl⟩
instance:FldT Try.prog 84 1 1:=⟨_,_,Try.underlying84,rfl,rfl,by kernel_rfl⟩
instance:BldT Try.prog 84 #[(0,1),(1,2)]:=⟨_,Try.underlying84,fun w=>by kernel_rfl⟩
instance:ElemT Try.prog 84 [.string ByteArray.empty,.int .i64 0,.slice none 0 0] 3 48:=⟨by kernel_rfl⟩
-- []bool
instance:PlainT Try.prog 92:=⟨_,Try.underlying92,trivial⟩
instance:SliceT Try.prog 92 4:=⟨Try.underlying92⟩
instance:ElemT Try.prog 92 [.slice none 0 0] 1 24:=⟨by kernel_rfl⟩
-- uint
instance:PlainT Try.prog 102:=⟨_,Try.underlying102,trivial⟩
instance:ElemT Try.prog 102 [.int .u64 0] 1 8:=⟨by kernel_rfl⟩
-- uint32
instance:PlainT Try.prog 113:=⟨_,Try.underlying113,trivial⟩
instance:ElemT Try.prog 113 [.int .u32 0] 1 4:=⟨by kernel_rfl⟩
end Go.Proofs.Ytnipkopfefkojaa
namespace Go.Proofs.Ytnipkopfefkojaa
open Go.RowKit

def AL (P:Program) (n:Nat) (ops:Array Oper) (X:List Nat) (C:World→Prop) (K:Env→World→Prop):Nat→Array Bool→Env→World→Prop
 | 0,L,e,w=>Region.ready .any ops L=[]∧K e w
 | f+1,L,e,w=>(Region.ready .any ops L=[]→K e w) ∧
  ∀ i∈Region.ready .any ops L,∃ o,ops[i]? = some o∧EL P n ops (fun e' w'=>(X.contains i=true→C w')∧AL P n ops X C K f (L.setIfInBounds i true) e' w') [o] e w

section
variable {P:Program} {n:Nat} {ops:Array Oper} {X:List Nat} {C:World→Prop} {K:Env→World→Prop}
theorem xC {o:Oper} {a:Act} {w:World} {N N2:Act→World→Prop} {K1 K2:Env→World→Prop} (h:∀ a w,N a w→N2 a w) (hh:o.wp P a w N (nrm n K1)):o.wp P a w N2 (nrm n K2):=by
  unfold Oper.wp at *
  generalize (execOp a.eval o).run P w=r at *
  cases r with
  | ok m w' =>
    cases m <;> simp only [Oper.upon] at hh ⊢ <;>
      first
        | exact h _ _ hh
        | exact Calls.mono hh (fun e w'' he=>by
            cases e with
            | returned v=>exact h _ _ he
            | panicked ch=>exact absurd he.1 (by simp)
            | outgrown=>obtain ⟨_,_,hx,_⟩:=he;exact absurd hx (by simp))
        | exact Rows.mono hh (fun _ _ he=>h _ _ he)
  | halt x w' =>
    cases x <;> simp only [Oper.upon] at hh ⊢
    exact absurd hh.1 (by simp)
theorem rO {K:Env→World→Prop}:¬ LetsOut (nrm n K):=by
 rintro ⟨_,_,h,_⟩;exact absurd h (by simp)
theorem AL.any:∀ (f:Nat) (L:Array Bool) (e:Env) (a:Act) (w:World),Mt n e a→AL P n ops X C K f L e w→wpAny P .any ops (nrm n K) f L a w
 | 0,_,e,a,_,ha,h=>⟨h.1,rfl,e,ha,h.2⟩
 | f+1,L,e,a,w,ha,h=>by
  refine ⟨fun h0=>⟨rfl,e,ha,h.1 h0⟩,fun i hi=>?_⟩
  obtain ⟨o,ho,hE⟩:=h.2 i hi
  have:=hE a ha
  unfold wpOp
  simp only [ho]
  unfold wpList at this
  have key:∀ a w,wpList P ops (nrm n fun e' w'=>(X.contains i=true→C w')∧AL P n ops X C K f (L.setIfInBounds i true) e' w') [] a w→wpAny P .any ops (nrm n K) f (L.setIfInBounds i true) a w:=by
   rintro a w ⟨_,e',ha',_,h2⟩
   exact AL.any f _ e' a w ha' h2
  split
  ·rename_i hw
   rw [if_pos hw] at this
   rcases this with h1 | ⟨_,h1⟩
   ·exact .inl (xC key h1)
   ·exact absurd h1 rO
  ·rename_i hw
   rw [if_neg hw] at this
   exact key _ _ this
theorem bR {id:Nat} {l:List Oper} {Q:Exit→Env→World→Prop} {e:Env} {w:World} (X:List Nat) (C:World→Prop) (hm:P.follows .mixedOrders=true)
  (hx:∀ w',Ext w w'→AL P n l.toArray X C (fun e w=>Q .normal e w) l.length (Array.replicate l.length false) e w'):CW P n (.region id l.toArray true) Q e w:=by
 intro a ha
 have h2:=hx { w with drawn:=w.drawn+1 } ⟨rfl,rfl,rfl,Nat.le_refl _,fun _ _=>rfl⟩
 have:=AL.any _ _ _ a _ ha h2
 refine wp_mono (wp_region_any (Q:=nrm n fun e w=>Q .normal e w) hm (by simpa using this)) ?_
 rintro x a w ⟨rfl,e,he,hk⟩
 exact ⟨e,he,hk⟩

def SV (P:Program) (n:Nat) (ops:Array Oper) (C:World→Prop) (o:Oper) (e:Env) (v:Value):Prop :=
 ∀ a,Mt n e a→(Region.wanted o (yielded ops a.tmps)=true∧∀ w',C w'→(execOp a.eval o).run P w'=.ok (.value v) w')∨(Region.wanted o (yielded ops a.tmps)=false∧v=undef)
def lB (ops:Array Oper) (X:List Nat) (L:Array Bool) (i:Nat) (o:Oper):Bool :=
 (List.range ops.size).all fun j=>Nat.beq j i||L.getD j true||(match ops[j]? with
  | some oj=>oj.after.any (fun e=>Region.binds .any e&&Nat.beq e.on i)||(o.apart ops oj&&X.contains j)
  | none=>true)
theorem jy {L:Array Bool} {i:Nat}:i∈Region.ready .any ops L↔L.getD i true=false∧∃ o,ops[i]? = some o∧∀ e∈o.after,Region.binds .any e=true→L.getD e.on false=true:=by
 unfold Region.ready
 simp only [List.mem_filter,List.mem_range,Bool.and_eq_true,Bool.not_eq_true']
 constructor
 ·rintro ⟨h1,h2,h3⟩
  refine ⟨h2,ops[i],Array.getElem?_eq_getElem h1,fun e he hb=>?_⟩
  rw [Array.getElem?_eq_getElem h1] at h3
  simp only [Option.map_some,Option.getD_some,Array.all_eq_true_iff_forall_mem] at h3
  have:=h3 e he
  simpa [hb] using this
 ·rintro ⟨h2,o,h1,h3⟩
  obtain ⟨hlt,rfl⟩:=Array.getElem?_eq_some_iff.1 h1
  refine ⟨hlt,h2,?_⟩
  rw [h1]
  simp only [Option.map_some,Option.getD_some,Array.all_eq_true_iff_forall_mem]
  intro e he
  by_cases hb:Region.binds .any e=true
  ·simp [h3 e he hb]
  ·simp [hb]
theorem kg {L:Array Bool} {i j:Nat} {d:Bool} (h:j≠i):(L.setIfInBounds i true).getD j d=L.getD j d:=by
 simp [Array.getElem?_setIfInBounds_ne (Ne.symm h)]
theorem sh {L:Array Bool} {i j:Nat} (h:L.getD j false=true):(L.setIfInBounds i true).getD j false=true:=by
 by_cases hj:j=i
 ·subst hj
  have:j<L.size:=by
   rcases Nat.lt_or_ge j L.size with h1 | h1
   ·exact h1
   ·simp [Array.getElem?_eq_none h1] at h
  simp [this]
 ·rw [kg hj];exact h
theorem jq {L:Array Bool} {i j:Nat} (hij:j≠i) (h:j∈Region.ready .any ops L):j∈Region.ready .any ops (L.setIfInBounds i true):=by
 obtain ⟨h1,o,h2,h3⟩:=jy.1 h
 exact jy.2 ⟨by rw [kg hij];exact h1,o,h2,fun e he hb=>sh (h3 e he hb)⟩
theorem qJ (L:Array Bool) (i j:Nat):(L.setIfInBounds i true).setIfInBounds j true=(L.setIfInBounds j true).setIfInBounds i true:=by
 by_cases h:i=j
 ·subst h;rfl
 ·exact Array.setIfInBounds_comm _ _ h
theorem vZ {L:Array Bool} {i j:Nat} {o:Oper} (h:lB ops X L i o=true):lB ops X (L.setIfInBounds j true) i o=true:=by
 unfold lB at *
 rw [List.all_eq_true] at *
 intro k hk
 have:=h k hk
 by_cases hkj:k=j
 ·subst hkj
  have:k<ops.size:=by simpa using hk
  by_cases hkl:k<L.size
  ·simp [hkl]
  ·have hn:L[k]? = none:=Array.getElem?_eq_none (by omega)
   simp [hkl]
 ·rw [kg hkj];exact this
def tj (a:Act):Env:=fun t=>a.tmps.getD t undef
theorem wa {a:Act} (h1:a.tmps.size=n) (h2:a.defers=[]):Mt n (tj a) a:=⟨h1,h2,fun _=>rfl⟩
theorem Mt.uniq {a:Act} {e e':Env} (h:Mt n e a) (h':Mt n e' a):e=e':=by funext t;rw [← h.get,← h'.get]
theorem rM (a:Act) (d:Option Nat) (v:Value):(a.put d v).tmps.size=a.tmps.size:=by cases d <;> simp [Act.put]
theorem sJ (a:Act) (d:Option Nat) (v:Value):(a.put d v).defers=a.defers:=by cases d <;> rfl
theorem ni {a b:Act} (h:∀ t,a.tmps.getD t undef=b.tmps.getD t undef) (hs:a.tmps.size=b.tmps.size):a.tmps=b.tmps:=by
 apply Array.ext hs
 intro i h1 h2
 have:=h i
 simpa [Array.getD,h1,h2] using this
theorem rj {o:Oper} {a a':Act} {N N2:Act→World→Prop} {K1 K2:Env→World→Prop} (h:∀ u w,N (a'.put o.dst u) w→N2 (a.put o.dst u) w) (hd:∀ d u w,¬ N (({ a' with defers:=d :: a'.defers }:Act).put o.dst u) w) {r:Result Next}
    (hh:o.upon P a' N (nrm n K1) r):o.upon P a N2 (nrm n K2) r:=by
  cases r with
  | ok m w' =>
    cases m <;> simp only [Oper.upon] at hh ⊢ <;>
      first
        | exact h _ _ hh
        | exact absurd hh (hd _ _ _)
        | exact Calls.mono hh (fun e w'' he=>by
            cases e with
            | returned v=>exact h _ _ he
            | panicked ch=>exact absurd he.1 (by simp)
            | outgrown=>obtain ⟨_,_,hx,_⟩:=he;exact absurd hx (by simp))
        | exact Rows.mono hh (fun _ _ he=>h _ _ he)
  | halt x w' =>
    cases x <;> simp only [Oper.upon] at hh ⊢
    exact absurd hh.1 (by simp)
def kf (ops:Array Oper):Bool:=ops.all fun o=>match o.op with | .select ..=>false | _=>true
theorem mz (h:kf ops=true) {i:Nat} {o:Oper} (hi:ops[i]? = some o):∀ cs b,o.op≠.select cs b:=by
 intro cs b e
 unfold kf at h
 rw [Array.all_eq_true_iff_forall_mem] at h
 have:=h o (Array.mem_of_getElem? hi)
 simp [e] at this
theorem wx (hsel:kf ops=true) (i:Nat) {o:Oper} {d:Nat} {v:Value} (hi:ops[i]? = some o) (hdst:o.dst=some d) (hdn:d<n) :
  ∀ (f:Nat) (L:Array Bool) (e:Env) (w:World),C w→lB ops X L i o=true→i∈Region.ready .any ops L→SV P n ops C o e v→AL P n ops X C K f (L.setIfInBounds i true) (upd e d v) w→AL P n ops X C K (f+1) L e w:=by
 intro f
 induction f with
 | zero =>
  intro L e w hC hf hr hy H
  refine ⟨fun h=>(by rw [h] at hr;cases hr),fun j hj=>?_⟩
  by_cases hji:j=i
  ·subst hji
   refine ⟨o,hi,fun a ha=>?_⟩
   unfold wpList
   rcases hy a ha with ⟨hw,hv⟩ | ⟨hw,rfl⟩
   ·rw [if_pos hw]
    refine .inl ?_
    unfold Oper.wp
    rw [hv w hC]
    simp only [Oper.upon,hdst]
    exact ⟨rfl,_,ha.put hdn v,fun _=>hC,H⟩
   ·rw [if_neg (by simp [hw])]
    rw [hdst]
    exact ⟨rfl,_,ha.put hdn _,fun _=>hC,H⟩
  ·have:=jq (i:=i) hji hj
   rw [H.1] at this;cases this
 | succ f ih =>
  intro L e w hC hf hr hy H
  refine ⟨fun h=>(by rw [h] at hr;cases hr),fun j hj=>?_⟩
  by_cases hji:j=i
  ·subst hji
   refine ⟨o,hi,fun a ha=>?_⟩
   unfold wpList
   rcases hy a ha with ⟨hw,hv⟩ | ⟨hw,rfl⟩
   ·rw [if_pos hw]
    refine .inl ?_
    unfold Oper.wp
    rw [hv w hC]
    simp only [Oper.upon,hdst]
    exact ⟨rfl,_,ha.put hdn v,fun _=>hC,H⟩
   ·rw [if_neg (by simp [hw])]
    rw [hdst]
    exact ⟨rfl,_,ha.put hdn _,fun _=>hC,H⟩
  ·obtain ⟨oj,hoj,hE⟩:=H.2 j (jq hji hj)
   have hjL:=(jy.1 hj)
   have hiL:=(jy.1 hr)
   have hap:o.apart ops oj=true∧X.contains j=true:=by
    have h1:=hf
    unfold lB at h1
    rw [List.all_eq_true] at h1
    have h2:=h1 j (by simp [(Array.getElem?_eq_some_iff.1 hoj).1])
    have hb:Nat.beq j i=false:=lV hji
    simp only [hb,hjL.1,hoj,Bool.false_or,Bool.or_eq_true,Bool.and_eq_true] at h2
    rcases h2 with h2 | h2
    ·exfalso
     obtain ⟨_,h3,h4⟩:=hjL.2
     rw [hoj] at h3;obtain rfl:=Option.some.inj h3
     rw [Array.any_eq_true'] at h2
     obtain ⟨ed,hm,h5⟩:=h2
     simp only [Bool.and_eq_true] at h5
     have h6:=h4 ed hm h5.1
     have h7:ed.on=i:=Nat.eq_of_beq_eq_true h5.2
     rw [h7] at h6
     have:=hiL.1
     cases hx:L[i]? with
     | none=>simp [Array.getD_eq_getD_getElem?,hx] at this
     | some b=>simp [Array.getD_eq_getD_getElem?,hx] at this h6;simp [this] at h6
    ·exact h2
   obtain ⟨h1,h2,h3⟩:=Oper.apart_spec hap.1
   have hso:=mz hsel hi
   have hsj:=mz hsel hoj
   refine ⟨oj,hoj,fun a ha=>?_⟩
   have h4:=hE _ (ha.put hdn v)
   have key:∀ u w',nrm n (fun e' w'=>(X.contains j=true→C w')∧AL P n ops X C K f ((L.setIfInBounds i true).setIfInBounds j true) e' w') .normal ((a.put (some d) v).put oj.dst u) w' →
     nrm n (fun e' w'=>(X.contains j=true→C w')∧AL P n ops X C K (f+1) (L.setIfInBounds j true) e' w') .normal (a.put oj.dst u) w':=by
    rintro u w' ⟨_,e1,he1,hc1,hA1⟩
    have hm2:Mt n (tj (a.put oj.dst u)) (a.put oj.dst u):=wa (by rw [rM,ha.size]) (by rw [sJ,ha.defers])
    have hcm:(a.put (some d) v).put oj.dst u=(a.put oj.dst u).put (some d) v:=Act.put_comm a v u (fun x hx=>by
     have:=h2 d hdst
     simp only [Option.some.injEq] at hx;subst hx;exact this)
    rw [hcm] at he1
    obtain rfl:=he1.uniq (hm2.put hdn v)
    refine ⟨rfl,_,hm2,hc1,ih _ _ _ (hc1 hap.2) (vZ hf) (jq (Ne.symm hji) hr) ?_ (by rw [← qJ];exact hA1)⟩
    intro b hb
    have hbt:b.tmps=(a.put oj.dst u).tmps:=ni (fun t=>by rw [hb.get t];rfl) (by rw [hb.size,hm2.size])
    have hbe:b.eval=(a.put oj.dst u).eval:=by rw [hb.eval,hm2.eval]
    rw [hbt,hbe,execOp_put o hso a oj.dst u h3,wanted_put o a oj.dst u h3]
    exact hy a ha
   unfold wpList at h4 ⊢
   have hwe:=wanted_put (ops:=ops) oj a (some d) v (fun x hx=>by simp only [Option.some.injEq] at hx;subst hx;exact h1 d hdst)
   have hxe:=execOp_put oj hsj a (some d) v (fun x hx=>by simp only [Option.some.injEq] at hx;subst hx;exact h1 d hdst)
   rw [hwe] at h4
   split
   ·rename_i hw
    rw [if_pos hw] at h4
    rcases h4 with h5 | ⟨_,h5⟩
    ·refine .inl ?_
     unfold Oper.wp at h5 ⊢
     rw [hxe] at h5
     refine rj key ?_ h5
     rintro dd u w' ⟨_,e1,he1,_⟩
     have:=he1.defers
     cases hdj:oj.dst <;> simp [Act.put,hdj] at this
    ·exact absurd h5 rO
   ·rename_i hw
    rw [if_neg hw] at h4
    exact key _ _ h4
def nW (ops:Array Oper) (X T:List Nat) (L:Array Bool) (i:Nat) (o:Oper):Bool :=
 (List.range ops.size).all fun j=>Nat.beq j i||(match ops[j]? with
  | some oj=>if T.contains j then !L.getD j true&&oj.after.any (fun e=>Region.binds .any e&&Nat.blt e.on ops.size&&(Nat.beq e.on i||T.contains e.on)) else L.getD j true||(o.apart ops oj&&X.contains j)
  | none=>true)
theorem tP {T:List Nat} {L:Array Bool} {i j:Nat} {o:Oper} (hT:T.contains j=false) (h:nW ops X T L i o=true):nW ops X T (L.setIfInBounds j true) i o=true:=by
 unfold nW at *
 rw [List.all_eq_true] at *
 intro k hk
 have:=h k hk
 by_cases hkj:k=j
 ·subst hkj
  have hlt:k<ops.size:=by simpa using hk
  rw [Array.getElem?_eq_getElem hlt]
  dsimp only
  rw [hT,if_neg (by decide),Bool.or_eq_true]
  refine .inr ?_
  by_cases hkl:k<L.size
  ·simp [hkl]
  ·have hn:L[k]? = none:=Array.getElem?_eq_none (by omega)
   simp [hkl]
 ·rw [kg hkj];exact this
theorem vC (T:List Nat) (hsel:kf ops=true) (i:Nat) {o:Oper} {d:Nat} {v:Value} (hi:ops[i]? = some o) (hdst:o.dst=some d) (hdn:d<n) :
  ∀ (f:Nat) (L:Array Bool) (e:Env) (w:World),C w→nW ops X T L i o=true→i∈Region.ready .any ops L→SV P n ops C o e v→AL P n ops X C K f (L.setIfInBounds i true) (upd e d v) w→AL P n ops X C K (f+1) L e w:=by
 intro f
 induction f with
 | zero =>
  intro L e w hC hf hr hy H
  refine ⟨fun h=>(by rw [h] at hr;cases hr),fun j hj=>?_⟩
  by_cases hji:j=i
  ·subst hji
   refine ⟨o,hi,fun a ha=>?_⟩
   unfold wpList
   rcases hy a ha with ⟨hw,hv⟩ | ⟨hw,rfl⟩
   ·rw [if_pos hw]
    refine .inl ?_
    unfold Oper.wp
    rw [hv w hC]
    simp only [Oper.upon,hdst]
    exact ⟨rfl,_,ha.put hdn v,fun _=>hC,H⟩
   ·rw [if_neg (by simp [hw])]
    rw [hdst]
    exact ⟨rfl,_,ha.put hdn _,fun _=>hC,H⟩
  ·have:=jq (i:=i) hji hj
   rw [H.1] at this;cases this
 | succ f ih =>
  intro L e w hC hf hr hy H
  refine ⟨fun h=>(by rw [h] at hr;cases hr),fun j hj=>?_⟩
  by_cases hji:j=i
  ·subst hji
   refine ⟨o,hi,fun a ha=>?_⟩
   unfold wpList
   rcases hy a ha with ⟨hw,hv⟩ | ⟨hw,rfl⟩
   ·rw [if_pos hw]
    refine .inl ?_
    unfold Oper.wp
    rw [hv w hC]
    simp only [Oper.upon,hdst]
    exact ⟨rfl,_,ha.put hdn v,fun _=>hC,H⟩
   ·rw [if_neg (by simp [hw])]
    rw [hdst]
    exact ⟨rfl,_,ha.put hdn _,fun _=>hC,H⟩
  ·obtain ⟨oj,hoj,hE⟩:=H.2 j (jq hji hj)
   have hjL:=(jy.1 hj)
   have hiL:=(jy.1 hr)
   have hpend:L.getD i false≠true:=fun h6=>by
    have:=hiL.1
    cases hx:L[i]? with
    | none=>simp [Array.getD_eq_getD_getElem?,hx] at this
    | some b=>simp [Array.getD_eq_getD_getElem?,hx] at this h6;simp [this] at h6
   have hap:T.contains j=false∧o.apart ops oj=true∧X.contains j=true:=by
    have h1:=hf
    unfold nW at h1
    rw [List.all_eq_true] at h1
    have h2:=h1 j (by simp [(Array.getElem?_eq_some_iff.1 hoj).1])
    have hb:Nat.beq j i=false:=lV hji
    rw [hb,Bool.false_or,hoj] at h2
    dsimp only at h2
    cases hT:T.contains j with
    | true =>
     exfalso
     rw [hT,if_pos rfl,Bool.and_eq_true] at h2
     obtain ⟨_,h3,h4⟩:=hjL.2
     rw [hoj] at h3;obtain rfl:=Option.some.inj h3
     have h2':=h2.2
     rw [Array.any_eq_true'] at h2'
     obtain ⟨ed,hm,h5⟩:=h2'
     rw [Bool.and_eq_true,Bool.and_eq_true,Bool.or_eq_true] at h5
     have h6:=h4 ed hm h5.1.1
     rcases h5.2 with h7 | h7
     ·rw [Nat.eq_of_beq_eq_true h7] at h6;exact hpend h6
     ·have hlt:ed.on<ops.size:=by simpa using h5.1.2
      have h8:=h1 ed.on (by simpa using hlt)
      rw [Array.getElem?_eq_getElem hlt] at h8
      dsimp only at h8
      rw [if_pos h7,Bool.or_eq_true,Bool.and_eq_true] at h8
      rcases h8 with h8 | ⟨h8,_⟩
      ·rw [Nat.eq_of_beq_eq_true h8] at h6;exact hpend h6
      ·cases hx:L[ed.on]? with
       | none=>simp [Array.getD_eq_getD_getElem?,hx] at h6
       | some b=>simp [Array.getD_eq_getD_getElem?,hx] at h8 h6;simp [h6] at h8
    | false =>
     rw [hT,if_neg (by decide),Bool.or_eq_true,Bool.and_eq_true] at h2
     rcases h2 with h2 | h2
     ·rw [hjL.1] at h2;cases h2
     ·exact ⟨rfl,h2⟩
   obtain ⟨h1,h2,h3⟩:=Oper.apart_spec hap.2.1
   have hso:=mz hsel hi
   have hsj:=mz hsel hoj
   refine ⟨oj,hoj,fun a ha=>?_⟩
   have h4:=hE _ (ha.put hdn v)
   have key:∀ u w',nrm n (fun e' w'=>(X.contains j=true→C w')∧AL P n ops X C K f ((L.setIfInBounds i true).setIfInBounds j true) e' w') .normal ((a.put (some d) v).put oj.dst u) w' →
     nrm n (fun e' w'=>(X.contains j=true→C w')∧AL P n ops X C K (f+1) (L.setIfInBounds j true) e' w') .normal (a.put oj.dst u) w':=by
    rintro u w' ⟨_,e1,he1,hc1,hA1⟩
    have hm2:Mt n (tj (a.put oj.dst u)) (a.put oj.dst u):=wa (by rw [rM,ha.size]) (by rw [sJ,ha.defers])
    have hcm:(a.put (some d) v).put oj.dst u=(a.put oj.dst u).put (some d) v:=Act.put_comm a v u (fun x hx=>by
     have:=h2 d hdst
     simp only [Option.some.injEq] at hx;subst hx;exact this)
    rw [hcm] at he1
    obtain rfl:=he1.uniq (hm2.put hdn v)
    refine ⟨rfl,_,hm2,hc1,ih _ _ _ (hc1 hap.2.2) (tP hap.1 hf) (jq (Ne.symm hji) hr) ?_ (by rw [← qJ];exact hA1)⟩
    intro b hb
    have hbt:b.tmps=(a.put oj.dst u).tmps:=ni (fun t=>by rw [hb.get t];rfl) (by rw [hb.size,hm2.size])
    have hbe:b.eval=(a.put oj.dst u).eval:=by rw [hb.eval,hm2.eval]
    rw [hbt,hbe,execOp_put o hso a oj.dst u h3,wanted_put o a oj.dst u h3]
    exact hy a ha
   unfold wpList at h4 ⊢
   have hwe:=wanted_put (ops:=ops) oj a (some d) v (fun x hx=>by simp only [Option.some.injEq] at hx;subst hx;exact h1 d hdst)
   have hxe:=execOp_put oj hsj a (some d) v (fun x hx=>by simp only [Option.some.injEq] at hx;subst hx;exact h1 d hdst)
   rw [hwe] at h4
   split
   ·rename_i hw
    rw [if_pos hw] at h4
    rcases h4 with h5 | ⟨_,h5⟩
    ·refine .inl ?_
     unfold Oper.wp at h5 ⊢
     rw [hxe] at h5
     refine rj key ?_ h5
     rintro dd u w' ⟨_,e1,he1,_⟩
     have:=he1.defers
     cases hdj:oj.dst <;> simp [Act.put,hdj] at this
    ·exact absurd h5 rO
   ·rename_i hw
    rw [if_neg hw] at h4
    exact key _ _ h4
theorem qE (T:List Nat) (hsel:kf ops=true) (i:Nat) {o:Oper} {d:Nat} {v:Value} {f:Nat} {L:Array Bool} {e:Env} {w:World} (hi:ops[i]? = some o) (hdst:o.dst=some d) (hdn:d<n) (hC:C w) (hf:nW ops X T L i o=true) (hr:(Region.ready .any ops L).contains i=true)
  (hy:SV P n ops C o e v) (hK:AL P n ops X C K f (L.setIfInBounds i true) (upd e d v) w):AL P n ops X C K (f+1) L e w :=
 vC T hsel i hi hdst hdn f L e w hC hf (by simpa using hr) hy hK
theorem bz {f:Nat} {L:Array Bool} {e:Env} {w:World} (h:Region.ready .any ops L=[]) (hK:K e w):AL P n ops X C K f L e w:=by
 cases f with
 | zero=>exact ⟨h,hK⟩
 | succ f=>exact ⟨fun _=>hK,fun i hi=>by rw [h] at hi;cases hi⟩
theorem xv (i:Nat) {f:Nat} {L:Array Bool} {e:Env} {w:World} {o:Oper} (hr:Region.ready .any ops L=[i]) (ho:ops[i]? = some o)
  (h:EL P n ops (fun e' w'=>(X.contains i=true→C w')∧AL P n ops X C K f (L.setIfInBounds i true) e' w') [o] e w):AL P n ops X C K (f+1) L e w :=
 ⟨fun h0=>(by rw [hr] at h0;cases h0),fun j hj=>by
  rw [hr] at hj
  have e:j=i:=by simpa using hj
  rw [e]
  exact ⟨o,ho,h⟩⟩
theorem ay {o:Oper} {e:Env} {v:Value} (hg:o.guard=none) (h:∀ w',C w'→PV P o e w' v):SV P n ops C o e v:=fun a ha=>.inl ⟨by simp [Region.wanted,hg],fun w' hw'=>by rw [ha.eval];exact h w' hw' w' (Ext.refl _)⟩
theorem tg (hsel:kf ops=true) (i:Nat) {o:Oper} {d:Nat} {v:Value} {f:Nat} {L:Array Bool} {e:Env} {w:World} (hi:ops[i]? = some o) (hdst:o.dst=some d) (hdn:d<n) (hC:C w) (hf:lB ops X L i o=true) (hr:(Region.ready .any ops L).contains i=true)
  (hy:SV P n ops C o e v) (hK:AL P n ops X C K f (L.setIfInBounds i true) (upd e d v) w):AL P n ops X C K (f+1) L e w :=
 wx hsel i hi hdst hdn f L e w hC hf (by simpa using hr) hy hK
section
variable {wA:World} {v:Value} {d:Nat} {ty:TypeId} {pos:String} {af:Array Edge} {x y:Operand} {α:Type} {R:Rep α} {E E':TypeId} {f:Nat} {L:Array Bool} {e:Env} {w:World}
theorem gS (hsel:kf ops=true) (i:Nat) {t:TypeId} [SliceT P t E'] {zz:List Value} {m bytes:Nat} [ElemT P E' zz m bytes] {xs:List α} (hi':ops[i]? = some ⟨some d,.indexAddr t x y,ty,pos,af,none⟩) (hC:C w) (hf:lB ops X L i ⟨some d,.indexAddr t x y,ty,pos,af,none⟩=true) (hrd:(Region.ready .any ops L).contains i=true)
  (hs:ev e x=v) (hr:(aA R E).rd wA [v] xs) (hn:R.sz=m) (hpos:0<m) {k:IntKind} {j:Int} (hi:ev e y=.int k j) {u:α} (h:ix xs j=some u) (hd:d<n)
  (hK:∀ b off ec,R.rd wA ec u→(∀ j c,ec[j]? = some c→wA.cell? ⟨b,off+j,none⟩=some c)→AL P n ops X C K f (L.setIfInBounds i true) (upd e d (.pointer (some ⟨b,off,none⟩))) w):AL P n ops X C K (f+1) L e w:=by
 obtain ⟨b,off,ec,h1,h2,h3⟩:=ot (P:=P) (d:=some d) (ty:=ty) (pos:=pos) (af:=af) (t:=t) hs hr hn hpos hi h
 exact tg hsel i hi' rfl hd hC hf hrd (ay rfl fun w' _=>h3 w') (hK b off ec h1 h2)
theorem q9 (hsel:kf ops=true) (i:Nat) {t:TypeId} {lo hi:Option Operand} [SliceT P t E'] {z:List Value} {m bytes:Nat} [ElemT P E' z m bytes] (hi':ops[i]? = some ⟨some d,.slice t x lo hi none,ty,pos,af,none⟩) (hC:C w) (hf:lB ops X L i ⟨some d,.slice t x lo hi none,ty,pos,af,none⟩=true) (hrd:(Region.ready .any ops L).contains i=true) (hn:R.sz=m)
  (hx:ev e x=v) {xs ys:List α} (hr:(aA R E).rd wA [v] xs) {l h:Int} (hlo:(lo.map (ev e)=some (.int .i64 l))∨(lo=none∧l=0)) (hhi:(hi.map (ev e)=some (.int .i64 h))∨(hi=none∧h=xs.length)) (hq:slc xs l h=some ys) (hd:d<n)
  (hK:∀ v',(aA R E).rd wA [v'] ys→AL P n ops X C K f (L.setIfInBounds i true) (upd e d v') w):AL P n ops X C K (f+1) L e w:=by
 obtain ⟨v',h1,h2⟩:=ow (P:=P) (d:=some d) (ty:=ty) (pos:=pos) (af:=af) (t:=t) hn hx hr hlo hhi hq
 exact tg hsel i hi' rfl hd hC hf hrd (ay rfl fun w' _=>h2 w') (hK v' h1)
end
end
class FlatR {α:Type} (R:Rep α) (f:outParam (α→Value)):Prop where
 h:∀ {w:World} {cs:List Value} {x:α},R.rd w cs x→cs=[f x]
instance:FlatR cp (Value.int .i64):=⟨fun h=>h⟩
instance:FlatR u8R (Value.int .u8):=⟨fun h=>h⟩
instance:FlatR lh Value.bool:=⟨fun h=>h⟩
section
variable {P:Program} {n:Nat} {ops:Array Oper} {K:Env→World→Prop} {KQ:Env→Prop} {rest:List Oper} {e:Env} {w w0:World} {v:Value} {d:Nat} {ty:TypeId} {pos:String} {af:Array Edge} {Γ:List Asn} {x y:Operand} {α:Type} {R:Rep α} {E:TypeId} {f:α→Value}
theorem Sat.ownCell (i:Nat) [hf:FlatR R f] {xs:List α} (hS:Sat w0 w Γ) (hi:Γ[i]? = some (Own (aA R E) [v] xs)) {g cap ln:Nat} (hv:v=.slice (some ⟨g,0,none⟩) ln cap) {j:Int} {u:α} (h:ix xs j=some u):w.cell? ⟨g,j.toNat*1,none⟩=some (f u):=by
 obtain ⟨k,rfl,hk,rfl⟩:=fO h
 obtain ⟨fp,ho,_⟩:=(hS.top i hi).head
 rcases ho with ⟨_,h2,_⟩ | ⟨g',cap',cur,ccs,f2,hv',hg,h1,h2,h3,h4,h5,rfl⟩
 ·subst h2;simp at hk
 subst hv
 simp at hv'
 obtain ⟨rfl,rfl,rfl⟩:=hv'
 obtain ⟨ec,hec,hcc⟩:=kW (ek h5) k hk
 obtain rfl:=hf.h hec
 have hsz:R.sz=1:=by have:=R.rd_len hec;simpa using this.symm
 have h0:=hcc 0 _ rfl
 rw [cell_of_row w g _ cur E (0,0) hg,← Array.getElem?_toList]
 rw [← h4,List.getElem?_take] at h0
 simp only [Int.toNat_natCast]
 rw [hsz] at h0
 split at h0
 ·simpa using h0
 ·cases h0
theorem c6 (i:Nat) {xs:List α} (hS:Sat w0 w Γ) (hi:Γ[i]? = some (Own (aA R E) [v] xs)) {j:Int} {u:α} (h:ix xs j=some u):∃ g cap,v=.slice (some ⟨g,0,none⟩) xs.length cap:=by
 obtain ⟨k,rfl,hk,rfl⟩:=fO h
 rcases (hS.top i hi).shape with ⟨_,h2⟩ | ⟨g,cap,h⟩
 ·subst h2;simp at hk
 ·exact ⟨g,cap,h⟩
theorem cS {d:Option Nat} {t:TypeId} [ht:SliceT P t E] {zz:List Value} {bytes:Nat} [hz:ElemT P E zz 1 bytes] {xs:List α} (hs:ev e x=v) {g cap:Nat} (hv:v=.slice (some ⟨g,0,none⟩) xs.length cap) {k:IntKind} {j:Int} (hi:ev e y=.int k j) {u:α} (h:ix xs j=some u) :
  PV P ⟨d,.indexAddr t x y,ty,pos,af,none⟩ e w (.pointer (some ⟨g,j.toNat*1,none⟩)):=fun w' _=>by
 obtain ⟨k',rfl,hk,rfl⟩:=fO h
 subst hv
 have hz:=hz.h
 cases hq:P.info? E with
 | none=>simp [hq] at hz
 | some inf =>
  simp [hq] at hz
  have hsz:inf.size=1:=hz.2.1
  unfold execOp
  simp [hs,hi,Instr.indexAt,asIntOf,run_underlying ht.h,sizeOf,typeInfo,hq,hk,Addr.add_lit,hsz]
end
end Go.Proofs.Ytnipkopfefkojaa
namespace Go.Proofs.Ytnipkopfefkojaa
theorem x4:Goes Try.prog 4:=⟨_,Try.func4,by kernel_rfl,by kernel_rfl⟩
theorem yb:Goes Try.prog 5:=⟨_,Try.func5,by kernel_rfl,by kernel_rfl⟩
theorem ya:Goes Try.prog 6:=⟨_,Try.func6,by kernel_rfl,by kernel_rfl⟩
theorem ye:Goes Try.prog 7:=⟨_,Try.func7,by kernel_rfl,by kernel_rfl⟩
theorem x5:Goes Try.prog 8:=⟨_,Try.func8,by kernel_rfl,by kernel_rfl⟩
theorem xY:Goes Try.prog 9:=⟨_,Try.func9,by kernel_rfl,by kernel_rfl⟩
theorem ud:Goes Try.prog 10:=⟨_,Try.func10,by kernel_rfl,by kernel_rfl⟩
theorem xN:Goes Try.prog 11:=⟨_,Try.func11,by kernel_rfl,by kernel_rfl⟩
theorem xa:Goes Try.prog 12:=⟨_,Try.func12,by kernel_rfl,by kernel_rfl⟩
theorem xS:Goes Try.prog 13:=⟨_,Try.func13,by kernel_rfl,by kernel_rfl⟩
theorem pd:Goes Try.prog 14:=⟨_,Try.func14,by kernel_rfl,by kernel_rfl⟩
theorem q8:Goes Try.prog 15:=⟨_,Try.func15,by kernel_rfl,by kernel_rfl⟩
theorem xb:Goes Try.prog 16:=⟨_,Try.func16,by kernel_rfl,by kernel_rfl⟩
theorem rx:Goes Try.prog 17:=⟨_,Try.func17,by kernel_rfl,by kernel_rfl⟩
theorem pj:Goes Try.prog 18:=⟨_,Try.func18,by kernel_rfl,by kernel_rfl⟩
theorem rp:Goes Try.prog 19:=⟨_,Try.func19,by kernel_rfl,by kernel_rfl⟩
theorem uT:Goes Try.prog 20:=⟨_,Try.func20,by kernel_rfl,by kernel_rfl⟩
theorem fU:Goes Try.prog 21:=⟨_,Try.func21,by kernel_rfl,by kernel_rfl⟩
theorem kT:Goes Try.prog 22:=⟨_,Try.func22,by kernel_rfl,by kernel_rfl⟩
theorem o6:Goes Try.prog 23:=⟨_,Try.func23,by kernel_rfl,by kernel_rfl⟩
theorem uQ:Goes Try.prog 24:=⟨_,Try.func24,by kernel_rfl,by kernel_rfl⟩
theorem vi:Goes Try.prog 25:=⟨_,Try.func25,by kernel_rfl,by kernel_rfl⟩
theorem e9:Goes Try.prog 26:=⟨_,Try.func26,by kernel_rfl,by kernel_rfl⟩
theorem xP:Goes Try.prog 27:=⟨_,Try.func27,by kernel_rfl,by kernel_rfl⟩
theorem xw:Goes Try.prog 28:=⟨_,Try.func28,by kernel_rfl,by kernel_rfl⟩
theorem xO:Goes Try.prog 29:=⟨_,Try.func29,by kernel_rfl,by kernel_rfl⟩
theorem uH:Goes Try.prog 30:=⟨_,Try.func30,by kernel_rfl,by kernel_rfl⟩
theorem uL:Goes Try.prog 31:=⟨_,Try.func31,by kernel_rfl,by kernel_rfl⟩
theorem uZ:Goes Try.prog 32:=⟨_,Try.func32,by kernel_rfl,by kernel_rfl⟩
theorem xF:Goes Try.prog 33:=⟨_,Try.func33,by kernel_rfl,by kernel_rfl⟩
theorem uI:Goes Try.prog 34:=⟨_,Try.func34,by kernel_rfl,by kernel_rfl⟩
theorem xh:Goes Try.prog 35:=⟨_,Try.func35,by kernel_rfl,by kernel_rfl⟩
theorem xl:Goes Try.prog 36:=⟨_,Try.func36,by kernel_rfl,by kernel_rfl⟩
theorem nu:Goes Try.prog 37:=⟨_,Try.func37,by kernel_rfl,by kernel_rfl⟩
theorem nB:Goes Try.prog 38:=⟨_,Try.func38,by kernel_rfl,by kernel_rfl⟩
theorem uM:Goes Try.prog 39:=⟨_,Try.func39,by kernel_rfl,by kernel_rfl⟩
theorem uB:Goes Try.prog 40:=⟨_,Try.func40,by kernel_rfl,by kernel_rfl⟩
theorem xV:Goes Try.prog 41:=⟨_,Try.func41,by kernel_rfl,by kernel_rfl⟩
theorem nH:Goes Try.prog 42:=⟨_,Try.func42,by kernel_rfl,by kernel_rfl⟩
theorem qQ:Goes Try.prog 43:=⟨_,Try.func43,by kernel_rfl,by kernel_rfl⟩
theorem uR:Goes Try.prog 44:=⟨_,Try.func44,by kernel_rfl,by kernel_rfl⟩
theorem vk:Goes Try.prog 45:=⟨_,Try.func45,by kernel_rfl,by kernel_rfl⟩
theorem xm:Goes Try.prog 46:=⟨_,Try.func46,by kernel_rfl,by kernel_rfl⟩
theorem uF:Goes Try.prog 47:=⟨_,Try.func47,by kernel_rfl,by kernel_rfl⟩
theorem w6:Goes Try.prog 48:=⟨_,Try.func48,by kernel_rfl,by kernel_rfl⟩
theorem wZ:Goes Try.prog 49:=⟨_,Try.func49,by kernel_rfl,by kernel_rfl⟩
theorem rr:Goes Try.prog 50:=⟨_,Try.func50,by kernel_rfl,by kernel_rfl⟩
theorem kx:Goes Try.prog 51:=⟨_,Try.func51,by kernel_rfl,by kernel_rfl⟩
theorem iy:Goes Try.prog 52:=⟨_,Try.func52,by kernel_rfl,by kernel_rfl⟩
theorem nO:Goes Try.prog 53:=⟨_,Try.func53,by kernel_rfl,by kernel_rfl⟩
theorem ui:Goes Try.prog 54:=⟨_,Try.func54,by kernel_rfl,by kernel_rfl⟩
theorem uk:Goes Try.prog 55:=⟨_,Try.func55,by kernel_rfl,by kernel_rfl⟩
theorem rR:Goes Try.prog 56:=⟨_,Try.func56,by kernel_rfl,by kernel_rfl⟩
theorem kV:Goes Try.prog 57:=⟨_,Try.func57,by kernel_rfl,by kernel_rfl⟩
theorem qW:Goes Try.prog 58:=⟨_,Try.func58,by kernel_rfl,by kernel_rfl⟩
theorem rS:Goes Try.prog 59:=⟨_,Try.func59,by kernel_rfl,by kernel_rfl⟩
theorem xp:Goes Try.prog 60:=⟨_,Try.func60,by kernel_rfl,by kernel_rfl⟩
theorem nP:Goes Try.prog 61:=⟨_,Try.func61,by kernel_rfl,by kernel_rfl⟩
theorem nx:Goes Try.prog 62:=⟨_,Try.func62,by kernel_rfl,by kernel_rfl⟩
theorem xn:Goes Try.prog 63:=⟨_,Try.func63,by kernel_rfl,by kernel_rfl⟩
theorem jP:Goes Try.prog 64:=⟨_,Try.func64,by kernel_rfl,by kernel_rfl⟩
theorem xg:Goes Try.prog 65:=⟨_,Try.func65,by kernel_rfl,by kernel_rfl⟩
theorem vc:Goes Try.prog 66:=⟨_,Try.func66,by kernel_rfl,by kernel_rfl⟩
theorem xd:Goes Try.prog 67:=⟨_,Try.func67,by kernel_rfl,by kernel_rfl⟩
theorem w4:Goes Try.prog 68:=⟨_,Try.func68,by kernel_rfl,by kernel_rfl⟩
theorem pb:Goes Try.prog 69:=⟨_,Try.func69,by kernel_rfl,by kernel_rfl⟩
theorem i7:Goes Try.prog 70:=⟨_,Try.func70,by kernel_rfl,by kernel_rfl⟩
theorem vn:Goes Try.prog 71:=⟨_,Try.func71,by kernel_rfl,by kernel_rfl⟩
theorem rh:Goes Try.prog 72:=⟨_,Try.func72,by kernel_rfl,by kernel_rfl⟩
theorem xK:Goes Try.prog 73:=⟨_,Try.func73,by kernel_rfl,by kernel_rfl⟩
theorem uU:Goes Try.prog 74:=⟨_,Try.func74,by kernel_rfl,by kernel_rfl⟩
theorem uP:Goes Try.prog 75:=⟨_,Try.func75,by kernel_rfl,by kernel_rfl⟩
theorem uj:Goes Try.prog 76:=⟨_,Try.func76,by kernel_rfl,by kernel_rfl⟩
theorem u9:Goes Try.prog 77:=⟨_,Try.func77,by kernel_rfl,by kernel_rfl⟩
theorem qO:Goes Try.prog 78:=⟨_,Try.func78,by kernel_rfl,by kernel_rfl⟩
theorem uw:Goes Try.prog 79:=⟨_,Try.func79,by kernel_rfl,by kernel_rfl⟩
theorem rg:Goes Try.prog 80:=⟨_,Try.func80,by kernel_rfl,by kernel_rfl⟩
theorem xj:Goes Try.prog 81:=⟨_,Try.func81,by kernel_rfl,by kernel_rfl⟩
theorem us:Goes Try.prog 82:=⟨_,Try.func82,by kernel_rfl,by kernel_rfl⟩
theorem xB:Goes Try.prog 83:=⟨_,Try.func83,by kernel_rfl,by kernel_rfl⟩
theorem rC:Goes Try.prog 84:=⟨_,Try.func84,by kernel_rfl,by kernel_rfl⟩
theorem rP:Goes Try.prog 85:=⟨_,Try.func85,by kernel_rfl,by kernel_rfl⟩
end Go.Proofs.Ytnipkopfefkojaa
namespace Go.Proofs.Ytnipkopfefkojaa
open Go.RowKit Go.ChangeShapes Go.WideShapes Go.ChangeAt

def qG {α:Type} (P:Program) (R:Rep α) (T:TypeId):Prop :=
 ∀ {H:Type} (enc:TypeId × Value→H) (w:World) (base:Nat) (spare:Nat→Bool) (held:Bool) (fuel:Nat) (cs:List Value) (x:DataW H × List MemPlace),DataW.trod enc P w base spare held fuel T cs=some x→∃ y,R.rd w cs y

theorem rX {α:Type} {P:Program} {R:Rep α} {T e E:TypeId} (ht:P.underlying T=some (.slice e)) (hs:P.cellsOf e=R.sz) (hpos:0<R.sz) (ho:qG P R e):qG P (aA R E) T:=by
 intro H enc w base spare held fuel cs x h
 rcases DataW.trod_slice ht h with ⟨rfl,_⟩ | ⟨a,len,cap,elems,rst,n,_,rfl,_,hb,hlc,hm,hel,hev,_⟩
 ·exact ⟨[],none,0,[],rfl,Nat.le_refl _,Nat.zero_le _,fun _=>rfl,rfl,.inl rfl⟩
 ·have hone:∀ i,i<len→∃ ec y,R.rd w ec y∧∀ j c,ec[j]? = some c→w.cell? (a.add (i*R.sz) |>.add j)=some c:=by
   intro i hi
   have h1:=hev i hi
   rw [List.getElem?_eq_getElem (by omega),hs] at h1
   obtain ⟨ec,h2,h3⟩:=Option.bind_eq_some_iff.1 h1
   obtain ⟨y,hy⟩:=ho enc w base spare held n ec _ h3
   obtain ⟨_,h4,h5⟩:=World.cells?_some h2
   exact ⟨ec,y,hy,fun j c hj=>by rw [h5 j (by have:=(List.getElem?_eq_some_iff.1 hj).1;omega)];exact hj⟩
  by_cases hl0:len=0
  ·subst hl0
   exact ⟨[],some a,cap,[],rfl,hlc,hm,by simp,rfl,.inl rfl⟩
  obtain ⟨b,off,spot⟩:=a
  have hspot:spot=none:=by
   obtain ⟨ec,y,hy,hc⟩:=hone 0 (by omega)
   have hl:=R.rd_len hy
   have h0:=hc 0 ec[0] (by simp)
   simp only [Nat.zero_mul,Addr.add,if_true] at h0
   cases spot with
   | none=>rfl
   | some s =>
    unfold World.cell? at h0
    split at h0 <;> simp at h0
  subst hspot
  have hall:∀ k,k≤len→∃ ys ccs,ys.length=k∧rdL R w ccs ys∧∀ j c,ccs[j]? = some c→w.cell? ⟨b,off+j,none⟩=some c:=by
   intro k
   induction k with
   | zero=>intro _;exact ⟨[],[],rfl,rfl,by simp⟩
   | succ k ih =>
    intro hk
    obtain ⟨ys,ccs,h1,h2,h3⟩:=ih (by omega)
    obtain ⟨ec,y,hy,hc⟩:=hone k (by omega)
    refine ⟨ys++[y],ccs++ec,by simp [h1],oX (ys:=[y]) ⟨ec,[],by simp,hy,rfl⟩ h2,fun j c hj=>?_⟩
    have hcl:=fj h2
    by_cases hj1:j<ccs.length
    ·rw [List.getElem?_append_left hj1] at hj;exact h3 j c hj
    ·rw [List.getElem?_append_right (by omega)] at hj
     have:=hc (j-ccs.length) c hj
     rw [Addr.add_lit,Addr.add_lit] at this
     rw [show off+j=off+k*R.sz+(j-ccs.length) by rw [hcl,h1] at *;omega]
     exact this
  obtain ⟨ys,ccs,h1,h2,h3⟩:=hall len (Nat.le_refl _)
  exact ⟨ys,some ⟨b,off,none⟩,cap,ccs,by rw [h1],by omega,hm,by simp,h2,.inr ⟨b,off,rfl,h3⟩⟩
def rk (n:Int):Prop:=0≤n∧n≤255
def u8F:Rep Int where
 sz:=1
 rd _ cs n:=cs=[.int .u8 n]∧rk n
 own _ cs n fp:=(cs=[.int .u8 n]∧rk n)∧fp=[]
 rd_len h:=by rw [h.1];rfl
 rd_one h:=by rw [h.1];simp [Value.oneCell']
 rd_ext h _:=h
 own_rd h:=h.1
 own_ext h _:=h
 own_lt h:=by rw [h.2];simp
theorem wf8 {n:Int} (h:(Lit.int .u8 n).wf=true):rk n:=by
 unfold Lit.wf at h
 simp only [Bool.and_eq_true,decide_eq_true_eq] at h
 exact ⟨h.1,h.2⟩
theorem tU {P:Program} {T:TypeId} (ht:P.underlying T=some (.int .u8)):qG P u8F T:=by
 intro H enc w base spare held fuel cs x h
 obtain ⟨n,rfl,_,hw⟩:=DataW.trod_int ht h
 exact ⟨n,rfl,wf8 hw⟩
theorem uy {w:World}:∀ {xs:List Int} {ccs:List Value},rdL u8F w ccs xs→rdL u8R w ccs xs∧∀ v∈xs,rk v
 | [],_,h=>⟨h,by simp⟩
 | x :: xs,_,h=>by
  obtain ⟨ec,rest,rfl,h1,h2⟩:=h
  obtain ⟨g1,g2⟩:=uy h2
  refine ⟨⟨ec,rest,rfl,h1.1,g1⟩,fun v hv=>?_⟩
  rcases List.mem_cons.1 hv with rfl | hv
  ·exact h1.2
  ·exact g2 v hv
theorem vv {E:TypeId} {w:World} {cs:List Value} {xs:List Int} (h:(aA u8F E).rd w cs xs):(aA u8R E).rd w cs xs∧∀ v∈xs,rk v:=by
 obtain ⟨ao,cap,ccs,rfl,h1,h2,h3,h4,h5⟩:=h
 obtain ⟨g1,g2⟩:=uy h4
 exact ⟨⟨ao,cap,ccs,rfl,h1,h2,h3,g1,h5⟩,g2⟩
end Go.Proofs.Ytnipkopfefkojaa
namespace Go.Proofs.Ytnipkopfefkojaa
open Go.RowKit

theorem bs {α β:Type} (a:α) (f:α→Option β):(some a).bind f=f a:=rfl
theorem aT {α:Type} {xs:List α} {i:Nat} (h:i<xs.length):ix xs (i:Int)=some xs[i]:=by
 unfold ix;rw [if_pos (by omega)];simp [h]
theorem gZ {α:Type} {xs:List α} {i:Int} (h0:0≤i) (h:i<xs.length):ix xs i=some (xs[i.toNat]'(by omega)):=by
 unfold ix;rw [if_pos h0];simp
theorem kU {n:Int} (h:-4611686018427387904≤n) (h2:n≤4611686018427387904):rng n=true:=by
 unfold rng;simp only [Bool.and_eq_true,decide_eq_true_eq];omega
theorem gQ {a b:Int} (h:-4611686018427387904≤a+b) (h2:a+b≤4611686018427387904):ad a b=some (a+b):=by unfold ad;rw [if_pos (kU h h2)]
theorem gm {a b:Int} (h:-4611686018427387904≤a-b) (h2:a-b≤4611686018427387904):sb a b=some (a-b):=by unfold sb;rw [if_pos (kU h h2)]
theorem qH {a b:Int} (h:-4611686018427387904≤a*b) (h2:a*b≤4611686018427387904):ml a b=some (a*b):=by unfold ml;rw [if_pos (kU h h2)]
theorem ad1 {i:Nat} (h:i<1099511627776):ad (i:Int) 1=some ((i+1:Nat):Int):=by rw [gQ (by omega) (by omega)];simp
theorem dlt {i n:Nat} (h:i<n):decide ((i:Int)<(n:Int))=true:=by simp;omega
theorem dge {i n:Nat} (h:¬ i<n):decide ((i:Int)<(n:Int))=false:=by simp;omega
theorem jv {α:Type} {xs:List α} {i:Nat} {y:α} (h:i<xs.length):sto xs (i:Int) y=some (xs.set i y):=by
 unfold sto;rw [if_pos ⟨by omega,by simpa using h⟩];simp
theorem xM {α:Type} {b:Nat} {xs ys:List α} (h:(xs.length+ys.length)*b≤140737488355328):apd b xs ys=some (xs++ys):=by unfold apd;rw [if_pos h]
theorem bt {α:Type} {b:Nat} {xs ys:List α} (hb:b≤64) (h:xs.length+ys.length≤2199023255552):apd b xs ys=some (xs++ys):=by
 refine xM (Nat.le_trans (Nat.mul_le_mul h hb) (by omega))
theorem we {α:Type} {b:Nat} {z:α} {n:Nat} (hb:b≤64) (h:n≤2199023255552):mk b z (n:Int)=some (List.replicate n z):=by
 unfold mk;rw [if_pos ⟨by omega,by simpa using Nat.le_trans (Nat.mul_le_mul h hb) (by omega),by simp;omega⟩];simp
theorem iG {α:Type} {xs:List α} {lo hi:Nat} (h1:lo≤hi) (h2:hi≤xs.length):slc xs (lo:Int) (hi:Int)=some ((xs.take hi).drop lo):=by
 unfold slc;rw [if_pos ⟨by omega,by omega,by omega⟩];simp

theorem ge {R V:Type} (L:Nat→Int→Option (Sum R V)) (n:Nat) (hn:n<1099511627776) (b:R) (p:Nat→Bool) (v:V)
  (hstep:∀ k i,i<n→L (k+1) (i:Int)=bif p i then L k ((i+1:Nat):Int) else some (.inl b))
  (hend:∀ k,L (k+1) (n:Int)=some (.inr v)) :
  ∀ k i,i≤n→n-i<k→L k (i:Int)=some (bif (List.range' i (n-i)).all p then .inr v else .inl b):=by
 intro k
 induction k with
 | zero=>intro i hi hk;omega
 | succ k ih =>
  intro i hi hk
  by_cases h:i<n
  ·rw [hstep k i h,show n-i=(n-(i+1))+1 by omega,List.range'_succ,List.all_cons]
   cases hp:p i with
   | true=>rw [cond_true,Bool.true_and];exact ih (i+1) (by omega) (by omega)
   | false=>rfl
  ·obtain rfl:i=n:=by omega
   rw [hend k,Nat.sub_self];rfl
theorem gk {α:Type} (xs:List α) (p:α→Bool) (q:Nat→Bool) (h:∀ i (hi:i<xs.length),q i=p xs[i]):(List.range' 0 xs.length).all q=xs.all p:=by
 rw [Bool.eq_iff_iff,List.all_eq_true,List.all_eq_true]
 constructor
 ·intro hq x hx
  obtain ⟨i,hi,rfl⟩:=List.getElem_of_mem hx
  rw [← h i hi];exact hq i (by simp;omega)
 ·intro hp i hi
  have hi':i<xs.length:=by simpa using hi
  rw [h i hi'];exact hp _ (List.getElem_mem hi')
theorem vY {α:Type} [DecidableEq α] {xs ys:List α} (hl:xs.length=ys.length) (q:Nat→Bool) (h:∀ i (hi:i<xs.length),q i=decide (xs[i]=ys[i]'(by omega))):(List.range' 0 xs.length).all q=decide (xs=ys):=by
 rw [Bool.eq_iff_iff,List.all_eq_true,decide_eq_true_iff]
 constructor
 ·intro hq
  refine List.ext_getElem hl fun i h1 h2=>?_
  have:=hq i (by simp;omega)
  rw [h i h1] at this
  exact of_decide_eq_true this
 ·rintro rfl i hi
  have hi':i<xs.length:=by simpa using hi
  rw [h i hi'];simp

section
variable {α:Type}
def lc (p:α→Prop) (m:Nat) (xs:List α):Prop:=xs.length≤m∧∀ x∈xs,p x

end
theorem rT (x y:Int):(x != y)=!decide (x=y):=by by_cases h:x=y <;> simp [h]
theorem vx (x y:Int):(x == y)=decide (x=y):=by by_cases h:x=y <;> simp [h]
theorem sT (s r:ByteArray):eqS s r=decide (s=r):=by
 unfold eqS
 rw [Bool.eq_iff_iff,decide_eq_true_iff]
 constructor
 ·intro h
  have h1:s.toList=r.toList:=by simpa using h
  rw [ByteArray.toList_eq,ByteArray.toList_eq] at h1
  cases s;cases r;simp_all
 ·rintro rfl;simp
end Go.Proofs.Ytnipkopfefkojaa
namespace Go.Proofs.Ytnipkopfefkojaa
open Go.RowKit Go.ChangeShapes Go.WideShapes Go.ChangeAt
theorem vS:ownKnob Try.prog.godebug=none:=by kernel_rfl
theorem vM:laidOutB Try.prog=true:=by kernel_rfl
theorem u6 {α:Type} {R:Rep α} {E:TypeId} {p:α→Prop} (h:∀ {w:World} {cs:List Value} {x:α},R.rd w cs x→p x) {w:World} {cs:List Value} {xs:List α} (hr:(aA R E).rd w cs xs):lc p 9223372036854775807 xs:=by
 obtain ⟨ao,cap,ccs,rfl,h1,h2,h3,h4,h5⟩:=hr
 refine ⟨by unfold maxLen at h2;omega,fun x hx=>?_⟩
 obtain ⟨j,hj,rfl⟩:=List.getElem_of_mem hx
 obtain ⟨ec,h6,_⟩:=kW h4 j hj
 exact h h6
theorem vW:qG Try.prog (aA u8F 5) 22:=rX Try.underlying22 (by kernel_rfl) (by decide) (tU Try.underlying5)
theorem yd {w:World} {cs:List Value} {x:List Int} (h:((aA u8R 5)).rd w cs x):(lc (fun _=>True) 9223372036854775807) x:=u6 (fun _=>trivial) h
end Go.Proofs.Ytnipkopfefkojaa
namespace Go.Proofs.Ytnipkopfefkojaa
open Go.RowKit

theorem Sat.splitp {w0 w:World} {A B C:Asn} {Γ:List Asn} (h:Sat w0 w (A :: Γ)) (k:∀ f,A.holds w f→∃ p q,(p++q).Perm f∧B.holds w p∧C.holds w q):Sat w0 w (B :: C :: Γ):=by
 obtain ⟨hb,_,⟨f1,f2,rfl,h1,h2⟩,hn,h3⟩:=h
 obtain ⟨p,q,hp,k1,k2⟩:=k f1 h1
 have hpp:(p++(q++f2)).Perm (f1++f2):=by rw [← List.append_assoc];exact List.Perm.append_right _ hp
 exact ⟨hb,p++(q++f2),⟨p,q++f2,rfl,k1,q,f2,rfl,k2,h2⟩,hpp.nodup_iff.2 hn,fun b hb'=>h3 b (hpp.mem_iff.1 hb')⟩
theorem Sat.joinp {w0 w:World} {A B C:Asn} {Γ:List Asn} (h:Sat w0 w (A :: B :: Γ)) (k:∀ f g,A.holds w f→B.holds w g→∃ p,p.Perm (f++g)∧C.holds w p):Sat w0 w (C :: Γ):=by
 obtain ⟨hb,_,⟨f1,_,rfl,h1,f2,f3,rfl,h2,h4⟩,hn,h3⟩:=h
 obtain ⟨p,hp,k1⟩:=k f1 f2 h1 h2
 have hpp:(p++f3).Perm (f1++(f2++f3)):=by rw [← List.append_assoc];exact List.Perm.append_right _ hp
 exact ⟨hb,p++f3,⟨p,f3,rfl,k1,h4⟩,hpp.nodup_iff.2 hn,fun b hb'=>h3 b (hpp.mem_iff.1 hb')⟩
section
variable {α β:Type} {R:Rep α} {S:Rep β} {w0 w:World} {Γ:List Asn} {E:TypeId} {v:Value}
def vR (R:Rep α) (E:TypeId) (v:Value) (xs:List α) (i:Nat) (ec:List Value):Asn where
 holds w fp:=(∀ b∈fp,b<w.heap.size)∧∀ w' y f',(∀ b∈fp,w'.heap[b]? = w.heap[b]?)→R.own w' ec y f'→∃ p,p.Perm (f'++fp)∧(aA R E).own w' [v] (xs.set i y) p
 ext h he:=by
  refine ⟨fun b hb=>?_,fun w'' y f' he' ho=>h.2 w'' y f' (fun b hb=>(he' b hb).trans (he b hb)) ho⟩
  have h1:=h.1 b hb
  have h2:=he b hb
  rw [Array.getElem?_eq_getElem h1] at h2
  exact (Array.getElem?_eq_some_iff.1 h2).1
 lt h:=h.1
theorem lN {w:World}:∀ {xs:List α} {ccs:List Value} {f:List Nat},dq R w ccs xs f→∀ (k:Nat) (hk:k<xs.length),
  ∃ ec f1 f2 f3,R.own w ec xs[k] f2∧f=f1++(f2++f3)∧(∀ j c,ec[j]? = some c→ccs[k*R.sz+j]? = some c) ∧
   ∀ w' y f',(∀ b∈f1++f3,w'.heap[b]? = w.heap[b]?)→R.own w' ec y f'→dq R w' ccs (xs.set k y) (f1++(f'++f3))
 | [],_,_,_,k,hk=>absurd hk (by simp)
 | x :: xs,_,_,h,k,hk=>by
  obtain ⟨ec,rest,f1,f2,rfl,rfl,h1,h2⟩:=h
  cases k with
  | zero =>
   refine ⟨ec,[],f1,f2,h1,rfl,fun j c hj=>?_,fun w' y f' he ho=>?_⟩
   ·have hlt:j<ec.length:=(List.getElem?_eq_some_iff.1 hj).1
    rw [Nat.zero_mul,Nat.zero_add,List.getElem?_append_left hlt];exact hj
   ·exact ⟨ec,rest,f',f2,rfl,rfl,ho,ew h2 fun b hb=>he b (by simpa using hb)⟩
  | succ k =>
   obtain ⟨ec',g1,g2,g3,k1,rfl,k3,k4⟩:=lN h2 k (by simpa using hk)
   refine ⟨ec',f1++g1,g2,g3,by simpa using k1,by simp,fun j c hj=>?_,fun w' y f' he ho=>?_⟩
   ·have e:(k+1)*R.sz+j=ec.length+(k*R.sz+j):=by rw [R.rd_len (R.own_rd h1),Nat.add_mul];omega
    rw [e,List.getElem?_append_right (by omega),Nat.add_sub_cancel_left]
    exact k3 j c hj
   ·refine ⟨ec,rest,f1,g1++(f'++g3),rfl,by simp,R.own_ext h1 fun b hb=>he b (by simp [hb]),k4 w' y f' (fun b hb=>he b ?_) ho⟩
    rcases List.mem_append.1 hb with h | h
    ·simp [h]
    ·simp [h]
theorem Sat.unpair {c d:List Value} {x:α × β} (hS:Sat w0 w (Own (mB R S) (c++d) x :: Γ)) (hc:c.length=R.sz):Sat w0 w (Own R c x.1 :: Own S d x.2 :: Γ):=by
 refine hS.splitp fun f hf=>?_
 obtain ⟨c1,c2,f1,f2,hcs,rfl,h1,h2⟩:=hf
 have hl:=R.rd_len (R.own_rd h1)
 obtain ⟨rfl,rfl⟩:=List.append_inj hcs (by omega)
 exact ⟨f1,f2,.refl _,h1,h2⟩
end
end Go.Proofs.Ytnipkopfefkojaa
namespace Go.Proofs.Ytnipkopfefkojaa
open Go.RowKit

theorem Sat.rebase {a b w:World} {Γ:List Asn} (h:Sat b w Γ) (hx:Ext a b):Sat a w Γ:=by
 obtain ⟨hb,fp,h1,h2,h3⟩:=h
 exact ⟨Ext.trans hx hb,fp,h1,h2,fun x hx'=>Nat.le_trans hx.size (h3 x hx')⟩
theorem Sat.drop {w0 w:World} {Γ Δ:List Asn} (h:Sat w0 w (Γ++Δ)):Sat w0 w Δ:=by
 induction Γ with
 | nil=>simpa using h
 | cons A Γ ih=>exact ih h.tail
def roR {α:Type} (W:World) (R:Rep α):Rep α where
 sz:=R.sz
 rd _ cs x:=R.rd W cs x
 own _ cs x fp:=R.rd W cs x∧fp=[]
 rd_len h:=R.rd_len h
 rd_one h:=R.rd_one h
 rd_ext h _:=h
 own_rd h:=h.1
 own_ext h _:=h
 own_lt h:=by rw [h.2];simp
section
variable {α:Type} {R:Rep α} {W w w0 w':World} {E:TypeId} {Γ:List Asn} {v:Value} {xs:List α}
theorem ut (hx:Ext W w):∀ {xs:List α} {ccs:List Value},rdL (roR W R) w ccs xs→rdL R w ccs xs
 | [],_,h=>h
 | x :: xs,_,h=>by
  obtain ⟨ec,rest,rfl,h1,h2⟩:=h
  exact ⟨ec,rest,rfl,R.rd_ext h1 hx,ut hx h2⟩
theorem x3 {cs:List Value} (hx:Ext W w) (h:(aA (roR W R) E).rd w cs xs):(aA R E).rd w cs xs:=by
 obtain ⟨ao,cap,ccs,h1,h2,h3,h4,h5,h6⟩:=h
 exact ⟨ao,cap,ccs,h1,h2,h3,h4,ut hx h5,h6⟩
theorem Sat.roOne {cs:List Value} {x:α} (hS:Sat w0 w Γ) (h:R.rd W cs x):Sat w0 w (Own (roR W R) cs x :: Γ):=hS.add ⟨h,rfl⟩
def uN (w:World) (E:TypeId) (ao:Option Addr) (ccs:List Value) (fp f2:List Nat):Prop :=
 (ccs=[]∧fp=f2)∨∃ g off cur,ao=some ⟨g,off,none⟩∧w.heap[g]? = some (.cells cur E (0,0))∧(∀ j c,ccs[j]? = some c→cur[off+j]? = some c)∧fp=g :: f2
def mF {α:Type} (R:Rep α) (E:TypeId):Rep (List α) where
 sz:=1
 rd w cs xs:=(aA R E).rd w cs xs
 own w cs xs fp:=∃ ao cap ccs f2,cs=[.slice ao xs.length cap]∧xs.length≤cap∧cap≤maxLen∧(ao=none→cap=0)∧dq R w ccs xs f2∧uN w E ao ccs fp f2
 rd_len h:=(aA R E).rd_len h
 rd_one h:=(aA R E).rd_one h
 rd_ext h he:=(aA R E).rd_ext h he
 own_rd h:=by
  obtain ⟨ao,cap,ccs,f2,rfl,h1,h2,h3,h4,h5⟩:=h
  refine ⟨ao,cap,ccs,rfl,h1,h2,h3,ek h4,?_⟩
  rcases h5 with ⟨rfl,_⟩ | ⟨g,off,cur,rfl,hg,hc,_⟩
  ·exact .inl rfl
  ·refine .inr ⟨g,off,rfl,fun j c hj=>?_⟩
   rw [cell_of_row _ g _ cur E (0,0) hg];exact hc j c hj
 own_ext h he:=by
  obtain ⟨ao,cap,ccs,f2,rfl,h1,h2,h3,h4,h5⟩:=h
  rcases h5 with ⟨hc,rfl⟩ | ⟨g,off,cur,rfl,hg,hc,rfl⟩
  ·exact ⟨ao,cap,ccs,_,rfl,h1,h2,h3,ew h4 he,.inl ⟨hc,rfl⟩⟩
  ·exact ⟨_,cap,ccs,f2,rfl,h1,h2,h3,ew h4 (fun b hb=>he b (by simp [hb])),.inr ⟨g,off,cur,rfl,by rw [he g (by simp)];exact hg,hc,rfl⟩⟩
 own_lt h:=by
  obtain ⟨ao,cap,ccs,f2,rfl,h1,h2,h3,h4,h5⟩:=h
  rcases h5 with ⟨hc,rfl⟩ | ⟨g,off,cur,rfl,hg,hc,rfl⟩
  ·exact eW h4
  ·intro b hb
   rcases List.mem_cons.1 hb with rfl | hb
   ·exact (Array.getElem?_eq_some_iff.1 hg).1
   ·exact eW h4 b hb
theorem Sat.toTail (hS:Sat w0 w (Own (aA R E) [v] xs :: Γ)):Sat w0 w (Own (mF R E) [v] xs :: Γ):=by
 refine hS.conv fun f hf=>?_
 rcases hf with ⟨hv,rfl,rfl⟩ | ⟨g,cap,cur,ccs,f2,hv,hg,h1,h2,h3,h4,h5,rfl⟩
 ·exact ⟨none,0,[],[],hv,Nat.le_refl _,Nat.zero_le _,fun _=>rfl,⟨rfl,rfl⟩,.inl ⟨rfl,rfl⟩⟩
 ·refine ⟨_,cap,ccs,f2,hv,h1,h2,by simp,h5,.inr ⟨g,0,cur,rfl,hg,fun j c hj=>?_,rfl⟩⟩
  rw [Nat.zero_add,← Array.getElem?_toList]
  rw [← h4,List.getElem?_take] at hj
  split at hj
  ·exact hj
  ·cases hj
def oq (R:Rep α) (E:TypeId) (v:Value) (xs:List α):Asn where
 holds w fp:=∃ ao cap ec rest f2,v=.slice ao xs.length cap∧xs.length≤cap∧cap≤maxLen∧(ao=none→cap=0)∧ec.length=R.sz∧dq R w rest xs.tail f2∧uN w E ao (ec++rest) fp f2
 ext h he:=by
  obtain ⟨ao,cap,ec,rest,f2,rfl,h1,h2,h3,hl,h4,h5⟩:=h
  rcases h5 with ⟨hc,rfl⟩ | ⟨g,off,cur,rfl,hg,hc,rfl⟩
  ·exact ⟨ao,cap,ec,rest,_,rfl,h1,h2,h3,hl,ew h4 he,.inl ⟨hc,rfl⟩⟩
  ·exact ⟨_,cap,ec,rest,f2,rfl,h1,h2,h3,hl,ew h4 (fun b hb=>he b (by simp [hb])),.inr ⟨g,off,cur,rfl,by rw [he g (by simp)];exact hg,hc,rfl⟩⟩
 lt h:=by
  obtain ⟨ao,cap,ec,rest,f2,rfl,h1,h2,h3,hl,h4,h5⟩:=h
  rcases h5 with ⟨hc,rfl⟩ | ⟨g,off,cur,rfl,hg,hc,rfl⟩
  ·exact eW h4
  ·intro b hb
   rcases List.mem_cons.1 hb with rfl | hb
   ·exact (Array.getElem?_eq_some_iff.1 hg).1
   ·exact eW h4 b hb
theorem Sat.behead {u:α} {ec:List Value} {m b off:Nat} (hS:Sat w0 w (Own (mF R E) [v] xs :: Γ)) (h:ix xs 0=some u) (hn:R.sz=m) (hpos:0<m) (hl:ec.length=m)
  (hv:∃ ln cap,v=.slice (some ⟨b,off,none⟩) ln cap) (hm:∀ j c,ec[j]? = some c→w.cell? ⟨b,off+j,none⟩=some c):Sat w0 w (Own R ec u :: oq R E v xs :: Γ):=by
 subst hn
 refine hS.splitp fun f hf=>?_
 obtain ⟨ao,cap,ccs,f2,hcs,h1,h2,h3,h4,h5⟩:=hf
 cases xs with
 | nil=>simp [ix] at h
 | cons x xs =>
  obtain rfl:x=u:=by simpa [ix] using h
  obtain ⟨ec',rest,g1,g2,rfl,rfl,k1,k2⟩:=h4
  have hl':=R.rd_len (R.own_rd k1)
  obtain ⟨ln,cap',rfl⟩:=hv
  simp only [List.cons.injEq,and_true,Value.slice.injEq] at hcs
  obtain ⟨rfl,rfl,rfl⟩:=hcs
  rcases h5 with ⟨hc,rfl⟩ | ⟨g,off',cur,hao,hg,hc,rfl⟩
  ·rw [List.append_eq_nil_iff] at hc;rw [hc.1] at hl';simp at hl';omega
  ·simp only [Option.some.injEq,Addr.mk.injEq,and_true] at hao
   obtain ⟨rfl,rfl⟩:=hao
   have hec:ec=ec':=by
    refine List.ext_getElem (by omega) fun j hj1 hj2=>?_
    have e1:=hm j ec[j] (List.getElem?_eq_getElem hj1)
    have e2:=hc j ec'[j] (by rw [List.getElem?_append_left hj2];exact List.getElem?_eq_getElem hj2)
    rw [cell_of_row w b _ cur E (0,0) hg,e2] at e1
    exact (Option.some.inj e1).symm
   subst hec
   exact ⟨g1,b :: g2,List.perm_middle,k1,_,_,ec,rest,g2,rfl,h1,h2,h3,hl,k2,.inr ⟨b,off,cur,rfl,hg,hc,rfl⟩⟩
theorem Sat.behead' (hS:Sat w0 w (Own (mF R E) [v] xs :: Γ)) (h:0<xs.length):Sat w0 w (oq R E v xs :: Γ):=by
 obtain ⟨ao,hao⟩:∃ A,A=Asn.mk (fun w fp=>True∧∀ b∈fp,b<w.heap.size) (fun h he=>⟨trivial,fun b hb=>by
  have h1:=h.2 b hb
  have h2:=he b hb
  rw [Array.getElem?_eq_getElem h1] at h2
  exact (Array.getElem?_eq_some_iff.1 h2).1⟩) (fun h=>h.2):=⟨_,rfl⟩
 refine Sat.tail (A:=ao) ?_
 refine hS.splitp fun f hf=>?_
 obtain ⟨ao',cap,ccs,f2,hcs,h1,h2,h3,h4,h5⟩:=hf
 cases xs with
 | nil=>simp at h
 | cons x xs =>
  obtain ⟨ec',rest,g1,g2,rfl,rfl,k1,k2⟩:=h4
  have hl':=R.rd_len (R.own_rd k1)
  have hv:v=.slice ao' (x :: xs).length cap:=by simpa using hcs
  subst hao
  rcases h5 with ⟨hc,rfl⟩ | ⟨g,off',cur,hao,hg,hc,rfl⟩
  ·exact ⟨g1,g2,.refl _,⟨trivial,R.own_lt k1⟩,ao',cap,ec',rest,g2,hv,h1,h2,h3,hl',k2,.inl ⟨hc,rfl⟩⟩
  ·exact ⟨g1,g :: g2,List.perm_middle,⟨trivial,R.own_lt k1⟩,ao',cap,ec',rest,g2,hv,h1,h2,h3,hl',k2,.inr ⟨g,off',cur,hao,hg,hc,rfl⟩⟩
end
section
variable {P:Program} {n:Nat} {ops:Array Oper} {K:Env→World→Prop} {rest:List Oper} {e:Env} {w w0:World} {v:Value} {d:Nat} {ty:TypeId} {pos:String} {af:Array Edge} {Γ:List Asn} {x y:Operand} {α:Type} {R:Rep α} {E:TypeId}
theorem cV {t:TypeId} {lo:Operand} [ht:SliceT P t E] {z:List Value} {m bytes:Nat} [hz:ElemT P E z m bytes] (hn:R.sz=m) (hpos:0<m) {xs ys:List α} (hS:Sat w0 w (oq R E v xs :: Γ)) (hx:ev e x=v) (hlo:ev e lo=.int .i64 1) (hq:slc xs 1 (xs.length:Int)=some ys) (hd:d<n)
  (hK:∀ v',Sat w0 w (Own (mF R E) [v'] ys :: Γ)→EL P n ops K rest (upd e d v') w):EL P n ops K (⟨some d,.slice t x (some lo) none none,ty,pos,af,none⟩ :: rest) e w:=by
 have hlen:1≤xs.length∧ys=xs.tail:=by
  unfold slc at hq
  split at hq
  ·rename_i h0
   refine ⟨by omega,?_⟩
   have:=Option.some.inj hq
   rw [← this];simp
  ·cases hq
 obtain ⟨hl1,rfl⟩:=hlen
 obtain ⟨fp,⟨ao,cap,ec,rs,f2,rfl,h1,h2,h3,hl,h4,h5⟩,_⟩:=hS.head
 have hz:=hz.h
 cases hq':P.info? E with
 | none=>simp [hq'] at hz
 | some inf =>
  simp [hq'] at hz
  have hsz:inf.size=R.sz:=by rw [hn];exact hz.2.1
  refine km (v:=.slice (if cap=1 then ao else ao.map (·.add (1*inf.size))) (xs.length-1) (cap-1)) ?_ hd (hK _ ?_)
  ·intro w' _
   have hb:(Instr.sliceBounds true xs.length cap (some (.int .i64 1)) none none).run P w'=.ok (1,xs.length,cap) w':=by
    have h9:xs.length≤cap:=h1
    simp [Instr.sliceBounds,Instr.sliceBound,asIntOf,h9,hl1]
    intro h;omega
   unfold execOp
   simp only [hx,Instr.sliceAt,Sem.run_bind,run_underlying ht.h,Result.andThen_ok,Instr.slice,Option.map_some,hlo,Option.map_none,hb,sizeOf,typeInfo,hq',run_program,Sem.run_pure]
  ·refine hS.conv fun f hf=>?_
   obtain ⟨ao',cap',ec',rs',f2',hv,k1,k2,k3,kl,k4,k5⟩:=hf
   simp only [Value.slice.injEq] at hv
   obtain ⟨rfl,_,rfl⟩:=hv
   have hrl:=fj (ek k4)
   refine ⟨(if cap=1 then ao else ao.map (·.add (1*inf.size))),cap-1,rs',f2',by simp,by simp;omega,by omega,?_,k4,?_⟩
   ·intro e0
    split at e0
    ·omega
    ·cases ao with
     | none=>have:=k3 rfl;omega
     | some _=>simp at e0
   ·rcases k5 with ⟨hc,rfl⟩ | ⟨g,off,cur,rfl,hg,hc,rfl⟩
    ·rw [List.append_eq_nil_iff] at hc
     exact .inl ⟨hc.2,rfl⟩
    ·by_cases hc1:cap=1
     ·
      have:xs.tail=[]:=by apply List.eq_nil_of_length_eq_zero;simp;omega
      rw [if_pos hc1]
      have hr0:rs'=[]:=by apply List.eq_nil_of_length_eq_zero;rw [hrl,this];simp
      subst hr0
      exact .inr ⟨g,off,cur,rfl,hg,by simp,rfl⟩
     ·rw [if_neg hc1]
      refine .inr ⟨g,off+inf.size,cur,by simp [Addr.add_lit],hg,fun j c hj=>?_,rfl⟩
      rw [hsz,← kl,Nat.add_assoc]
      exact hc _ c (by rw [List.getElem?_append_right (by omega),Nat.add_sub_cancel_left];exact hj)
theorem eP {t:TypeId} [ht:SliceT P t E] {zz:List Value} {m bytes:Nat} [hz:ElemT P E zz m bytes] {xs:List α} (hS:Sat w0 w (Own (mF R E) [v] xs :: Γ)) (hs:ev e x=v)
  (hn:R.sz=m) (hpos:0<m) {k:IntKind} (hi:ev e y=.int k 0) {u:α} (h:ix xs 0=some u) (hd:d<n)
  (hK:∀ b off ec,(∃ ln cap,v=.slice (some ⟨b,off,none⟩) ln cap)→R.rd w ec u→(∀ j c,ec[j]? = some c→w.cell? ⟨b,off+j,none⟩=some c)→EL P n ops K rest (upd e d (.pointer (some ⟨b,off,none⟩))) w) :
  EL P n ops K (⟨some d,.indexAddr t x y,ty,pos,af,none⟩ :: rest) e w:=by
 have hr:(aA R E).rd w [v] xs:=hS.rd
 obtain ⟨ao,cap,ccs,hv,h1,h2,h3,h4,h5⟩:=hr
 obtain rfl:v=.slice ao xs.length cap:=by simpa using hv
 obtain ⟨k',hk0,hk,rfl⟩:=fO h
 obtain rfl:k'=0:=by omega
 obtain ⟨ec,hec,hcc⟩:=kW h4 0 hk
 have hz:=hz.h
 have hlen:=fj h4
 cases hq:P.info? E with
 | none=>simp [hq] at hz
 | some inf =>
  simp [hq] at hz
  obtain ⟨b,off,rfl,hc⟩:∃ b off,ao=some ⟨b,off,none⟩∧∀ j c,ccs[j]? = some c→w.cell? ⟨b,off+j,none⟩=some c:=by
   rcases h5 with rfl | ⟨b,off,rfl,hc⟩
   ·have:0<xs.length*R.sz:=Nat.mul_pos (by omega) (by omega)
    simp at hlen;omega
   ·exact ⟨b,off,rfl,hc⟩
  refine km (v:=.pointer (some ⟨b,off,none⟩)) ?_ hd (hK b off ec ⟨_,_,rfl⟩ hec fun j c hj=>hc _ _ (by have:=hcc j c hj;simpa using this))
  intro w' _
  unfold execOp
  simp [hs,hi,Instr.indexAt,asIntOf,run_underlying ht.h,sizeOf,typeInfo,hq,hk,Addr.add_lit]
end

def eO (a b:Int):Int:=IntKind.i64.wrap ((BitVec.ofInt IntKind.i64.bits a &&& BitVec.ofInt IntKind.i64.bits b).toNat)
def iD (a b:Int):Int:=IntKind.i64.wrap ((BitVec.ofInt IntKind.i64.bits a ^^^ BitVec.ofInt IntKind.i64.bits b).toNat)
def sr (a b:Int):Option Int:=if 0≤b then some (a.fdiv (2 ^ (min b.toNat IntKind.i64.bits))) else none
def kA (s r:ByteArray):Option ByteArray:=if s.size+r.size≤9223372036854775807 then some (s++r) else none
theorem kp {s r c:ByteArray} (h:kA s r=some c):c.size≤9223372036854775807:=by
 unfold kA at h
 split at h
 ·rename_i h0
  obtain rfl:=Option.some.inj h
  rw [ByteArray.size_append];exact h0
 ·cases h
section
variable {P:Program} {e:Env} {w:World} {d:Option Nat} {ty:TypeId} {pos:String} {af:Array Edge} {x y:Operand}
theorem qU {t u:TypeId} {a b:Int} (hx:ev e x=.int .i64 a) (hy:ev e y=.int .i64 b):PV P ⟨d,.binOp .and t x y u,ty,pos,af,none⟩ e w (.int .i64 (eO a b)):=fun w' _=>by
 unfold execOp eO;simp [hx,hy,eqGuard,binOp,Op.intBits]
theorem xz {t u:TypeId} {a b:Int} (hx:ev e x=.int .i64 a) (hy:ev e y=.int .i64 b):PV P ⟨d,.binOp .xor t x y u,ty,pos,af,none⟩ e w (.int .i64 (iD a b)):=fun w' _=>by
 unfold execOp iD;simp [hx,hy,eqGuard,binOp,Op.intBits]
theorem tY {t u:TypeId} {k2:IntKind} {a b c:Int} (hx:ev e x=.int .i64 a) (hy:ev e y=.int k2 b) (h:sr a b=some c):PV P ⟨d,.binOp .shr t x y u,ty,pos,af,none⟩ e w (.int .i64 c):=fun w' _=>by
 unfold sr at h
 split at h
 ·rename_i h0
  obtain rfl:=Option.some.inj h
  have h1:¬ b<0:=by omega
  unfold execOp;simp [hx,hy,eqGuard,binOp,Op.shift,h1]
 ·cases h
theorem jA {t u:TypeId} {s r c:ByteArray} (hx:ev e x=.string s) (hy:ev e y=.string r) (h:kA s r=some c):PV P ⟨d,.binOp .add t x y u,ty,pos,af,none⟩ e w (.string c):=fun w' _=>by
 unfold kA at h
 split at h
 ·rename_i h0
  obtain rfl:=Option.some.inj h
  have h1:¬ (((s.size+r.size:Nat):Int) > IntKind.i64.max):=by
   have:IntKind.i64.max=9223372036854775807:=by decide
   rw [this];omega
  unfold execOp;simp only [hx,hy,eqGuard,binOp,Op.stringOp,Sem.run_bind,Sem.run_pure,Result.andThen_ok,if_neg h1]
  simp
 ·cases h
instance flat_str:FlatR hX (fun s=>.string s):=⟨fun h=>h.1⟩
theorem uK {E:TypeId} (i:Nat) {xs:List ByteArray} {v:Value} {w0 w:World} {Γ:List Asn} (hS:Sat w0 w Γ) (hi:Γ[i]? = some (Own (aA hX E) [v] xs)) {j:Int} {u:ByteArray} (h:ix xs j=some u):u.size≤9223372036854775807:=by
 obtain ⟨k,rfl,hk,rfl⟩:=fO h
 obtain ⟨ao,cap,ccs,_,_,_,_,h4,_⟩:=hS.rdAt (R:=aA hX E) i hi
 obtain ⟨ec,hec,_⟩:=kW h4 k hk
 exact hec.2
def ssl (s:ByteArray) (l h:Int):Option ByteArray:=if 0≤l∧l≤h∧h≤(s.size:Int) then some (s.extract l.toNat h.toNat) else none
theorem oG {s c:ByteArray} {l h:Int} (hs:s.size≤9223372036854775807) (hq:ssl s l h=some c):c.size≤9223372036854775807:=by
 unfold ssl at hq
 split at hq
 ·obtain rfl:=Option.some.inj hq
  rw [ByteArray.size_extract];omega
 ·cases hq
theorem ny {t:TypeId} {lo hi:Option Operand} {s c:ByteArray} (ht:P.underlying t=some .string) (hx:ev e x=.string s) {l h:Int} (hlo:(lo.map (ev e)=some (.int .i64 l))∨(lo=none∧l=0)) (hhi:(hi.map (ev e)=some (.int .i64 h))∨(hi=none∧h=s.size)) (hq:ssl s l h=some c):PV P ⟨d,.slice t x lo hi none,ty,pos,af,none⟩ e w (.string c):=fun w' _=>by
  unfold ssl at hq
  split at hq
  case isFalse=>cases hq
  rename_i h0
  obtain rfl:=Option.some.inj hq
  obtain ⟨l',rfl⟩:=Int.eq_ofNat_of_zero_le h0.1
  obtain ⟨h',rfl⟩:=Int.eq_ofNat_of_zero_le (Int.le_trans h0.1 h0.2.1)
  obtain ⟨_,hlh,hh⟩:=h0
  replace hlh:l'≤h':=by omega
  replace hh:h'≤s.size:=by omega
  simp only [Int.toNat_natCast]
  have hb:(Instr.sliceBounds false s.size s.size (lo.map (ev e)) (hi.map (ev e)) none).run P w'=.ok (l',h',s.size) w':=by
    rcases hlo with e1 | ⟨e1,e1'⟩ <;> rcases hhi with e2 | ⟨e2,e2'⟩
    all_goals
      (try rw [e1]);(try rw [e2])
      first
        | (simp [Instr.sliceBounds,Instr.sliceBound,asIntOf,hh,hlh];done)
        | (have:l'=0:=by omega
           subst this
           simp [Instr.sliceBounds,Instr.sliceBound,asIntOf,hh,hlh];done)
        | (have:h'=s.size:=by omega
           subst this
           simp [Instr.sliceBounds,Instr.sliceBound,asIntOf,hlh];done)
        | (have:l'=0:=by omega
           have:h'=s.size:=by omega
           subst_vars
           simp [Instr.sliceBounds,Instr.sliceBound,asIntOf])
  unfold execOp
  simp only [hx,Instr.sliceAt,Sem.run_bind,run_underlying ht,Result.andThen_ok,Instr.slice,hb,Sem.run_pure,Option.map_none,Option.isSome_none,Bool.false_eq_true,if_false]
end
theorem pV:∀ (vs:List Value) (i:Nat) (cells:List Value),cells.length=i+vs.length→mx (fun i=>some (i*1,1)) cells ((vs.zipIdx i).map fun p=>(p.2,[p.1]))=some (cells.take i++vs)
 | [],i,cells,h=>by
  simp only [List.length_nil,Nat.add_zero] at h
  show some cells=some (cells.take i++[])
  rw [List.append_nil,List.take_of_length_le (by omega)]
 | v :: vs,i,cells,h=>by
  simp only [List.length_cons] at h
  have e1:i*1=i:=Nat.mul_one i
  simp only [List.zipIdx_cons,List.map_cons,mx,List.length_singleton,e1]
  rw [show Nat.beq 1 1=true from rfl,Bool.true_and]
  have hb:Nat.ble (i+1) cells.length=true:=by rw [Nat.ble_eq];omega
  rw [hb,cond_true,pV vs (i+1) _ (by simp;omega)]
  congr 1
  rw [List.take_append_of_le_length (by simp;omega),List.take_of_length_le (by simp;omega)]
  simp
section
variable {P:Program} {n:Nat} {ops:Array Oper} {K:Env→World→Prop} {rest:List Oper} {e:Env} {w w0:World} {d:Nat} {ty:TypeId} {pos:String} {af:Array Edge} {Γ:List Asn} {E:TypeId} {α:Type} {R:Rep α}
theorem cK {t:TypeId} [ht:SliceT P t E] {z:List Value} {bytes:Nat} [hz:ElemT P E z 1 bytes] {parts:Array (Nat × Operand)} {k:Nat} (vs:List Value) {xs:List α} (hsz:R.sz=1) (hk:vs.length=k) (hxl:xs.length=k) (hk1:Nat.ble k 16777216=true)
  (hp:parts.toList.map (fun p=>(p.1,(ev e p.2).cells))=((vs.zipIdx 0).map fun p=>(p.2,[p.1].toArray))) (hown:∀ w,dq R w vs xs []) (hS:Sat w0 w Γ) (hd:d<n)
  (hK:∀ w' v,Sat w0 w' (Own (aA R E) [v] xs :: Γ)→Ext w w'→EL P n ops K rest (upd e d v) w'):EL P n ops K (⟨some d,.buildSlice t k parts,ty,pos,af,none⟩ :: rest) e w:=by
 intro a ha
 refine wpList_plain rfl fun K' hK'=>?_
 have hz:=hz.h
 cases hi:P.info? E with
 | none=>simp [hi] at hz
 | some i =>
 cases hzz:i.zero with
 | none=>simp [hi,hzz] at hz
 | some zv =>
 simp [hi,hzz] at hz
 obtain ⟨hz1,hz2,hz3⟩:=hz
 have hk':¬ (k*1 > 2 ^ 24):=by have:=Nat.le_of_ble_eq_true hk1;omega
 have hfill:∀ A:Array Value,A.size=k→Instr.fill (fun i=>some (i*1,1)) A (parts.toList.map fun p=>(p.1,ev e p.2))=some vs.toArray:=by
  intro A hA
  have:=pD (fun i=>some (i*1,1)) (parts.toList.map fun p=>(p.1,ev e p.2)) ((vs.zipIdx 0).map fun p=>(p.2,[p.1])) A.toList (r:=vs) (by
   rw [List.map_map,List.map_map];exact hp) (by rw [pV vs 0 A.toList (by simp;omega)];simp)
  simpa using this
 have hr:(Instr.buildSlice t k (parts.map fun p=>(p.1,ev e p.2))).run P w=.ok (.slice (some ⟨w.heap.size,0,none⟩) k k) (w.alloc (.cells vs.toArray E)):=by
  unfold Instr.buildSlice
  simp only [run_underlying ht.h,sizeOf,typeInfo,hi,hz2,Sem.run_bind,Sem.run_pure,run_program,Result.andThen_ok,if_neg hk',Sem.run_ite,Array.toList_map]
  by_cases h0:k*1=0
  ·simp only [h0,if_true,Sem.run_pure,Result.andThen_ok]
   have hk0:k=0:=by omega
   rw [hfill _ (by simp;omega)]
   simp [newRow,hk0]
  ·simp only [h0,if_false,zeroValue,typeInfo,hi,hzz,Sem.run_bind,Sem.run_pure,run_program,Result.andThen_ok]
   rw [hfill _ (by simp)]
   simp [newRow]
 unfold Oper.wp execOp
 simp only [ha.eval,hr,Sem.run_bind,Sem.run_pure,Result.andThen_ok,Oper.upon_value]
 refine hK' _ _ (hK _ _ ?_ (il _ _) _ (ha.put hd _))
 refine (hS.box E vs).conv fun f hf=>?_
 obtain ⟨rfl,hf⟩:=hf
 have h2:=Nat.le_of_ble_eq_true hk1
 exact .inr ⟨w.heap.size,k,vs.toArray,vs,[],by rw [hxl],hf,by omega,by unfold maxLen;omega,by simp [hsz,hk],by rw [hsz,hxl,Nat.mul_one];exact List.take_of_length_le (by simp;omega),hown _,by simp⟩
theorem jm (xs:List Int) (w:World):dq cp w (xs.map (Value.int .i64)) xs []:=by
 induction xs with
 | nil=>exact ⟨rfl,rfl⟩
 | cons x xs ih=>exact ⟨[.int .i64 x],_,[],[],rfl,rfl,⟨rfl,rfl⟩,ih⟩
theorem kd {xs:List ByteArray} (h:xs.all (fun s=>Nat.ble s.size 1000000)=true) (w:World):dq hX w (xs.map Value.string) xs []:=by
 induction xs with
 | nil=>exact ⟨rfl,rfl⟩
 | cons x xs ih =>
  rw [List.all_cons,Bool.and_eq_true] at h
  exact ⟨[.string x],_,[],[],rfl,rfl,⟨⟨rfl,by have:=Nat.le_of_ble_eq_true h.1;omega⟩,rfl⟩,ih h.2⟩
end
def lX {α:Type} (R:Rep α) (j:Nat) (c:Value) (u y:α):Prop:=∀ w ec f,R.own w ec u f→j<ec.length∧R.own w (ec.set j c) y f
theorem w5 {s:ByteArray} (hs:s.size≤9223372036854775807) (x:ByteArray):lX hX 0 (.string s) x s:=fun w ec f h=>by obtain ⟨⟨rfl,_⟩,rfl⟩:=h;exact ⟨by simp,⟨rfl,hs⟩,rfl⟩
theorem w9 {α β:Type} {R:Rep α} {S:Rep β} {j:Nat} {c:Value} {x:α × β} {y:α} (h:lX R j c x.1 y):lX (mB R S) j c x (y,x.2):=fun w ec f hf=>by
 obtain ⟨c1,c2,f1,f2,rfl,rfl,h1,h2⟩:=hf
 obtain ⟨k1,k2⟩:=h w c1 f1 h1
 exact ⟨by simp;omega,c1.set j c,c2,f1,f2,List.set_append_left _ _ k1,rfl,k2,h2⟩
theorem rF {α:Type} {R:Rep α} {w:World} {j:Nat} {c:Value} {y:α}:∀ {xs:List α} {ccs:List Value} {f:List Nat},dq R w ccs xs f→∀ (k:Nat) (hk:k<xs.length),lX R j c xs[k] y→dq R w (ccs.set (k*R.sz+j) c) (xs.set k y) f
 | [],_,_,_,k,hk,_=>absurd hk (by simp)
 | x :: xs,_,_,h,k,hk,hu=>by
  obtain ⟨ec,rest,f1,f2,rfl,rfl,h1,h2⟩:=h
  cases k with
  | zero =>
   obtain ⟨k1,k2⟩:=hu w ec f1 h1
   exact ⟨ec.set j c,rest,f1,f2,by rw [Nat.zero_mul,Nat.zero_add,List.set_append_left _ _ k1],rfl,k2,h2⟩
  | succ k =>
   have hl:=R.rd_len (R.own_rd h1)
   refine ⟨ec,rest.set (k*R.sz+j) c,f1,f2,?_,rfl,h1,rF h2 k (by simpa using hk) (by simpa using hu)⟩
   rw [List.set_append_right _ _ (by rw [Nat.succ_mul];omega)]
   congr 2;rw [Nat.succ_mul];omega
section
variable {P:Program} {n:Nat} {ops:Array Oper} {K:Env→World→Prop} {rest:List Oper} {e:Env} {w w0:World} {v:Value} {ty:TypeId} {pos:String} {af:Array Edge} {Γ:List Asn} {x y:Operand} {α:Type} {R:Rep α} {E:TypeId}
theorem uJ {t:TypeId} {z:List Value} {bytes:Nat} [hz:ElemT P t z 1 bytes] {xs ys:List α} {g ln cap o j m:Nat} {u yv:α} {c:Value} (hv:v=.slice (some ⟨g,0,none⟩) ln cap)
  (hS:Sat w0 w (Own (aA R E) [v] xs :: Γ)) {i:Int} (hix:ix xs i=some u) (h:sto xs i yv=some ys) (hn:R.sz=m) (ho:o=i.toNat*m+j) (hx:ev e x=.pointer (some ⟨g,o,none⟩)) (hy:(ev e y).cells=[c].toArray) (h1:c.oneCell'=true)
  (hup:lX R j c u yv) (hK:∀ w',Sat w0 w' (Own (aA R E) [v] ys :: Γ)→EL P n ops K rest e w'):EL P n ops K (⟨none,.store t x y,ty,pos,af,none⟩ :: rest) e w:=by
 intro a ha
 refine wpList_plain rfl fun K' hK'=>?_
 obtain ⟨k,rfl,hk,rfl⟩:=fO hix
 have hys:ys=xs.set k yv:=by
  unfold sto at h;split at h
  ·simpa using (Option.some.inj h).symm
  ·cases h
 subst hys hv hn ho
 simp only [Int.toNat_natCast] at hx
 have hz:=hz.h
 cases hi:P.info? t with
 | none=>simp [hi] at hz
 | some inf =>
  simp [hi] at hz
  obtain ⟨fp,hv,_⟩:=hS.head
  obtain ⟨cur,hh,hcs⟩:∃ cur,w.heap[g]? = some (.cells cur E (0,0))∧xs.length*R.sz≤cur.size:=by
   rcases hv with ⟨h,_⟩ | ⟨g',cap',cur,ccs,f2,h,hg',h1,h2,h3,_⟩
   ·simp at h
   ·simp at h
    obtain ⟨rfl,_⟩:=h
    exact ⟨cur,hg',by rw [h3];exact Nat.mul_le_mul_right _ h1⟩
  have hjm:j<R.sz:=by
   rcases hv with ⟨_,h,_⟩ | ⟨g',cap',cur,ccs,f2,_,_,_,_,_,_,h5,_⟩
   ·subst h;simp at hk
   ·obtain ⟨ec,f1,f2,f3,k1,_,_,_⟩:=lN h5 k hk
    have:=(hup w ec f2 k1).1
    rw [R.rd_len (R.own_rd k1)] at this;exact this
  have hkk:k*R.sz+R.sz≤xs.length*R.sz:=by have:=Nat.mul_le_mul_right R.sz hk;rw [Nat.succ_mul] at this;exact this
  have hh':w.heap[g]? = some (.cells cur.toList.toArray E (0,0)):=by simpa using hh
  obtain ⟨w',hr,hnew,hc⟩:=e8 (P:=P) [c] (k*R.sz+j) 0 cur.toList w hh' (by simp;omega) (by simpa using h1)
  have hsz:¬ ([c].toArray.size≠inf.size):=by simp;omega
  unfold Oper.wp execOp
  simp only [ha.eval,hx,Instr.storeAt,Instr.sureAddr,storeVar,sizeOf,typeInfo,hi,hy,Sem.run_bind,Sem.run_pure,run_program,Result.andThen_ok,hsz,if_false,Sem.run_ite,List.toList_toArray,hr,Oper.upon_skip]
  refine hK' _ _ (hK w' ?_ _ ha)
  refine hS.upd ?_
  intro fp2 hv2 hnd2
  rcases hv2 with ⟨h,_⟩ | ⟨g',cap',cur',ccs,f2,h,hg',h1,h2,h3,h4,h5,rfl⟩
  ·simp at h
  ·simp at h
   obtain ⟨rfl,rfl,rfl⟩:=h
   obtain ⟨rfl⟩:cur'=cur:=by rw [hh] at hg';simpa using hg'.symm
   have h6:=rF h5 k hk hup
   have hoth:∀ x,x≠g→x<w.heap.size→w'.heap[x]? = w.heap[x]?:=fun x hx hlt=>hc.block x hlt (by simpa using hx)
   have hgn:g∉f2:=(List.nodup_cons.1 hnd2).1
   have hcl:ccs.length=xs.length*R.sz:=fj (ek h5)
   refine ⟨g :: f2,.inr ⟨g,cap,_,ccs.set (k*R.sz+j) c,f2,by simp,hnew,by simpa using h1,h2,?_,?_,ew h6 (fun b hb=>hoth b (fun e=>hgn (e ▸ hb)) (eW h5 b hb)),rfl⟩,hnd2,hc.mono (by simp),fun b hb=>.inl hb⟩
   ·simp only [List.size_toArray,List.length_append,List.length_take,List.length_drop,Array.length_toList,List.length_singleton,Nat.add_zero]
    omega
   ·rw [← h4,List.length_set]
    have:=lA cur.toList [c] (k*R.sz+j) 1 (xs.length*R.sz) (by omega) (by simpa using hcs) rfl
    simp only [Nat.add_zero,List.length_singleton] at this ⊢
    rw [this,List.set_eq_take_append_cons_drop,if_pos (by simp;omega)]
    simp
end
theorem fI {P:Program} {n:Nat} {ops:Array Oper} {X:List Nat} {C:World→Prop} {K:Env→World→Prop} (i j:Nat) {f:Nat} {L:Array Bool} {e:Env} {w:World} {o o':Oper} (hr:Region.ready .any ops L=[i,j]) (ho:ops[i]? = some o) (ho':ops[j]? = some o')
  (h:EL P n ops (fun e' w'=>(X.contains i=true→C w')∧AL P n ops X C K f (L.setIfInBounds i true) e' w') [o] e w) (h':EL P n ops (fun e' w'=>(X.contains j=true→C w')∧AL P n ops X C K f (L.setIfInBounds j true) e' w') [o'] e w):AL P n ops X C K (f+1) L e w :=
 ⟨fun h0=>(by rw [h0] at hr;cases hr),fun k hk=>by
  rw [hr] at hk
  rcases List.mem_cons.1 hk with rfl | hk
  ·exact ⟨o,ho,h⟩
  ·obtain rfl:k=j:=by simpa using hk
   exact ⟨o',ho',h'⟩⟩
theorem gY {P:Program} {n:Nat} {c:Code} {Q:Exit→Env→World→Prop} {e:Env} {w:World} (I:Env→World→Prop) (h1:CW P n c (fun x e w=>x=.normal∧I e w) e w) (h2:∀ e w,I e w→Q .normal e w):CW P n c Q e w:=by
 intro a ha
 refine wp_mono (h1 a ha) ?_
 rintro x' a' w' ⟨e',he',rfl,hI⟩
 exact ⟨e',he',h2 _ _ hI⟩
def ef (m:Nat):Value→Int→Int→Value
 | .slice ao _ cap,lo,hi=>.slice (if cap=lo.toNat then ao else ao.map (·.add (lo.toNat*m))) (hi.toNat-lo.toNat) (cap-lo.toNat)
 | v,_,_=>v
section
variable {α:Type} {R:Rep α} {E:TypeId} {w w0:World} {v:Value} {xs ys:List α} {Γ:List Asn}
theorem ms {xs ys:List α} {lo hi:Int} (h:slc xs lo hi=some ys):∃ l k:Nat,lo=(l:Int)∧hi=(k:Int)∧l≤k∧k≤xs.length∧ys=(xs.take k).drop l:=by
 unfold slc at h
 split at h
 ·rename_i h0
  exact ⟨lo.toNat,hi.toNat,by omega,by omega,by omega,by omega,(Option.some.inj h).symm⟩
 ·cases h
theorem fB {m:Nat} {lo hi:Int} (hn:R.sz=m) (hr:(aA R E).rd w [v] xs) (hq:slc xs lo hi=some ys):(aA R E).rd w [ef m v lo hi] ys:=by
 obtain ⟨l,h,rfl,rfl,hlh,hh,rfl⟩:=ms hq
 obtain ⟨ao,cap,ccs,hv,h1,h2,h3,h4,h5⟩:=hr
 obtain rfl:v=.slice ao xs.length cap:=by simpa using hv
 have hlen:((xs.take h).drop l).length=h-l:=by simp;omega
 have hrd:=(kw l (kw h h4).1).2
 have hccl:=fj h4
 subst hn
 refine ⟨if cap=l then ao else ao.map (·.add (l*R.sz)),cap-l,_,by simp [ef,hlen],by rw [hlen];omega,by omega,?_,hrd,?_⟩
 ·intro e
  split at e
  ·omega
  ·cases ao with
   | none=>have:=h3 rfl;omega
   | some _=>simp at e
 ·by_cases hcl:cap=l
  ·left
   have:h=l:=by omega
   subst this
   apply List.eq_nil_of_length_eq_zero
   simp
  ·rw [if_neg hcl]
   rcases h5 with rfl | ⟨b,off,rfl,h5⟩
   ·left;simp
   ·right
    refine ⟨b,off+l*R.sz,by simp [Addr.add_lit],fun j c hj=>?_⟩
    rw [List.getElem?_drop,List.getElem?_take] at hj
    split at hj
    ·rw [Nat.add_assoc];exact h5 _ c hj
    ·cases hj
theorem pK {w:World}:∀ (k:Nat) {xs:List α} {ccs:List Value} {f:List Nat},dq R w ccs xs f→∃ f1 f2,f=f1++f2∧dq R w (ccs.take (k*R.sz)) (xs.take k) f1∧(∀ b∈f2,b<w.heap.size)
 | 0,xs,ccs,f,h=>⟨[],f,rfl,by simp [dq],eW h⟩
 | k+1,[],ccs,f,h=>by
  obtain ⟨rfl,rfl⟩:=h
  exact ⟨[],[],rfl,⟨by simp,rfl⟩,by simp⟩
 | k+1,x :: xs,ccs,f,h=>by
  obtain ⟨ec,rest,g1,g2,rfl,rfl,h1,h2⟩:=h
  obtain ⟨f1,f2,rfl,h3,h4⟩:=pK k h2
  refine ⟨g1++f1,f2,by simp,⟨ec,rest.take (k*R.sz),g1,f1,?_,rfl,h1,h3⟩,h4⟩
  have e:(k+1)*R.sz=ec.length+k*R.sz:=by rw [R.rd_len (R.own_rd h1),Nat.add_mul];omega
  rw [e,List.take_append,List.take_of_length_le (by omega),Nat.add_sub_cancel_left]
theorem Sat.prefix {m:Nat} {hi:Int} (hn:R.sz=m) (hS:Sat w0 w (Own (aA R E) [v] xs :: Γ)) (hq:slc xs 0 hi=some ys):Sat w0 w (Own (aA R E) [ef m v 0 hi] ys :: Γ):=by
 obtain ⟨l,k,hl,rfl,hlk,hk,rfl⟩:=ms hq
 obtain rfl:l=0:=by omega
 subst hn
 obtain ⟨ao,hao⟩:∃ A,A=Asn.mk (fun w fp=>True∧∀ b∈fp,b<w.heap.size) (fun h he=>⟨trivial,fun b hb=>by
  have h1:=h.2 b hb
  have h2:=he b hb
  rw [Array.getElem?_eq_getElem h1] at h2
  exact (Array.getElem?_eq_some_iff.1 h2).1⟩) (fun h=>h.2):=⟨_,rfl⟩
 refine Sat.tail (A:=ao) ?_
 refine hS.splitp fun f hf=>?_
 subst hao
 rcases hf with ⟨hv,rfl,rfl⟩ | ⟨g,cap,cur,ccs,f2,hv,hg,h1,h2,h3,h4,h5,rfl⟩
 ·obtain rfl:v=.slice none 0 0:=by simpa using hv
  simp only [List.length_nil,Nat.le_zero] at hk
  subst hk
  exact ⟨[],[],.refl _,⟨trivial,by simp⟩,.inl ⟨by simp [ef],by simp,rfl⟩⟩
 ·obtain rfl:v=.slice (some ⟨g,0,none⟩) xs.length cap:=by simpa using hv
  obtain ⟨f1,f3,rfl,h6,h7⟩:=pK k h5
  refine ⟨f3,g :: f1,?_,⟨trivial,h7⟩,.inr ⟨g,cap,cur,_,f1,?_,hg,?_,h2,h3,?_,h6,rfl⟩⟩
  ·exact List.perm_middle.trans (.cons _ List.perm_append_comm)
  ·have hl:(xs.take k).length=k:=by simp;omega
   simp only [List.drop_zero,hl,ef,Int.toNat_natCast]
   by_cases hc:cap=0
   ·simp [hc]
   ·simp [hc,Addr.add_lit]
  ·simp;omega
  ·rw [← h4]
   simp only [List.drop_zero,List.length_take,List.take_take]
   congr 1
   rw [Nat.min_eq_left hk]
   exact (Nat.min_eq_left (Nat.mul_le_mul_right _ hk)).symm
end
theorem iO {P:Program} {e:Env} {w wA:World} {d:Option Nat} {ty:TypeId} {pos:String} {af:Array Edge} {x:Operand} {v:Value} {α:Type} {R:Rep α} {E E':TypeId} {t:TypeId} {lo hi:Option Operand} [ht:SliceT P t E'] {z:List Value} {m bytes:Nat} [hz:ElemT P E' z m bytes]
    (hx:ev e x=v) {xs ys:List α} (hr:(aA R E).rd wA [v] xs) {l h:Int} (hlo:(lo.map (ev e)=some (.int .i64 l))∨(lo=none∧l=0)) (hhi:(hi.map (ev e)=some (.int .i64 h))∨(hi=none∧h=xs.length)) (hq:slc xs l h=some ys) :
    PV P ⟨d,.slice t x lo hi none,ty,pos,af,none⟩ e w (ef m v l h):=fun w' _=>by
  obtain ⟨l',h',rfl,rfl,hlh,hh,_⟩:=ms hq
  obtain ⟨ao,cap,ccs,hv,h1,h2,h3,h4,h5⟩:=hr
  obtain rfl:v=.slice ao xs.length cap:=by simpa using hv
  have hz:=hz.h
  cases hq':P.info? E' with
  | none=>simp [hq'] at hz
  | some inf =>
    simp [hq'] at hz
    have hcap:h'≤cap:=by omega
    have hsz:inf.size=m:=hz.2.1
    have hb:(Instr.sliceBounds true xs.length cap (lo.map (ev e)) (hi.map (ev e)) none).run P w'=.ok (l',h',cap) w':=by
      rcases hlo with e1 | ⟨e1,e1'⟩ <;> rcases hhi with e2 | ⟨e2,e2'⟩
      all_goals
        (try rw [e1]);(try rw [e2])
        first
          | (simp [Instr.sliceBounds,Instr.sliceBound,asIntOf,hcap,hlh];done)
          | (have:l'=0:=by omega
             subst this
             simp [Instr.sliceBounds,Instr.sliceBound,asIntOf,hcap,hlh];done)
          | (have:h'=xs.length:=by omega
             subst this
             simp [Instr.sliceBounds,Instr.sliceBound,asIntOf,hcap,hlh];done)
          | (have:l'=0:=by omega
             have:h'=xs.length:=by omega
             subst_vars
             simp [Instr.sliceBounds,Instr.sliceBound,asIntOf])
    unfold execOp
    simp only [hx,Instr.sliceAt,Sem.run_bind,run_underlying ht.h,Result.andThen_ok,Instr.slice,hb,sizeOf,typeInfo,hq',run_program,Sem.run_pure,Option.map_none,ef,hsz,Int.toNat_natCast]
theorem hJ {α:Type} {R:Rep α} {E:TypeId} {w:World} {cs:List Value} {xs:List α} (h:(mF R E).rd w cs xs):(aA R E).rd w cs xs:=h
theorem gu {α:Type} {xs ys:List α} {hi:Int} (h:slc xs 1 hi=some ys):0<xs.length:=by
 obtain ⟨l,k,h1,h2,h3,h4,_⟩:=ms h;omega
theorem ph {w W:World} {b o:Nat} (h:w.heap[b]? = W.heap[b]?):w.cell? ⟨b,o,none⟩=W.cell? ⟨b,o,none⟩:=by
 unfold World.cell?;simp [h]
def Frz (W:World) (F:List Nat):Asn where
 holds w fp:=fp=F∧(∀ b∈F,w.heap[b]? = W.heap[b]?)∧∀ b∈F,b<W.heap.size
 ext h he:=by obtain ⟨rfl,h1,h2⟩:=h;exact ⟨rfl,fun b hb=>(he b hb).trans (h1 b hb),h2⟩
 lt h:=by
  obtain ⟨rfl,h1,h2⟩:=h
  intro b hb
  have:=h1 b hb
  rw [Array.getElem?_eq_getElem (h2 b hb)] at this
  exact (Array.getElem?_eq_some_iff.1 this).1
section
variable {α:Type} {R:Rep α} {W w w0:World} {Γ:List Asn} {F F':List Nat} {cs:List Value} {x:α}
theorem Sat.frz (hS:Sat w0 w (Own R cs x :: Γ)):∃ F,R.own w cs x F∧Sat w0 w (Frz w F :: Γ):=by
 obtain ⟨hb,_,⟨f1,f2,rfl,h1,h2⟩,hn,h3⟩:=hS
 exact ⟨f1,h1,hb,_,⟨f1,f2,rfl,⟨rfl,fun _ _=>rfl,R.own_lt h1⟩,h2⟩,hn,h3⟩
theorem Sat.frzEq (i:Nat) (hS:Sat w0 w Γ) (hi:Γ[i]? = some (Frz W F)):∀ b∈F,w.heap[b]? = W.heap[b]?:=by
 obtain ⟨fp,⟨rfl,h,_⟩,_⟩:=(hS.top i hi).head
 exact h
theorem Sat.frzRd (i:Nat) (hS:Sat w0 w Γ) (hi:Γ[i]? = some (Frz W F)) (h:R.own W cs x F') (hs:∀ b∈F',b∈F):R.rd w cs x :=
 R.own_rd (R.own_ext h (fun b hb=>hS.frzEq i hi b (hs b hb)))
theorem Sat.frzCells (i:Nat) (hS:Sat w0 w Γ) (hi:Γ[i]? = some (Frz W F)) {b off:Nat} {ec:List Value} (hb:b∈F) (hm:∀ j c,ec[j]? = some c→W.cell? ⟨b,off+j,none⟩=some c):∀ j c,ec[j]? = some c→w.cell? ⟨b,off+j,none⟩=some c :=
 fun j c hj=>by rw [ph (hS.frzEq i hi b hb)];exact hm j c hj
end
section
variable {P:Program} {n:Nat} {ops:Array Oper} {X:List Nat} {C:World→Prop} {K:Env→World→Prop} {KQ:Env→Prop} {rest:List Oper} {e:Env} {w W:World} {v:Value} {d:Nat} {ty:TypeId} {pos:String} {af:Array Edge} {x y:Operand} {α:Type} {R:Rep α} {E:TypeId} {F:List Nat} {fuel:Nat} {L:Array Bool}
theorem nR {d:Option Nat} {t:TypeId} [ht:SliceT P t E] {zz:List Value} {m bytes:Nat} [hz:ElemT P E zz m bytes] {xs:List α} (hs:ev e x=v) (hr:(aA R E).own W [v] xs F)
  (hn:R.sz=m) {k:IntKind} {i:Int} (hi:ev e y=.int k i) {u:α} (h:ix xs i=some u) :
  ∃ b off ec F2,R.own W ec u F2∧(∀ q∈F2,q∈F)∧b∈F∧(∀ j c,ec[j]? = some c→W.cell? ⟨b,off+j,none⟩=some c)∧∀ w,PV P ⟨d,.indexAddr t x y,ty,pos,af,none⟩ e w (.pointer (some ⟨b,off,none⟩)):=by
 obtain ⟨k',rfl,hk,rfl⟩:=fO h
 rcases hr with ⟨_,h2,_⟩ | ⟨g,cap,cur,ccs,f2,hv,hg,h1,h2,h3,h4,h5,rfl⟩
 ·subst h2;simp at hk
 obtain rfl:v=.slice (some ⟨g,0,none⟩) xs.length cap:=by simpa using hv
 obtain ⟨ec,f1,f2',f3,k1,rfl,k3,_⟩:=lN h5 k' hk
 have hz:=hz.h
 cases hq:P.info? E with
 | none=>simp [hq] at hz
 | some inf =>
  simp [hq] at hz
  have hsz:inf.size=m:=hz.2.1
  refine ⟨g,k'*m,ec,f2',k1,fun q hq=>by simp [hq],by simp,fun j c hj=>?_,fun w w' _=>?_⟩
  ·have h0:=k3 j c hj
   rw [cell_of_row W g _ cur E (0,0) hg,← Array.getElem?_toList]
   rw [← h4,List.getElem?_take] at h0
   rw [← hn]
   split at h0
   ·exact h0
   ·cases h0
  ·unfold execOp
   simp [hs,hi,Instr.indexAt,asIntOf,run_underlying ht.h,sizeOf,typeInfo,hq,hk,Addr.add_lit,hsz]
theorem lm {t:TypeId} [SliceT P t E] {zz:List Value} {m bytes:Nat} [ElemT P E zz m bytes] {xs:List α} (hs:ev e x=v) (hr:(aA R E).own W [v] xs F) (hn:R.sz=m) {k:IntKind} {i:Int} (hi:ev e y=.int k i) {u:α} (h:ix xs i=some u) (hd:d<n)
  (hK:∀ b off ec F2,R.own W ec u F2→(∀ q∈F2,q∈F)→b∈F→(∀ j c,ec[j]? = some c→W.cell? ⟨b,off+j,none⟩=some c)→EL P n ops K rest (upd e d (.pointer (some ⟨b,off,none⟩))) w):EL P n ops K (⟨some d,.indexAddr t x y,ty,pos,af,none⟩ :: rest) e w:=by
 obtain ⟨b,off,ec,F2,h1,h2,h3,h4,h5⟩:=nR (P:=P) (d:=some d) (ty:=ty) (pos:=pos) (af:=af) (t:=t) hs hr hn hi h
 exact km (h5 _) hd (hK b off ec F2 h1 h2 h3 h4)
theorem lu {t:TypeId} [SliceT P t E] {zz:List Value} {m bytes:Nat} [ElemT P E zz m bytes] {xs:List α} (hs:ev e x=v) (hr:(aA R E).own W [v] xs F) (hn:R.sz=m) {k:IntKind} {i:Int} (hi:ev e y=.int k i) {u:α} (h:ix xs i=some u) (hd:d<n)
  (hK:∀ b off ec F2,R.own W ec u F2→(∀ q∈F2,q∈F)→b∈F→(∀ j c,ec[j]? = some c→W.cell? ⟨b,off+j,none⟩=some c)→QL P n ops w KQ rest (upd e d (.pointer (some ⟨b,off,none⟩)))):QL P n ops w KQ (⟨some d,.indexAddr t x y,ty,pos,af,none⟩ :: rest) e:=by
 obtain ⟨b,off,ec,F2,h1,h2,h3,h4,h5⟩:=nR (P:=P) (d:=some d) (ty:=ty) (pos:=pos) (af:=af) (t:=t) hs hr hn hi h
 exact nZ (h5 _) hd (hK b off ec F2 h1 h2 h3 h4)
theorem uu (hsel:kf ops=true) (i':Nat) {t:TypeId} [SliceT P t E] {zz:List Value} {m bytes:Nat} [ElemT P E zz m bytes] {xs:List α} (hi':ops[i']? = some ⟨some d,.indexAddr t x y,ty,pos,af,none⟩) (hC:C w) (hf:lB ops X L i' ⟨some d,.indexAddr t x y,ty,pos,af,none⟩=true) (hrd:(Region.ready .any ops L).contains i'=true)
  (hs:ev e x=v) (hr:(aA R E).own W [v] xs F) (hn:R.sz=m) {k:IntKind} {i:Int} (hi:ev e y=.int k i) {u:α} (h:ix xs i=some u) (hd:d<n)
  (hK:∀ b off ec F2,R.own W ec u F2→(∀ q∈F2,q∈F)→b∈F→(∀ j c,ec[j]? = some c→W.cell? ⟨b,off+j,none⟩=some c)→AL P n ops X C K fuel (L.setIfInBounds i' true) (upd e d (.pointer (some ⟨b,off,none⟩))) w):AL P n ops X C K (fuel+1) L e w:=by
 obtain ⟨b,off,ec,F2,h1,h2,h3,h4,h5⟩:=nR (P:=P) (d:=some d) (ty:=ty) (pos:=pos) (af:=af) (t:=t) hs hr hn hi h
 exact tg hsel i' hi' rfl hd hC hf hrd (ay rfl fun w' _=>h5 w') (hK b off ec F2 h1 h2 h3 h4)
end
theorem Sat.unlist {α:Type} {R:Rep α} {E:TypeId} {w w0:World} {v:Value} {xs:List α} {Γ:List Asn} (hS:Sat w0 w (Own (aA R E) [v] xs :: Γ)):∃ ao c ccs,v=.slice ao xs.length c∧(ao=none→c=0)∧mN w ao ccs∧Sat w0 w (nh R ccs xs :: Γ):=by
 obtain ⟨hb,_,⟨f1,f2,rfl,h1,h2⟩,hn,h3⟩:=hS
 rcases h1 with ⟨hv,rfl,rfl⟩ | ⟨g,cap,cur,ccs,f3,hv,hg,k1,k2,k3,k4,k5,rfl⟩
 ·exact ⟨none,0,[],by simpa using hv,fun _=>rfl,.inl rfl,hb,_,⟨[],f2,rfl,⟨rfl,rfl⟩,h2⟩,hn,h3⟩
 ·refine ⟨some ⟨g,0,none⟩,cap,ccs,by simpa using hv,by simp,.inr ⟨g,0,rfl,fun j c hj=>?_⟩,hb,f3++f2,⟨f3,f2,rfl,k5,h2⟩,(List.nodup_cons.1 hn).2,fun b hb'=>h3 b (List.mem_cons_of_mem _ hb')⟩
  rw [Nat.zero_add,cell_of_row _ g j cur E (0,0) hg,← Array.getElem?_toList]
  rw [← k4,List.getElem?_take] at hj
  split at hj
  ·exact hj
  ·cases hj
section
variable {α:Type} {R:Rep α} {w0 w:World} {Γ:List Asn} {E:TypeId} {v:Value}
def jc (R:Rep α) (E:TypeId) (v:Value) (xs:List α) (i:Nat) (ec:List Value) (g m:Nat):Asn where
 holds w fp:=(vR R E v xs i ec).holds w fp∧g∈fp∧∀ j c,ec[j]? = some c→w.cell? ⟨g,i*m+j,none⟩=some c
 ext h he:=⟨(vR R E v xs i ec).ext h.1 he,h.2.1,fun j c hj=>by rw [ph (he g h.2.1)];exact h.2.2 j c hj⟩
 lt h:=(vR R E v xs i ec).lt h.1
theorem Sat.takeOutC {xs:List α} {m:Nat} {i:Int} {u:α} (hS:Sat w0 w (Own (aA R E) [v] xs :: Γ)) (h:ix xs i=some u) (hn:R.sz=m) :
  ∃ g cap ec,v=.slice (some ⟨g,0,none⟩) xs.length cap∧R.rd w ec u∧Sat w0 w (Own R ec u :: jc R E v xs i.toNat ec g m :: Γ):=by
 obtain ⟨k,rfl,hk,rfl⟩:=fO h
 subst hn
 obtain ⟨fp,ho,_⟩:=hS.head
 rcases ho with ⟨_,h2,_⟩ | ⟨g,cap,cur,ccs,fe,hv,hg,h1,h2,h3,h4,h5,rfl⟩
 ·subst h2;simp at hk
 obtain ⟨ec,f1,f2,f3,k1,rfl,k3,k4⟩:=lN h5 k hk
 have hv:v=.slice (some ⟨g,0,none⟩) xs.length cap:=by simpa using hv
 have hm:∀ j c,ec[j]? = some c→w.cell? ⟨g,(k:Int).toNat*R.sz+j,none⟩=some c:=fun j c hj=>by
  have e2:=k3 j c hj
  simp only [Int.toNat_natCast]
  rw [cell_of_row w g _ cur E (0,0) hg,← Array.getElem?_toList]
  rw [← h4,List.getElem?_take] at e2
  split at e2
  ·exact e2
  ·cases e2
 refine ⟨g,cap,ec,hv,R.own_rd k1,?_⟩
 have hrl:=R.rd_len (R.own_rd k1)
 clear k1 k3 k4 h5 h4 h3 h2 h1 hg
 subst hv
 refine hS.splitp fun f hf=>?_
 rcases hf with ⟨_,h2,_⟩ | ⟨g',cap',cur,ccs,fe,hv,hg,h1,h2,h3,h4,h5,rfl⟩
 ·subst h2;simp at hk
 obtain ⟨rfl,rfl⟩:g=g'∧cap=cap':=by simpa using hv
 obtain ⟨ec',f1,f2,f3,k1,rfl,k3,k4⟩:=lN h5 k hk
 have hec:ec=ec':=by
  refine List.ext_getElem (by rw [hrl,R.rd_len (R.own_rd k1)]) fun j hj1 hj2=>?_
  have e1:=hm j ec[j] (List.getElem?_eq_getElem hj1)
  have e2:=k3 j ec'[j] (List.getElem?_eq_getElem hj2)
  simp only [Int.toNat_natCast] at e1
  rw [cell_of_row w g _ cur E (0,0) hg,← Array.getElem?_toList] at e1
  rw [← h4,List.getElem?_take] at e2
  split at e2
  ·rw [e1] at e2;exact Option.some.inj e2
  ·cases e2
 subst hec
 refine ⟨f2,g :: (f1++f3),?_,k1,⟨⟨fun b hb=>?_,fun w' y f' he ho=>⟨g :: (f1++(f'++f3)),?_,.inr ⟨g,cap,cur,ccs,_,by simp,by rw [he g (by simp)];exact hg,by simpa using h1,h2,h3,by simpa using h4,by
  simp only [Int.toNat_natCast]
  exact k4 w' y f' (fun b hb=>he b (List.mem_cons_of_mem _ hb)) ho,rfl⟩⟩⟩,List.mem_cons_self,hm⟩⟩
 ·refine List.perm_middle.trans (.cons _ ?_)
  rw [← List.append_assoc,← List.append_assoc]
  exact List.Perm.append_right _ List.perm_append_comm
 ·rcases List.mem_cons.1 hb with rfl | hb
  ·exact (Array.getElem?_eq_some_iff.1 hg).1
  ·refine eW h5 b ?_
   rcases List.mem_append.1 hb with h | h <;> simp [h]
 ·refine .trans (.cons _ ?_) List.perm_middle.symm
  rw [← List.append_assoc,← List.append_assoc]
  exact List.Perm.append_right _ List.perm_append_comm
theorem Sat.putBackC {xs ys:List α} {i:Int} {y:α} {ec:List Value} {g m:Nat} (hS:Sat w0 w (Own R ec y :: jc R E v xs i.toNat ec g m :: Γ)) (h:sto xs i y=some ys):Sat w0 w (Own (aA R E) [v] ys :: Γ):=by
 have e:ys=xs.set i.toNat y:=by
  unfold sto at h;split at h
  ·exact (Option.some.inj h).symm
  ·cases h
 subst e
 exact hS.joinp fun f g h1 h2=>h2.1.2 w y f (fun _ _=>rfl) h1
theorem Sat.holeCells (a:Nat) {xs:List α} {i g m:Nat} {ec:List Value} (hS:Sat w0 w Γ) (hi:Γ[a]? = some (jc R E v xs i ec g m)):∀ j c,ec[j]? = some c→w.cell? ⟨g,i*m+j,none⟩=some c:=by
 obtain ⟨fp,ho,_⟩:=(hS.top a hi).head
 exact ho.2.2
end
theorem nA {P:Program} {e:Env} {w:World} {v:Value} {ty:TypeId} {pos:String} {af:Array Edge} {x y:Operand} {α:Type} {E:TypeId} {d:Option Nat} {t:TypeId} [ht:SliceT P t E] {zz:List Value} {m bytes:Nat} [hz:ElemT P E zz m bytes] {xs:List α} (hs:ev e x=v) {g cap:Nat} (hv:v=.slice (some ⟨g,0,none⟩) xs.length cap) {k:IntKind} {j:Int} (hi:ev e y=.int k j) {u:α} (h:ix xs j=some u) :
  PV P ⟨d,.indexAddr t x y,ty,pos,af,none⟩ e w (.pointer (some ⟨g,j.toNat*m,none⟩)):=fun w' _=>by
 obtain ⟨k',rfl,hk,rfl⟩:=fO h
 subst hv
 have hz:=hz.h
 cases hq:P.info? E with
 | none=>simp [hq] at hz
 | some inf =>
  simp [hq] at hz
  have hsz:inf.size=m:=hz.2.1
  unfold execOp
  simp [hs,hi,Instr.indexAt,asIntOf,run_underlying ht.h,sizeOf,typeInfo,hq,hk,Addr.add_lit,hsz]
def kZ {α β:Type} (R:Rep α) (S:Rep β) (j:Nat) (u:α) (z:β) (y:α):Prop :=
 ∀ w ec f cs fa,R.own w ec u f→S.own w cs z fa→j+cs.length≤ec.length∧∃ f' g',R.own w (ec.take j++cs++ec.drop (j+cs.length)) y f'∧(f'++g').Perm (f++fa)
theorem pC {α:Type} {R:Rep α} (u z:α):kZ R R 0 u z z:=fun w ec f cs fa h k=>by
 have e1:=R.rd_len (R.own_rd h)
 have e2:=R.rd_len (R.own_rd k)
 refine ⟨by omega,fa,f,?_,List.perm_append_comm⟩
 rw [Nat.zero_add,List.drop_of_length_le (by omega)];simpa using k
theorem oS {α β γ:Type} {R:Rep α} {T:Rep γ} {S:Rep β} {j k':Nat} {u:α × γ} {z:β} {y:γ} (h:kZ T S j u.2 z y) (hk:k'=R.sz+j):kZ (mB R T) S k' u z (u.1,y):=fun w ec f cs fa hf k=>by
 obtain ⟨c1,c2,f1,f2,rfl,rfl,h1,h2⟩:=hf
 obtain ⟨k1,f',g',k2,k3⟩:=h w c2 f2 cs fa h2 k
 have hl:=R.rd_len (R.own_rd h1)
 subst hk
 refine ⟨by simp;omega,f1++f',g',⟨c1,_,f1,f',?_,rfl,h1,k2⟩,List.perm_iff_count.2 fun a=>?_⟩
 ·rw [← hl,List.take_append,List.drop_append,List.take_of_length_le (by omega),List.drop_of_length_le (by omega)]
  simp [Nat.add_assoc]
 ·have:=List.perm_iff_count.1 k3 a
  simp only [List.count_append] at this ⊢;omega
theorem oF {α β:Type} {R:Rep α} {S:Rep β} {w:World} {j:Nat} {cs:List Value} {z:β} {fa:List Nat} (hz:S.own w cs z fa) {y:α}:∀ {xs:List α} {ccs:List Value} {f:List Nat},dq R w ccs xs f→∀ (k:Nat) (hk:k<xs.length),kZ R S j xs[k] z y →
  k*R.sz+j+cs.length≤ccs.length∧∃ f' g',dq R w (ccs.take (k*R.sz+j)++cs++ccs.drop (k*R.sz+j+cs.length)) (xs.set k y) f'∧(f'++g').Perm (f++fa)
 | [],_,_,_,k,hk,_=>absurd hk (by simp)
 | x :: xs,_,_,h,k,hk,hu=>by
  obtain ⟨ec,rest,f1,f2,rfl,rfl,h1,h2⟩:=h
  cases k with
  | zero =>
   obtain ⟨k1,f',g',k2,k3⟩:=hu w ec f1 cs fa h1 hz
   refine ⟨by simp;omega,f'++f2,g',⟨_,rest,f',f2,?_,rfl,k2,h2⟩,List.perm_iff_count.2 fun a=>?_⟩
   ·rw [Nat.zero_mul,Nat.zero_add,List.take_append_of_le_length (by omega),List.drop_append_of_le_length (by omega)];simp
   ·have:=List.perm_iff_count.1 k3 a
    simp only [List.count_append] at this ⊢;omega
  | succ k =>
   have hl:=R.rd_len (R.own_rd h1)
   obtain ⟨k1,f',g',k2,k3⟩:=oF hz h2 k (by simpa using hk) (by simpa using hu)
   have e:(k+1)*R.sz+j=ec.length+(k*R.sz+j):=by rw [Nat.succ_mul];omega
   refine ⟨by rw [e,List.length_append];omega,f1++f',g',⟨ec,_,f1,f',?_,rfl,h1,k2⟩,List.perm_iff_count.2 fun a=>?_⟩
   ·rw [e,List.take_append,List.drop_append,List.take_of_length_le (by omega),List.drop_of_length_le (by omega)]
    simp [Nat.add_assoc]
   ·have:=List.perm_iff_count.1 k3 a
    simp only [List.count_append] at this ⊢;omega
section
variable {P:Program} {n:Nat} {ops:Array Oper} {K:Env→World→Prop} {rest:List Oper} {e:Env} {w w0:World} {v:Value} {ty:TypeId} {pos:String} {af:Array Edge} {Γ:List Asn} {x y:Operand} {α β:Type} {R:Rep α} {S:Rep β} {E:TypeId}
theorem nr {t:TypeId} {z:List Value} {m' bytes:Nat} [hz:ElemT P t z m' bytes] {xs ys:List α} {g ln cap o j m:Nat} {u yv:α} {zv:β} {cs:List Value} (hv:v=.slice (some ⟨g,0,none⟩) ln cap)
  (hS:Sat w0 w (Own S cs zv :: Own (aA R E) [v] xs :: Γ)) {i:Int} (hix:ix xs i=some u) (h:sto xs i yv=some ys) (hn:R.sz=m) (hs:S.sz=m') (ho:o=i.toNat*m+j) (hx:ev e x=.pointer (some ⟨g,o,none⟩)) (hy:(ev e y).cells=cs.toArray)
  (hup:kZ R S j u zv yv) (hK:∀ w',Sat w0 w' (Own (aA R E) [v] ys :: Γ)→EL P n ops K rest e w'):EL P n ops K (⟨none,.store t x y,ty,pos,af,none⟩ :: rest) e w:=by
 intro a ha
 refine wpList_plain rfl fun K' hK'=>?_
 obtain ⟨k,rfl,hk,rfl⟩:=fO hix
 have hys:ys=xs.set k yv:=by
  unfold sto at h;split at h
  ·simpa using (Option.some.inj h).symm
  ·cases h
 subst hys hv hn ho
 simp only [Int.toNat_natCast] at hx
 have hz:=hz.h
 cases hi:P.info? t with
 | none=>simp [hi] at hz
 | some inf =>
  simp [hi] at hz
  have hS':Sat w0 w (tG (Own S cs zv) (Own (aA R E) [.slice (some ⟨g,0,none⟩) ln cap] xs) :: Γ):=hS.join fun f g h1 h2=>⟨f,g,rfl,h1,h2⟩
  obtain ⟨fp,⟨fy,f,rfl,hyo,hv⟩,hnd,_⟩:=hS'.head
  have hel:cs.length=S.sz:=S.rd_len (S.own_rd hyo)
  obtain ⟨cur,hh,hcs⟩:∃ cur,w.heap[g]? = some (.cells cur E (0,0))∧k*R.sz+j+cs.length≤cur.size:=by
   rcases hv with ⟨_,h,_⟩ | ⟨g',cap',cur,ccs,f2,h,hg',h1,h2,h3,h4,h5,_⟩
   ·subst h;simp at hk
   ·simp at h
    obtain ⟨rfl,_⟩:=h
    have:=(oF hyo h5 k hk hup).1
    have hcl:ccs.length=xs.length*R.sz:=fj (ek h5)
    exact ⟨cur,hg',by rw [h3];exact Nat.le_trans (by omega) (Nat.mul_le_mul_right _ h1)⟩
  have hh':w.heap[g]? = some (.cells cur.toList.toArray E (0,0)):=by simpa using hh
  obtain ⟨w',hr,hnew,hc⟩:=e8 (P:=P) cs (k*R.sz+j) 0 cur.toList w hh' (by simp;omega) (S.rd_one (S.own_rd hyo))
  have hsz:¬ (cs.toArray.size≠inf.size):=by simp;omega
  unfold Oper.wp execOp
  simp only [ha.eval,hx,Instr.storeAt,Instr.sureAddr,storeVar,sizeOf,typeInfo,hi,hy,Sem.run_bind,Sem.run_pure,run_program,Result.andThen_ok,hsz,if_false,Sem.run_ite,List.toList_toArray,hr,Oper.upon_skip]
  refine hK' _ _ (hK w' ?_ _ ha)
  refine hS'.upd ?_
  rintro _ ⟨gy,gf,rfl,hy2,hv2⟩ hnd2
  rcases hv2 with ⟨_,h,_⟩ | ⟨g',cap',cur',ccs,f2,h,hg',h1,h2,h3,h4,h5,rfl⟩
  ·subst h;simp at hk
  ·simp at h
   obtain ⟨rfl,rfl,rfl⟩:=h
   obtain ⟨rfl⟩:cur'=cur:=by rw [hh] at hg';simpa using hg'.symm
   obtain ⟨hle,f',g',h6,hp⟩:=oF hy2 h5 k hk hup
   have hoth:∀ x,x≠g→x<w.heap.size→w'.heap[x]? = w.heap[x]?:=fun x hx hlt=>hc.block x hlt (by simpa using hx)
   have hcl:ccs.length=xs.length*R.sz:=fj (ek h5)
   have hpp:(f'++g'++[g]).Perm (gy++g :: f2):=List.perm_iff_count.2 fun a=>by
    have:=List.perm_iff_count.1 hp a
    simp only [List.count_append,List.count_cons,List.count_nil] at this ⊢;omega
   have hnd3:=hpp.nodup_iff.2 hnd2
   have hgn:g∉f':=fun hm=>by
    have:=(List.nodup_append.1 hnd3).2.2 g (List.mem_append_left _ hm) g (by simp)
    exact this rfl
   refine ⟨g :: f',.inr ⟨g,cap,_,ccs.take (k*R.sz+j)++cs++ccs.drop (k*R.sz+j+cs.length),f',by simp,hnew,by simpa using h1,h2,?_,?_,ew h6 (fun b hb=>hoth b (fun e=>hgn (e ▸ hb)) (eW h6 b hb)),rfl⟩,?_,hc.mono (by simp),fun b hb=>.inl ?_⟩
   ·simp only [List.size_toArray,List.length_append,List.length_take,List.length_drop,Array.length_toList,Nat.add_zero]
    omega
   ·rw [← h4,List.length_set]
    have:=lA cur.toList cs (k*R.sz+j) cs.length (xs.length*R.sz) (by omega) (by simp;have:=Nat.mul_le_mul_right R.sz h1;omega) rfl
    simp only [Nat.add_zero] at this ⊢
    rw [this]
   ·exact List.nodup_cons.2 ⟨hgn,(List.nodup_append.1 (List.nodup_append.1 hnd3).1).1⟩
   ·refine hpp.mem_iff.1 ?_
    rcases List.mem_cons.1 hb with rfl | hb
    ·simp
    ·simp [hb]
end
theorem l0 {e:Env} {i:Nat} {x:Operand} {v:Value} {l:List (Nat × Operand)} {vs:List Value} (h:(ev e x).cells=[v].toArray) (t:l.map (fun p=>(p.1,(ev e p.2).cells))=((vs.zipIdx (i+1)).map fun p=>(p.2,[p.1].toArray))) :
  ((i,x) :: l).map (fun p=>(p.1,(ev e p.2).cells))=(((v :: vs).zipIdx i).map fun p=>(p.2,[p.1].toArray)):=by rw [List.map_cons,List.zipIdx_cons,List.map_cons,h,t]
def fzR {α:Type} (W:World) (F:List Nat) (R:Rep α):Rep α where
 sz:=R.sz
 rd _ cs x:=∃ f,R.own W cs x f∧∀ b∈f,b∈F
 own _ cs x fp:=(∃ f,R.own W cs x f∧∀ b∈f,b∈F)∧fp=[]
 rd_len h:=by obtain ⟨f,h,_⟩:=h;exact R.rd_len (R.own_rd h)
 rd_one h:=by obtain ⟨f,h,_⟩:=h;exact R.rd_one (R.own_rd h)
 rd_ext h _:=h
 own_rd h:=h.1
 own_ext h _:=h
 own_lt h:=by rw [h.2];simp
section
variable {α:Type} {R:Rep α} {W w w0:World} {Γ:List Asn} {F:List Nat} {E:TypeId} {v:Value}
theorem sX:∀ {xs:List α} {ccs:List Value} {f:List Nat},dq R W ccs xs f→(∀ b∈f,b∈F)→dq (fzR W F R) w ccs xs []
 | [],_,_,h,_=>⟨h.1,rfl⟩
 | x :: xs,_,_,h,hs=>by
  obtain ⟨ec,rest,f1,f2,rfl,rfl,h1,h2⟩:=h
  exact ⟨ec,rest,[],[],rfl,rfl,⟨⟨f1,h1,fun b hb=>hs b (List.mem_append_left _ hb)⟩,rfl⟩,sX h2 fun b hb=>hs b (List.mem_append_right _ hb)⟩
theorem pN (he:∀ b∈F,w.heap[b]? = W.heap[b]?):∀ {xs:List α} {ccs:List Value} {f':List Nat},dq (fzR W F R) w ccs xs f'→∃ f,dq R w ccs xs f∧∀ b∈f,b∈F
 | [],_,_,h=>⟨[],⟨h.1,rfl⟩,by simp⟩
 | x :: xs,_,_,h=>by
  obtain ⟨ec,rest,f1,f2,rfl,rfl,⟨⟨f,h1,hs⟩,_⟩,h2⟩:=h
  obtain ⟨f3,h3,h4⟩:=pN he h2
  refine ⟨f++f3,⟨ec,rest,f,f3,rfl,rfl,R.own_ext h1 fun b hb=>he b (hs b hb),h3⟩,fun b hb=>?_⟩
  rcases List.mem_append.1 hb with h | h
  ·exact hs b h
  ·exact h4 b h
theorem Sat.frzEls {xs:List α} (hS:Sat w0 w (Own (aA R E) [v] xs :: Γ)):∃ F,Sat w0 w (Own (aA (fzR w F R) E) [v] xs :: Frz w F :: Γ):=by
 obtain ⟨hb,_,⟨f1,f2,rfl,h1,h2⟩,hn,h3⟩:=hS
 rcases h1 with ⟨k1,rfl,rfl⟩ | ⟨g,cap,cur,ccs,fe,hv,hg,k1,k2,k3,k4,k5,rfl⟩
 ·exact ⟨[],hb,f2,⟨[],f2,rfl,.inl ⟨k1,rfl,rfl⟩,[],f2,rfl,⟨rfl,by simp,by simp⟩,h2⟩,hn,h3⟩
 ·exact ⟨fe,hb,_,⟨[g],fe++f2,rfl,.inr ⟨g,cap,cur,ccs,[],hv,hg,k1,k2,k3,k4,sX k5 (fun _ h=>h),rfl⟩,fe,f2,rfl,⟨rfl,fun _ _=>rfl,eW k5⟩,h2⟩,hn,h3⟩
theorem Sat.frzAll {xs:List α} (hS:Sat w0 w (Own (aA (fzR W F R) E) [v] xs :: Frz W F :: Γ)):∃ F1 F2,(aA R E).own w [v] xs F1∧(∀ b∈F1,b∈F2)∧Sat w0 w (Frz w F2 :: Γ):=by
 obtain ⟨hb,_,⟨f1,_,rfl,h1,fF,f2,rfl,⟨rfl,he,hlt⟩,h2⟩,hn,h3⟩:=hS
 have hl:∀ b∈fF,b<w.heap.size:=fun b hb=>by
  have:=he b hb
  rw [Array.getElem?_eq_getElem (hlt b hb)] at this
  exact (Array.getElem?_eq_some_iff.1 this).1
 rcases h1 with ⟨k1,rfl,rfl⟩ | ⟨g,cap,cur,ccs,fe,hv,hg,k1,k2,k3,k4,k5,rfl⟩
 ·exact ⟨[],fF,.inl ⟨k1,rfl,rfl⟩,by simp,hb,_,⟨fF,f2,rfl,⟨rfl,fun _ _=>rfl,hl⟩,h2⟩,hn,h3⟩
 ·obtain ⟨f,k6,k7⟩:=pN he k5
  have hfe:fe=[]:=by
   clear hn h3 k4 k3 hg
   suffices ∀ (xs:List α) (ccs:List Value) (f':List Nat),dq (fzR W fF R) w ccs xs f'→f'=[] from this _ _ _ k5
   intro xs
   induction xs with
   | nil=>intro _ _ h;exact h.2
   | cons x xs ih =>
    rintro _ _ ⟨ec,rest,f1,f2,rfl,rfl,⟨_,rfl⟩,h2⟩
    rw [ih _ _ h2];rfl
  subst hfe
  refine ⟨g :: f,g :: fF,.inr ⟨g,cap,cur,ccs,f,hv,hg,k1,k2,k3,k4,k6,rfl⟩,fun b hb=>?_,hb,_,⟨g :: fF,f2,rfl,⟨rfl,fun _ _=>rfl,fun b hb=>?_⟩,h2⟩,by simpa using hn,by simpa using h3⟩
  ·rcases List.mem_cons.1 hb with rfl | h
   ·simp
   ·exact List.mem_cons_of_mem _ (k7 b h)
  ·rcases List.mem_cons.1 hb with rfl | h
   ·exact (Array.getElem?_eq_some_iff.1 hg).1
   ·exact hl b h
end
section
variable {α:Type} {R:Rep α} {W w w0 w1:World} {Γ:List Asn} {F F':List Nat} {E:TypeId} {v:Value} {cs:List Value} {x:α}
theorem Sat.frzOwn (i:Nat) (hS:Sat w0 w Γ) (hi:Γ[i]? = some (Frz W F)) (h:R.own W cs x F') (hs:∀ b∈F',b∈F):R.own w cs x F' :=
 R.own_ext h (fun b hb=>hS.frzEq i hi b (hs b hb))
theorem Sat.refrz (hS:Sat w0 w (Frz W F :: Γ)):Sat w0 w (Frz w F :: Γ) :=
 hS.conv fun f h=>⟨h.1,fun _ _=>rfl,fun b hb=>(Frz W F).lt h b (by rw [h.1];exact hb)⟩
theorem Sat.putBackZ {xs:List α} {i:Int} {u:α} {g m:Nat} (hS:Sat w0 w (Own R cs u :: jc R E v xs i.toNat cs g m :: Γ)) (h:ix xs i=some u):Sat w0 w (Own (aA R E) [v] xs :: Γ):=by
 obtain ⟨k,rfl,hk,rfl⟩:=fO h
 refine hS.putBackC (i:=(k:Int)) ?_
 unfold sto
 rw [if_pos (by omega),Int.toNat_natCast,List.set_getElem_self]
theorem Sat.fzOne (hS:Sat w0 w Γ) (h:(fzR W F R).rd w1 cs x):Sat w0 w (nh (fzR W F R) cs [x] :: Γ) :=
 (hS.add (A:=Own (fzR W F R) cs x) ⟨h,rfl⟩).one
end
end Go.Proofs.Ytnipkopfefkojaa
namespace Go.Proofs.Ytnipkopfefkojaa
open Go.RowKit
def mE (N:Nat) (a0:List Int):Option Bool :=
  some (decide (1048576<(a0.length:Int)))
def eY (N:Nat) (a0:List Int) (a1:Int) (a2:Int):Option (Int × Int × Int) :=
  (sr (IntKind.i64.wrap ((IntKind.i64.wrap (a2*6364136223846793005))+1442695040888963407)) 33).bind fun D =>
  (sr (IntKind.i64.wrap ((IntKind.i64.wrap (a2*6364136223846793005))+1442695040888963407)) 45).bind fun J =>
  (bif decide (a1<(a0.length:Int)) then
  (ix a0 a1).bind fun U =>
  some ((eO (IntKind.i64.wrap ((eO (iD D J) 255)+(IntKind.i64.wrap U))) 255),(IntKind.i64.wrap (a1+1)),(IntKind.i64.wrap ((IntKind.i64.wrap (a2*6364136223846793005))+1442695040888963407)))
  else
  some ((eO (iD D J) 255),a1,(IntKind.i64.wrap ((IntKind.i64.wrap (a2*6364136223846793005))+1442695040888963407))))
def bL (N:Nat) (a0:List Int) (a1:Int) (a2:Int) (a3:Int):Option (Int × Int × Int) :=
  (bif decide (a3≤0) then
  some (0,a1,a2)
  else
  (bif decide (a3≤256) then
  (eY N a0 a1 a2).bind fun D =>
  (rm D.1 a3).bind fun yi =>
  some (yi,D.2.1,D.2.2)
  else
  (eY N a0 a1 a2).bind fun J =>
  (eY N a0 J.2.1 J.2.2).bind fun U =>
  (eY N a0 U.2.1 U.2.2).bind fun Y =>
  (eY N a0 Y.2.1 Y.2.2).bind fun Z =>
  (ml J.1 16777216).bind fun yj =>
  (ml U.1 65536).bind fun yk =>
  (ad yj yk).bind fun yl =>
  (ml Y.1 256).bind fun ym =>
  (ad yl ym).bind fun yn =>
  (ad yn Z.1).bind fun yo =>
  (rm yo a3).bind fun yp =>
  some (yp,Z.2.1,Z.2.2)))
def c5 (N:Nat) (a0:List Int) (a1:Int) (a2:Int) (a3:List Int):Option (Int × Int × Int) :=
  (bL N a0 a1 a2 (a3.length:Int)).bind fun D =>
  (ix a3 D.1).bind fun J =>
  some (J,D.2.1,D.2.2)
def eK (N:Nat):Nat→(List Int)→(List Int)→Int→Option (Sum Int Int)
 | 0,_,_,_=>none
 | k+1,J,U,D =>
  (bif decide (D<(J.length:Int)) then
  (bif decide (D<(U.length:Int)) then
  (ix J D).bind fun Y =>
  (ix U D).bind fun Z =>
  (bif decide (Y<Z) then
  some (.inl (-1))
  else
  (ix J D).bind fun yi =>
  (ix U D).bind fun yj =>
  (bif decide (yj<yi) then
  some (.inl 1)
  else
  (ad D 1).bind fun yk =>
  eK N k J U yk))
  else
  some (.inr D))
  else
  some (.inr D))
def bo (N:Nat) (a0:List Int) (a1:List Int):Option Int :=
  (eK N N a0 a1 0).bind fun D =>
  lpS D (fun q=>some q) fun J =>
  (bif decide ((a0.length:Int)<(a1.length:Int)) then
  some (-1)
  else
  (bif decide ((a1.length:Int)<(a0.length:Int)) then
  some 1
  else
  some 0))
def dy (N:Nat) (a0:Int) (a1:Int) (a2:Int):Option Bool :=
  (bif decide (a1≤a0) then
  some (decide (a0≤a2))
  else
  some false)
def cG (N:Nat):Nat→(List Int)→Int→Option (Sum Bool Int)
 | 0,_,_=>none
 | k+1,J,D =>
  (bif decide (D<(J.length:Int)) then
  (ix J D).bind fun U =>
  (dy N U 0 99).bind fun Y =>
  (bif Y then
  (ad D 1).bind fun Z =>
  cG N k J Z
  else
  some (.inl false))
  else
  some (.inr D))
def dV (N:Nat) (a0:List Int):Option Bool :=
  (cG N N a0 0).bind fun D =>
  lpS D (fun q=>some q) fun J =>
  some true
def b9 (N:Nat):Nat→Int→(List (List Int))→Int→Option (Sum Bool Int)
 | 0,_,_,_=>none
 | k+1,U,J,D =>
  (bif decide (D<(J.length:Int)) then
  (ix J D).bind fun Y =>
  (bif ((Y.length:Int) != U) then
  some (.inl false)
  else
  (ix J D).bind fun Z =>
  (dV N Z).bind fun yi =>
  (bif yi then
  (bif decide (0<D) then
  (sb D 1).bind fun yj =>
  (ix J yj).bind fun yk =>
  (ix J D).bind fun yl =>
  (bo N yk yl).bind fun ym =>
  (bif decide (0≤ym) then
  some (.inl false)
  else
  (ad D 1).bind fun yn =>
  b9 N k U J yn)
  else
  (ad D 1).bind fun yo =>
  b9 N k U J yo)
  else
  some (.inl false)))
  else
  some (.inr D))
def cB (N:Nat) (a0:Int) (a1:List (List Int)):Option Bool :=
  (dy N a0 0 5).bind fun D =>
  (bif D then
  (bif decide (4000<(a1.length:Int)) then
  some false
  else
  (b9 N N a0 a1 0).bind fun J =>
  lpS J (fun q=>some q) fun U =>
  some true)
  else
  some false)
def dI (N:Nat):Nat→Int→(List (List Int))→Int→(List (List Int))→Int→(List (List Int))→Int→Option ((List (List Int)) × Int)
 | 0,_,_,_,_,_,_,_=>none
 | k+1,Y,J,Z,yi,yj,U,D =>
  (bif decide (D<(J.length:Int)) then
  (ix J D).bind fun yk =>
  (apd 8 [] yk).bind fun yl =>
  (apd 24 U [yl]).bind fun ym =>
  (ad D 1).bind fun yn =>
  dI N k Y J Z yi yj ym yn
  else
  some (U,D))
def hD (N:Nat) (a0:Int) (a1:List (List Int)):Option (Int × List (List Int)) :=
  (dI N N a0 a1 0 [] a0 [] 0).bind fun D =>
  lpB D fun (J,U) =>
  some (a0,J)
def aG (rec:(List (List Int))→Option (List (List Int))) (N:Nat):Nat→(List (List Int))→(List (List Int))→(List (List Int))→Option ((List (List Int)) × (List (List Int)) × (List (List Int)))
 | 0,_,_,_=>none
 | k+1,J,U,D =>
  (bif decide (0<(J.length:Int)) then
  (bif ((J.length:Int) == 0) then
  (bif decide (0<(1:Int)) then
  (ix U 0).bind fun Y =>
  (slc U 1 (U.length:Int)).bind fun Z =>
  (bif ((D.length:Int) == 0) then
  (apd 24 D [Y]).bind fun yC =>
  aG rec N k J Z yC
  else
  (sb (D.length:Int) 1).bind fun yD =>
  (ix D yD).bind fun yE =>
  (bo N yE Y).bind fun yF =>
  (bif (yF != 0) then
  (apd 24 D [Y]).bind fun yG =>
  aG rec N k J Z yG
  else
  aG rec N k J Z D))
  else
  (ix J 0).bind fun yi =>
  (slc J 1 (J.length:Int)).bind fun yj =>
  (bif ((D.length:Int) == 0) then
  (apd 24 D [yi]).bind fun yH =>
  aG rec N k yj U yH
  else
  (sb (D.length:Int) 1).bind fun yI =>
  (ix D yI).bind fun yJ =>
  (bo N yJ yi).bind fun yK =>
  (bif (yK != 0) then
  (apd 24 D [yi]).bind fun yL =>
  aG rec N k yj U yL
  else
  aG rec N k yj U D)))
  else
  (bif decide (0<(U.length:Int)) then
  (ix J 0).bind fun yM =>
  (ix U 0).bind fun yN =>
  (bo N yM yN).bind fun yO =>
  (bif decide (0<yO) then
  (ix U 0).bind fun yk =>
  (slc U 1 (U.length:Int)).bind fun yl =>
  (bif ((D.length:Int) == 0) then
  (apd 24 D [yk]).bind fun yP =>
  aG rec N k J yl yP
  else
  (sb (D.length:Int) 1).bind fun yQ =>
  (ix D yQ).bind fun yR =>
  (bo N yR yk).bind fun yS =>
  (bif (yS != 0) then
  (apd 24 D [yk]).bind fun yT =>
  aG rec N k J yl yT
  else
  aG rec N k J yl D))
  else
  (ix J 0).bind fun ym =>
  (slc J 1 (J.length:Int)).bind fun yn =>
  (bif ((D.length:Int) == 0) then
  (apd 24 D [ym]).bind fun yU =>
  aG rec N k yn U yU
  else
  (sb (D.length:Int) 1).bind fun yV =>
  (ix D yV).bind fun yW =>
  (bo N yW ym).bind fun yX =>
  (bif (yX != 0) then
  (apd 24 D [ym]).bind fun yY =>
  aG rec N k yn U yY
  else
  aG rec N k yn U D)))
  else
  (bif decide (0<((-1):Int)) then
  (ix U 0).bind fun yo =>
  (slc U 1 (U.length:Int)).bind fun yp =>
  (bif ((D.length:Int) == 0) then
  (apd 24 D [yo]).bind fun yZ =>
  aG rec N k J yp yZ
  else
  (sb (D.length:Int) 1).bind fun y1 =>
  (ix D y1).bind fun y2 =>
  (bo N y2 yo).bind fun y3 =>
  (bif (y3 != 0) then
  (apd 24 D [yo]).bind fun y4 =>
  aG rec N k J yp y4
  else
  aG rec N k J yp D))
  else
  (ix J 0).bind fun yq =>
  (slc J 1 (J.length:Int)).bind fun yr =>
  (bif ((D.length:Int) == 0) then
  (apd 24 D [yq]).bind fun y5 =>
  aG rec N k yr U y5
  else
  (sb (D.length:Int) 1).bind fun y6 =>
  (ix D y6).bind fun y7 =>
  (bo N y7 yq).bind fun y8 =>
  (bif (y8 != 0) then
  (apd 24 D [yq]).bind fun y9 =>
  aG rec N k yr U y9
  else
  aG rec N k yr U D)))))
  else
  (bif decide (0<(U.length:Int)) then
  (bif ((J.length:Int) == 0) then
  (bif decide (0<(1:Int)) then
  (ix U 0).bind fun yt =>
  (slc U 1 (U.length:Int)).bind fun yu =>
  (bif ((D.length:Int) == 0) then
  (apd 24 D [yt]).bind fun za =>
  aG rec N k J yu za
  else
  (sb (D.length:Int) 1).bind fun zb =>
  (ix D zb).bind fun zc =>
  (bo N zc yt).bind fun zd =>
  (bif (zd != 0) then
  (apd 24 D [yt]).bind fun ze =>
  aG rec N k J yu ze
  else
  aG rec N k J yu D))
  else
  (ix J 0).bind fun yw =>
  (slc J 1 (J.length:Int)).bind fun yx =>
  (bif ((D.length:Int) == 0) then
  (apd 24 D [yw]).bind fun zf =>
  aG rec N k yx U zf
  else
  (sb (D.length:Int) 1).bind fun zg =>
  (ix D zg).bind fun zh =>
  (bo N zh yw).bind fun zi =>
  (bif (zi != 0) then
  (apd 24 D [yw]).bind fun zj =>
  aG rec N k yx U zj
  else
  aG rec N k yx U D)))
  else
  (ix J 0).bind fun zk =>
  (ix U 0).bind fun zl =>
  (bo N zk zl).bind fun zm =>
  (bif decide (0<zm) then
  (ix U 0).bind fun yy =>
  (slc U 1 (U.length:Int)).bind fun yz =>
  (bif ((D.length:Int) == 0) then
  (apd 24 D [yy]).bind fun zn =>
  aG rec N k J yz zn
  else
  (sb (D.length:Int) 1).bind fun zo =>
  (ix D zo).bind fun zp =>
  (bo N zp yy).bind fun zq =>
  (bif (zq != 0) then
  (apd 24 D [yy]).bind fun zr =>
  aG rec N k J yz zr
  else
  aG rec N k J yz D))
  else
  (ix J 0).bind fun yA =>
  (slc J 1 (J.length:Int)).bind fun yB =>
  (bif ((D.length:Int) == 0) then
  (apd 24 D [yA]).bind fun zt =>
  aG rec N k yB U zt
  else
  (sb (D.length:Int) 1).bind fun zu =>
  (ix D zu).bind fun zw =>
  (bo N zw yA).bind fun zx =>
  (bif (zx != 0) then
  (apd 24 D [yA]).bind fun zy =>
  aG rec N k yB U zy
  else
  aG rec N k yB U D))))
  else
  some (J,U,D)))
def eg:Nat→(List (List Int))→Option (List (List Int))
 | 0,_=>none
 | N+1,a0 =>
  (bif decide ((a0.length:Int)<2) then
  some a0
  else
  (qt (a0.length:Int) 2).bind fun D =>
  (slc a0 0 D).bind fun Y =>
  (eg N Y).bind fun Z =>
  (slc a0 D (a0.length:Int)).bind fun yi =>
  (eg N yi).bind fun yj =>
  (aG (eg N) N N Z yj []).bind fun J =>
  lpB J fun (yk,yl,U) =>
  some U)
def cQ (N:Nat):Nat→Int→(List (List Int))→Int→(List (List Int))→Int→Option (Sum ((Int × List (List Int)) × Bool) Int)
 | 0,_,_,_,_,_=>none
 | k+1,U,J,Y,Z,D =>
  (bif decide (D<(J.length:Int)) then
  (ix J D).bind fun yi =>
  (bif ((yi.length:Int) != U) then
  some (.inl ((0,[]),false))
  else
  (ix J D).bind fun yj =>
  (dV N yj).bind fun yk =>
  (bif yk then
  (ad D 1).bind fun yl =>
  cQ N k U J Y Z yl
  else
  some (.inl ((0,[]),false))))
  else
  some (.inr D))
def cq (N:Nat) (a0:Int) (a1:List (List Int)):Option ((Int × List (List Int)) × Bool) :=
  (cQ N N a0 a1 0 [] 0).bind fun J =>
  lpS J (fun q=>some q) fun Z =>
  (eg N a1).bind fun U =>
  (hD N a0 U).bind fun D =>
  (cB N D.1 D.2).bind fun Y =>
  (bif Y then
  some ((D.1,D.2),true)
  else
  some ((0,[]),false))
def f9 (N:Nat):Nat→(List Int)→Int→Int→Int→Int→(List Int)→Option (Int × Int × (List Int))
 | 0,_,_,_,_,_,_=>none
 | k+1,U,Y,Z,yi,yj,D =>
  (bif decide ((D.length:Int)<yi) then
  (bL N U Y Z yj).bind fun J =>
  (apd 8 D [J.1]).bind fun yk =>
  f9 N k U J.2.1 J.2.2 yi yj yk
  else
  some (Y,Z,D))
def iP (N:Nat) (a0:List Int) (a1:Int) (a2:Int) (a3:Int) (a4:Int):Option ((List Int) × Int × Int) :=
  (f9 N N a0 a1 a2 a3 a4 []).bind fun D =>
  lpB D fun (J,U,Y) =>
  some (Y,J,U)
end Go.Proofs.Ytnipkopfefkojaa
namespace Go.Proofs.Ytnipkopfefkojaa
open Go.RowKit
def gb (N:Nat):Nat→(List Int)→Int→Int→Int→Int→Int→(List (List Int))→(List (List Int))→Int→Option (Int × Int × (List (List Int)) × Int)
 | 0,_,_,_,_,_,_,_,_,_=>none
 | k+1,U,Y,Z,yi,yj,yl,ym,yk,D =>
  (bif decide (0<D) then
  (iP N U Y Z yi yj).bind fun J =>
  (apd 24 yk [J.1]).bind fun yn =>
  (sb D 1).bind fun yo =>
  gb N k U J.2.1 J.2.2 yi yj yl ym yn yo
  else
  some (Y,Z,yk,D))
def gT (N:Nat) (a0:List Int) (a1:Int) (a2:Int) (a3:Int) (a4:Int) (a5:Int):Option ((Int × List (List Int)) × Int × Int) :=
  (ad a4 1).bind fun U =>
  (bL N a0 a1 a2 U).bind fun D =>
  (gb N N a0 D.2.1 D.2.2 a3 a5 0 [] [] D.1).bind fun Y =>
  lpB Y fun (Z,yi,yj,yk) =>
  (cq N a3 yj).bind fun J =>
  some ((J.1.1,J.1.2),Z,yi)
def gr (N:Nat) (a0:List Int) (a1:Int) (a2:Int) (a3:Int):Option (Bool × Int × Int) :=
  (bL N a0 a1 a2 a3).bind fun D =>
  some ((D.1 == 0),D.2.1,D.2.2)
def fb (N:Nat):Nat→(List Int)→Int→Int→(List (ByteArray × (Int × List (List Int))))→Int→(List (ByteArray × (Int × List (List Int))))→(List ByteArray)→Int→Int→Option (Int × Int × (List (ByteArray × (Int × List (List Int)))) × Int)
 | 0,_,_,_,_,_,_,_,_,_=>none
 | k+1,D,yi,yj,yq,U,yk,yl,ym,J =>
  (bif decide (J<ym) then
  (ix yl J).bind fun yn =>
  (bif (eqS yn (⟨#[118]⟩:ByteArray)) then
  (c5 N D yi yj ([3,6,9]:List Int)).bind fun yo =>
  (gT N D yo.2.1 yo.2.2 3 yo.1 U).bind fun Y =>
  (apd 48 yk [(yn,(Y.1.1,Y.1.2))]).bind fun yr =>
  (ad J 1).bind fun yt =>
  fb N k D Y.2.1 Y.2.2 yq U yr yl ym yt
  else
  (c5 N D yi yj ([3,6,9]:List Int)).bind fun yp =>
  (gT N D yp.2.1 yp.2.2 2 yp.1 U).bind fun Z =>
  (apd 48 yk [(yn,(Z.1.1,Z.1.2))]).bind fun yu =>
  (ad J 1).bind fun yw =>
  fb N k D Z.2.1 Z.2.2 yq U yu yl ym yw)
  else
  some (yi,yj,yk,J))
def jx (N:Nat) (a0:List Int) (a1:Int) (a2:Int):Option ((List (ByteArray × (Int × List (List Int)))) × Int × Int) :=
  (c5 N a0 a1 a2 ([2,3,4,6]:List Int)).bind fun U =>
  (fb N N a0 U.2.1 U.2.2 [] U.1 [] ([(⟨#[114]⟩:ByteArray),(⟨#[115]⟩:ByteArray),(⟨#[116]⟩:ByteArray),(⟨#[117]⟩:ByteArray),(⟨#[118]⟩:ByteArray)]:List ByteArray) (([(⟨#[114]⟩:ByteArray),(⟨#[115]⟩:ByteArray),(⟨#[116]⟩:ByteArray),(⟨#[117]⟩:ByteArray),(⟨#[118]⟩:ByteArray)]:List ByteArray).length:Int) 0).bind fun yi =>
  lpB yi fun (yj,yk,Y,ym) =>
  (gr N a0 yj yk 8).bind fun D =>
  (bif D.1 then
  (bL N a0 D.2.1 D.2.2 5).bind fun J =>
  (ix Y J.1).bind fun Z =>
  (sto Y J.1 (Z.1,(Z.2.1,[]))).bind fun yl =>
  some (yl,J.2.1,J.2.2)
  else
  some (Y,D.2.1,D.2.2))
def gz (N:Nat):Nat→(List Int)→Int→Int→Option (Sum Int Int)
 | 0,_,_,_=>none
 | k+1,J,U,D =>
  (bif decide (D<(J.length:Int)) then
  (ix J D).bind fun Y =>
  (bif (Y == U) then
  some (.inl D)
  else
  (ad D 1).bind fun Z =>
  gz N k J U Z)
  else
  some (.inr D))
def dD (N:Nat) (a0:List Int) (a1:Int):Option Int :=
  (gz N N a0 a1 0).bind fun D =>
  lpS D (fun q=>some q) fun J =>
  some (-1)
def dW (N:Nat):Nat→ByteArray→Int→Option (Sum Bool Int)
 | 0,_,_=>none
 | k+1,J,D =>
  (bif decide (D<(J.size:Int)) then
  (bx J D).bind fun U =>
  (bif decide (U<97) then
  some (.inl false)
  else
  (bx J D).bind fun Y =>
  (bif decide (122<Y) then
  some (.inl false)
  else
  (ad D 1).bind fun Z =>
  dW N k J Z))
  else
  some (.inr D))
def eX (N:Nat) (a0:ByteArray):Option Bool :=
  (dW N N a0 0).bind fun D =>
  lpS D (fun q=>some q) fun U =>
  (dy N (a0.size:Int) 1 4).bind fun J =>
  some J
def bV (N:Nat):Nat→Int→ByteArray→(List Int)→Int→Option (Sum Bool Int)
 | 0,_,_,_,_=>none
 | k+1,U,Y,J,D =>
  (bif decide (D<(J.length:Int)) then
  (ix J D).bind fun Z =>
  (bif (Z == U) then
  some (.inl true)
  else
  (ad D 1).bind fun yi =>
  bV N k U Y J yi)
  else
  some (.inr D))
def dv (N:Nat) (a0:ByteArray) (a1:List Int) (a2:Int):Option Bool :=
  (bV N N a2 a0 a1 0).bind fun D =>
  lpS D (fun q=>some q) fun J =>
  some false
def cw (N:Nat):Nat→Int→(List (ByteArray × List Int))→(List Int)→Int→Int→Option (Sum Bool Int)
 | 0,_,_,_,_,_=>none
 | k+1,Y,J,Z,U,D =>
  (ix J U).bind fun yi =>
  (bif decide (D<(yi.2.length:Int)) then
  (ix J U).bind fun yj =>
  (ix yj.2 D).bind fun yk =>
  (sb Y 1).bind fun yl =>
  (dy N yk 0 yl).bind fun ym =>
  (bif ym then
  (ad D 1).bind fun yn =>
  cw N k Y J Z U yn
  else
  some (.inl false))
  else
  some (.inr D))
def cy (N:Nat):Nat→Int→(List (ByteArray × List Int))→(List Int)→Int→Option (Sum Bool Int)
 | 0,_,_,_,_=>none
 | k+1,U,J,Y,D =>
  (bif decide (D<(J.length:Int)) then
  (ix J D).bind fun Z =>
  (eX N Z.1).bind fun yi =>
  (bif yi then
  (ix J D).bind fun yj =>
  (dy N (yj.2.length:Int) 1 5).bind fun yk =>
  (bif yk then
  (cw N N U J Y D 0).bind fun yl =>
  lpS yl (fun q=>some (.inl q)) fun yn =>
  (ad D 1).bind fun ym =>
  cy N k U J Y ym
  else
  some (.inl false))
  else
  some (.inl false))
  else
  some (.inr D))
def ce (N:Nat):Nat→Int→(List (ByteArray × List Int))→(List Int)→Int→Bool→Int→Option (Bool × Int)
 | 0,_,_,_,_,_,_=>none
 | k+1,Y,J,Z,U,yi,D =>
  (bif decide (D<(J.length:Int)) then
  (bif yi then
  (ad D 1).bind fun yk =>
  ce N k Y J Z U true yk
  else
  (ix J D).bind fun yj =>
  (dv N yj.1 yj.2 U).bind fun yl =>
  (ad D 1).bind fun ym =>
  ce N k Y J Z U yl ym)
  else
  some (yi,D))
def cE (N:Nat):Nat→Int→(List (ByteArray × List Int))→(List Int)→Int→Option (Sum Bool Int)
 | 0,_,_,_,_=>none
 | k+1,J,U,Y,D =>
  (bif decide (D<J) then
  (ce N N J U Y D false 0).bind fun Z =>
  lpB Z fun (yi,yk) =>
  (bif yi then
  (ad D 1).bind fun yj =>
  cE N k J U Y yj
  else
  some (.inl false))
  else
  some (.inr D))
def cF (N:Nat):Nat→Int→(List (ByteArray × List Int))→(List Int)→Int→Option (Sum Bool Int)
 | 0,_,_,_,_=>none
 | k+1,U,Y,J,D =>
  (bif decide (D<(J.length:Int)) then
  (ix J D).bind fun Z =>
  (sb U 1).bind fun yi =>
  (dy N Z 0 yi).bind fun yj =>
  (bif yj then
  (slc J 0 D).bind fun yk =>
  (ix J D).bind fun yl =>
  (dD N yk yl).bind fun ym =>
  (bif decide (0≤ym) then
  some (.inl false)
  else
  (ad D 1).bind fun yn =>
  cF N k U Y J yn)
  else
  some (.inl false))
  else
  some (.inr D))
def dP (N:Nat) (a0:Int) (a1:List (ByteArray × List Int)) (a2:List Int):Option Bool :=
  (dy N a0 1 5).bind fun D =>
  (bif D then
  (dy N (a1.length:Int) 1 4).bind fun J =>
  (bif J then
  (bif decide (a0<(a2.length:Int)) then
  some false
  else
  (cy N N a0 a1 a2 0).bind fun U =>
  lpS U (fun q=>some q) fun yi =>
  (cE N N a0 a1 a2 0).bind fun Y =>
  lpS Y (fun q=>some q) fun yj =>
  (cF N N a0 a1 a2 0).bind fun Z =>
  lpS Z (fun q=>some q) fun yk =>
  some true)
  else
  some false)
  else
  some false)
def jd (N:Nat):Nat→ByteArray→Int→(List ByteArray)→Int→Int→Option ((List ByteArray) × Int × Int)
 | 0,_,_,_,_,_=>none
 | k+1,J,U,Y,Z,D =>
  (bif decide (D<(J.size:Int)) then
  (bx J D).bind fun yi =>
  (bif (yi == U) then
  (ssl J Z D).bind fun yj =>
  (apd 16 Y [yj]).bind fun yk =>
  (ad D 1).bind fun yl =>
  (ad D 1).bind fun ym =>
  jd N k J U yk yl ym
  else
  (ad D 1).bind fun yn =>
  jd N k J U Y Z yn)
  else
  some (Y,Z,D))
def jL (N:Nat) (a0:ByteArray) (a1:Int):Option (List ByteArray) :=
  (jd N N a0 a1 [] 0 0).bind fun D =>
  lpB D fun (J,U,yi) =>
  (ssl a0 U (a0.size:Int)).bind fun Y =>
  (apd 16 J [Y]).bind fun Z =>
  some Z
def fC (N:Nat) (a0:Int):Option ByteArray :=
  (dy N a0 0 4).bind fun D =>
  (bif D then
  (ad a0 1).bind fun J =>
  (ssl (⟨#[88,89,90,85,86]⟩:ByteArray) a0 J).bind fun U =>
  some U
  else
  some ByteArray.empty)
def iI (N:Nat):Nat→ByteArray→(List Int)→Int→Int→Option ((List Int) × Int)
 | 0,_,_,_,_=>none
 | k+1,U,Y,J,D =>
  (bif decide (D<5) then
  (fC N D).bind fun Z =>
  (ad J 1).bind fun yi =>
  (ssl U J yi).bind fun yj =>
  (bif (eqS Z yj) then
  (apd 8 Y [D]).bind fun yk =>
  (ad D 1).bind fun yl =>
  iI N k U yk J yl
  else
  (ad D 1).bind fun ym =>
  iI N k U Y J ym)
  else
  some (Y,D))
def j5 (N:Nat):Nat→ByteArray→(List Int)→Int→Option ((List Int) × Int)
 | 0,_,_,_=>none
 | k+1,J,U,D =>
  (bif decide (D<(J.size:Int)) then
  (iI N N J U D 0).bind fun Y =>
  lpB Y fun (Z,yj) =>
  (ad D 1).bind fun yi =>
  j5 N k J Z yi
  else
  some (U,D))
def kh (N:Nat) (a0:ByteArray):Option (List Int) :=
  (j5 N N a0 [] 0).bind fun D =>
  lpB D fun (J,U) =>
  some J
def j6 (N:Nat):Nat→(List Int)→ByteArray→Int→Option (ByteArray × Int)
 | 0,_,_,_=>none
 | k+1,J,U,D =>
  (bif decide (D<(J.length:Int)) then
  (ix J D).bind fun Y =>
  (fC N Y).bind fun Z =>
  (kA U Z).bind fun yi =>
  (ad D 1).bind fun yj =>
  j6 N k J yi yj
  else
  some (U,D))
def i5 (N:Nat) (a0:List Int):Option ByteArray :=
  (j6 N N a0 (⟨#[40]⟩:ByteArray) 0).bind fun D =>
  lpB D fun (J,Y) =>
  (kA J (⟨#[41]⟩:ByteArray)).bind fun U =>
  some U
def fX (N:Nat):Nat→Int→(List (ByteArray × List Int))→(List Int)→ByteArray→Int→Option (ByteArray × Int)
 | 0,_,_,_,_,_=>none
 | k+1,Y,J,Z,U,D =>
  (bif decide (D<(J.length:Int)) then
  (bif decide (0<D) then
  (kA U (⟨#[44]⟩:ByteArray)).bind fun yi =>
  (ix J D).bind fun yj =>
  (kA yi yj.1).bind fun yk =>
  (ix J D).bind fun yl =>
  (i5 N yl.2).bind fun ym =>
  (kA yk ym).bind fun yn =>
  (ad D 1).bind fun yo =>
  fX N k Y J Z yn yo
  else
  (ix J D).bind fun yp =>
  (kA U yp.1).bind fun yq =>
  (ix J D).bind fun yr =>
  (i5 N yr.2).bind fun yt =>
  (kA yq yt).bind fun yu =>
  (ad D 1).bind fun yw =>
  fX N k Y J Z yu yw)
  else
  some (U,D))
def jg (N:Nat) (a0:Int) (a1:List (ByteArray × List Int)) (a2:List Int):Option ByteArray :=
  (dP N a0 a1 a2).bind fun D =>
  (bif D then
  (i5 N a2).bind fun J =>
  (kA J (⟨#[61]⟩:ByteArray)).bind fun U =>
  (fX N N a0 a1 a2 U 0).bind fun Y =>
  lpB Y fun (Z,yi) =>
  some Z
  else
  some ByteArray.empty)
end Go.Proofs.Ytnipkopfefkojaa
namespace Go.Proofs.Ytnipkopfefkojaa
open Go.RowKit
def gc (N:Nat):Nat→ByteArray→Int→(List (ByteArray × List Int))→(List Int)→Int→(List (ByteArray × List Int))→(List Int)→(List ByteArray)→Int→Int→Int→Option (Int × Int)
 | 0,_,_,_,_,_,_,_,_,_,_,_=>none
 | k+1,Z,yi,yj,yk,yl,ym,yn,U,Y,J,D =>
  (bif decide (D<5) then
  (fC N D).bind fun yo =>
  (ix U Y).bind fun yp =>
  (ad J 1).bind fun yq =>
  (ssl yp J yq).bind fun yr =>
  (bif (eqS yo yr) then
  (ad D 1).bind fun yt =>
  (ad D 1).bind fun yu =>
  gc N k Z yi yj yk yt ym yn U Y J yu
  else
  (ad D 1).bind fun yw =>
  gc N k Z yi yj yk yl ym yn U Y J yw)
  else
  some (yl,D))
def ir (N:Nat):Nat→ByteArray→Int→(List (ByteArray × List Int))→(List Int)→Int→(List (ByteArray × List Int))→(List Int)→(List ByteArray)→Int→Int→Option (Int × Int)
 | 0,_,_,_,_,_,_,_,_,_,_=>none
 | k+1,Z,yi,yj,yk,J,yl,ym,U,Y,D =>
  (ix U Y).bind fun yn =>
  (bif decide (D<(yn.size:Int)) then
  (gc N N Z yi yj yk J yl ym U Y D J).bind fun yo =>
  lpB yo fun (yp,yr) =>
  (ad D 1).bind fun yq =>
  ir N k Z yi yj yk yp yl ym U Y yq
  else
  some (J,D))
def iv (N:Nat):Nat→ByteArray→Int→(List (ByteArray × List Int))→(List Int)→Int→(List (ByteArray × List Int))→(List Int)→(List ByteArray)→Int→Option (Int × (List (ByteArray × List Int)) × Int)
 | 0,_,_,_,_,_,_,_,_,_=>none
 | k+1,U,Y,Z,yi,yj,yk,yl,J,D =>
  (bif decide (D<(J.length:Int)) then
  (ix J D).bind fun yn =>
  (jL N yn 40).bind fun yo =>
  (ix yo 0).bind fun yp =>
  (ix J D).bind fun yq =>
  (kh N yq).bind fun yr =>
  (apd 40 yk [(yp,yr)]).bind fun ym =>
  (ir N N U Y Z yi yj ym yl J D 0).bind fun yt =>
  lpB yt fun (yu,yx) =>
  (ad D 1).bind fun yw =>
  iv N k U Y Z yi yu ym yl J yw
  else
  some (yj,yk,D))
def bW (N:Nat) (a0:ByteArray):Option ((Int × List (ByteArray × List Int) × List Int) × Bool) :=
  (jL N a0 61).bind fun D =>
  (bif ((D.length:Int) != 2) then
  some ((0,[],[]),false)
  else
  (ix D 0).bind fun Z =>
  (kh N Z).bind fun J =>
  (ix D 1).bind fun yi =>
  (jL N yi 44).bind fun yj =>
  (iv N N a0 0 [] [] 0 [] J yj 0).bind fun yk =>
  lpB yk fun (U,Y,ym) =>
  (jg N U Y J).bind fun yl =>
  (bif (eqS yl a0) then
  (bif (eqS a0 ByteArray.empty) then
  some ((0,[],[]),false)
  else
  some ((U,Y,J),true))
  else
  some ((0,[],[]),false)))
def gv (N:Nat) (a0:List Int) (a1:Int) (a2:Int) (a3:List ByteArray):Option (ByteArray × Int × Int) :=
  (bL N a0 a1 a2 (a3.length:Int)).bind fun D =>
  (ix a3 D.1).bind fun J =>
  some (J,D.2.1,D.2.2)
def fh (N:Nat):Nat→(List Int)→Int→Int→Int→(List (ByteArray × List Int))→(List Int)→Int→(List (ByteArray × List Int))→(List Int)→Int→(List (ByteArray × List Int))→(List Int)→Int→ByteArray→(List Int)→Int→Option (Int × Int × (List Int) × Int)
 | 0,_,_,_,_,_,_,_,_,_,_,_,_,_,_,_,_=>none
 | k+1,U,Y,Z,yk,yl,ym,yn,yo,yp,yi,yq,yr,yt,yu,yj,D =>
  (bif decide (0<D) then
  (bL N U Y Z yi).bind fun J =>
  (apd 8 yj [J.1]).bind fun yw =>
  (sb D 1).bind fun yx =>
  fh N k U J.2.1 J.2.2 yk yl ym yn yo yp yi yq yr yt yu yw yx
  else
  some (Y,Z,yj,D))
def fq (N:Nat):Nat→(List Int)→Int→Int→Int→(List (ByteArray × List Int))→(List Int)→Int→(List (ByteArray × List Int))→(List Int)→Int→(List (ByteArray × List Int))→(List Int)→Int→Option (Int × Int × (List (ByteArray × List Int)) × Int)
 | 0,_,_,_,_,_,_,_,_,_,_,_,_,_=>none
 | k+1,U,Z,yi,yj,yk,yl,ym,yn,yo,yp,Y,yq,D =>
  (bif decide (0<D) then
  (bL N U Z yi 5).bind fun J =>
  (ix ([(⟨#[114]⟩:ByteArray),(⟨#[115]⟩:ByteArray),(⟨#[116]⟩:ByteArray),(⟨#[117]⟩:ByteArray),(⟨#[118]⟩:ByteArray)]:List ByteArray) J.1).bind fun yr =>
  (qt J.1 4).bind fun yt =>
  (ad 2 yt).bind fun yu =>
  (fh N N U J.2.1 J.2.2 yj yk yl ym yn yo yp Y yq D yr [] yu).bind fun yw =>
  lpB yw fun (yx,yy,yz,yC) =>
  (apd 40 Y [(yr,yz)]).bind fun yA =>
  (sb D 1).bind fun yB =>
  fq N k U yx yy yj yk yl ym yn yo yp yA yq yB
  else
  some (Z,yi,Y,D))
def dQ (N:Nat):Nat→(List Int)→Int→Int→Int→(List (ByteArray × List Int))→(List Int)→Int→(List (ByteArray × List Int))→(List Int)→Int→(List (ByteArray × List Int))→(List Int)→Int→Option (Int × Int × (List Int) × Int)
 | 0,_,_,_,_,_,_,_,_,_,_,_,_,_=>none
 | k+1,U,yi,yj,yk,yl,ym,yn,yo,yp,Y,yq,Z,D =>
  (bif decide (D<Y) then
  (gr N U yi yj 2).bind fun J =>
  (bif J.1 then
  (apd 8 ([D]) Z).bind fun yr =>
  (ad D 1).bind fun yt =>
  dQ N k U J.2.1 J.2.2 yk yl ym yn yo yp Y yq yr yt
  else
  (ad D 1).bind fun yu =>
  dQ N k U J.2.1 J.2.2 yk yl ym yn yo yp Y yq Z yu)
  else
  some (yi,yj,Z,D))
def gG (N:Nat) (a0:List Int) (a1:Int) (a2:Int):Option ((Int × List (ByteArray × List Int) × List Int) × Int × Int) :=
  (gv N a0 a1 a2 ([(⟨#[40,88,89,90,41,61,114,40,88,89,41,44,115,40,89,90,41,44,116,40,90,88,41]⟩:ByteArray),(⟨#[40,88,89,90,85,41,61,114,40,88,89,41,44,115,40,89,90,41,44,116,40,90,85,41,44,117,40,85,88,41]⟩:ByteArray),(⟨#[40,88,89,90,41,61,114,40,88,89,41,44,115,40,89,90,41]⟩:ByteArray),(⟨#[40,88,41,61,114,40,88,89,41,44,115,40,89,90,41,44,116,40,90,85,41]⟩:ByteArray),(⟨#[40,88,89,90,41,61,118,40,88,89,90,41,44,114,40,88,89,41]⟩:ByteArray),(⟨#[40,88,89,41,61,114,40,88,89,41,44,114,40,89,88,41]⟩:ByteArray),(⟨#[40,88,89,90,85,41,61,118,40,88,89,90,41,44,115,40,90,85,41,44,116,40,85,88,41]⟩:ByteArray),(⟨#[40,88,41,61,114,40,88,88,41]⟩:ByteArray),(⟨#[40,88,89,41,61,114,40,88,90,41,44,115,40,90,89,41,44,114,40,88,85,41,44,115,40,85,89,41]⟩:ByteArray),(⟨#[40,41,61,114,40,88,89,41,44,115,40,89,88,41]⟩:ByteArray),(⟨#[40,88,89,90,85,86,41,61,114,40,88,89,41,44,115,40,89,90,41,44,116,40,90,85,41,44,117,40,85,86,41]⟩:ByteArray)]:List ByteArray)).bind fun Y =>
  (bW N Y.1).bind fun D =>
  (gr N a0 Y.2.1 Y.2.2 3).bind fun J =>
  (bif J.1 then
  (bL N a0 J.2.1 J.2.2 4).bind fun Z =>
  (ad 1 Z.1).bind fun U =>
  (bL N a0 Z.2.1 Z.2.2 4).bind fun yi =>
  (ad 1 yi.1).bind fun yn =>
  (fq N N a0 yi.2.1 yi.2.2 0 [] [] D.1.1 D.1.2.1 D.1.2.2 U [] [] yn).bind fun yo =>
  lpB yo fun (yp,yq,yj,yu) =>
  (dQ N N a0 yp yq 0 [] [] D.1.1 D.1.2.1 D.1.2.2 U yj [] 0).bind fun yr =>
  lpB yr fun (yk,yl,ym,yw) =>
  (dP N U yj ym).bind fun yt =>
  (bif yt then
  some ((U,yj,ym),yk,yl)
  else
  some ((D.1.1,D.1.2.1,D.1.2.2),yk,yl))
  else
  some ((D.1.1,D.1.2.1,D.1.2.2),J.2.1,J.2.2))
def jI (N:Nat) (a0:List Int) (a1:Int) (a2:Int):Option ((Int × List (List Int)) × Int × Int) :=
  (bL N a0 a1 a2 4).bind fun U =>
  (gT N a0 U.2.1 U.2.2 U.1 6 4).bind fun D =>
  (bL N a0 D.2.1 D.2.2 14).bind fun J =>
  (bif (J.1 == 0) then
  (ad D.1.1 1).bind fun yk =>
  (c5 N a0 J.2.1 J.2.2 ([(-1),6,yk]:List Int)).bind fun Y =>
  some ((Y.1,D.1.2),Y.2.1,Y.2.2)
  else
  (bif (J.1 == 1) then
  (iP N a0 J.2.1 J.2.2 (imx 0 D.1.1) 4).bind fun Z =>
  (apd 24 D.1.2 [Z.1]).bind fun yl =>
  some ((D.1.1,yl),Z.2.1,Z.2.2)
  else
  (bif (J.1 == 2) then
  (bif decide (0<(D.1.2.length:Int)) then
  (bif decide (0<D.1.1) then
  (ix D.1.2 0).bind fun yj =>
  (c5 N a0 J.2.1 J.2.2 ([(-1),100,99]:List Int)).bind fun yi =>
  (ix yj 0).bind fun yo =>
  (sto yj 0 yi.1).bind fun ym =>
  (sto D.1.2 0 ym).bind fun yn =>
  some ((D.1.1,yn),yi.2.1,yi.2.2)
  else
  some ((D.1.1,D.1.2),J.2.1,J.2.2))
  else
  some ((D.1.1,D.1.2),J.2.1,J.2.2))
  else
  some ((D.1.1,D.1.2),J.2.1,J.2.2))))
def jR (N:Nat) (a0:List Int) (a1:Int) (a2:Int):Option ((List (ByteArray × (Int × List (List Int)))) × Int × Int) :=
  (jx N a0 a1 a2).bind fun J =>
  (bL N a0 J.2.1 J.2.2 5).bind fun U =>
  (bL N a0 U.2.1 U.2.2 14).bind fun D =>
  (bif (D.1 == 0) then
  (gv N a0 D.2.1 D.2.2 ([ByteArray.empty,(⟨#[82]⟩:ByteArray),(⟨#[97,98,99,100,101]⟩:ByteArray),(⟨#[97]⟩:ByteArray),(⟨#[122]⟩:ByteArray)]:List ByteArray)).bind fun Z =>
  (ix J.1 U.1).bind fun yj =>
  (sto J.1 U.1 (Z.1,(yj.2.1,yj.2.2))).bind fun yk =>
  some (yk,Z.2.1,Z.2.2)
  else
  (bif (D.1 == 1) then
  (jI N a0 D.2.1 D.2.2).bind fun Y =>
  (ix J.1 U.1).bind fun yl =>
  (sto J.1 U.1 (yl.1,(Y.1.1,Y.1.2))).bind fun ym =>
  some (ym,Y.2.1,Y.2.2)
  else
  (bif (D.1 == 2) then
  (ix J.1 U.1).bind fun yi =>
  (apd 48 J.1 [(yi.1,(yi.2.1,yi.2.2))]).bind fun yn =>
  some (yn,D.2.1,D.2.2)
  else
  (bif (D.1 == 3) then
  (slc J.1 0 U.1).bind fun yo =>
  some (yo,D.2.1,D.2.2)
  else
  some (J.1,D.2.1,D.2.2)))))
def jG (N:Nat) (a0:List Int) (a1:Int) (a2:Int):Option ((Int × List (ByteArray × List Int) × List Int) × Int × Int) :=
  (gG N a0 a1 a2).bind fun D =>
  (bL N a0 D.2.1 D.2.2 14).bind fun J =>
  (bif (J.1 == 0) then
  (ad D.1.1 1).bind fun yk =>
  (c5 N a0 J.2.1 J.2.2 ([0,6,yk]:List Int)).bind fun U =>
  some ((U.1,D.1.2.1,D.1.2.2),U.2.1,U.2.2)
  else
  (bif (J.1 == 1) then
  (gv N a0 J.2.1 J.2.2 ([ByteArray.empty,(⟨#[119]⟩:ByteArray),(⟨#[114]⟩:ByteArray)]:List ByteArray)).bind fun Y =>
  (apd 40 D.1.2.1 [(Y.1,[0])]).bind fun yl =>
  some ((D.1.1,yl,D.1.2.2),Y.2.1,Y.2.2)
  else
  (bif (J.1 == 2) then
  (bL N a0 J.2.1 J.2.2 6).bind fun Z =>
  (sb Z.1 1).bind fun ym =>
  (apd 8 D.1.2.2 [ym]).bind fun yn =>
  some ((D.1.1,D.1.2.1,yn),Z.2.1,Z.2.2)
  else
  (bif (J.1 == 3) then
  (ix D.1.2.1 0).bind fun yo =>
  (sto D.1.2.1 0 (yo.1,[])).bind fun yp =>
  some ((D.1.1,yp,D.1.2.2),J.2.1,J.2.2)
  else
  (bif (J.1 == 4) then
  (ix D.1.2.1 0).bind fun yi =>
  (c5 N a0 J.2.1 J.2.2 ([(-1),5]:List Int)).bind fun yj =>
  (ix yi.2 0).bind fun yt =>
  (sto yi.2 0 yj.1).bind fun yq =>
  (sto D.1.2.1 0 (yi.1,yq)).bind fun yr =>
  some ((D.1.1,yr,D.1.2.2),yj.2.1,yj.2.2)
  else
  some ((D.1.1,D.1.2.1,D.1.2.2),J.2.1,J.2.2))))))
def i8 (N:Nat) (a0:List Int) (a1:Int) (a2:Int):Option ((List (ByteArray × (Int × List (List Int)))) × (Int × List (ByteArray × List Int) × List Int) × Int × Int) :=
  (jx N a0 a1 a2).bind fun Y =>
  (gG N a0 Y.2.1 Y.2.2).bind fun D =>
  (bL N a0 D.2.1 D.2.2 24).bind fun J =>
  (bif (J.1 == 0) then
  (jR N a0 J.2.1 J.2.2).bind fun Z =>
  some (Z.1,(D.1.1,D.1.2.1,D.1.2.2),Z.2.1,Z.2.2)
  else
  (bif (J.1 == 1) then
  (jG N a0 J.2.1 J.2.2).bind fun U =>
  some (Y.1,(U.1.1,U.1.2.1,U.1.2.2),U.2.1,U.2.2)
  else
  some (Y.1,(D.1.1,D.1.2.1,D.1.2.2),J.2.1,J.2.2)))
def fw (N:Nat):Nat→(List Int)→Int→Int→Option (Int × Int)
 | 0,_,_,_=>none
 | k+1,J,U,D =>
  (bif decide (D<(J.length:Int)) then
  (bif decide (D<4000) then
  (ml U 131).bind fun Y =>
  (ix J D).bind fun Z =>
  (ad Y (IntKind.i64.wrap Z)).bind fun yi =>
  (ad yi 7).bind fun yj =>
  (ad D 1).bind fun yk =>
  fw N k J (eO yj 1073741823) yk
  else
  some (U,D))
  else
  some (U,D))
def jU (N:Nat) (a0:List Int):Option (Int × Int) :=
  (ad 10101 (a0.length:Int)).bind fun D =>
  (fw N N a0 D 0).bind fun J =>
  lpB J fun (U,Y) =>
  some (0,U)
def d8 (N:Nat) (a0:List Int):Option ((List (ByteArray × (Int × List (List Int)))) × Int × List (ByteArray × List Int) × List Int) :=
  (jU N a0).bind fun J =>
  (i8 N a0 J.1 J.2).bind fun D =>
  some (D.1,(D.2.1.1,D.2.1.2.1,D.2.1.2.2))
def dh (N:Nat) (a0:Int) (a1:Int) (a2:Int):Option Bool :=
  (bif decide (a1≤a0) then
  some (decide (a0≤a2))
  else
  some false)
def gi (N:Nat):Nat→Int→(List Int)→Int→Int→Option (Sum Int Int)
 | 0,_,_,_,_=>none
 | k+1,J,U,Y,D =>
  (bif decide (D<Y) then
  (ix U D).bind fun Z =>
  (bif (Z == J) then
  some (.inl D)
  else
  (ad D 1).bind fun yi =>
  gi N k J U Y yi)
  else
  some (.inr D))
def fc (N:Nat) (a0:List Int) (a1:Int):Option Int :=
  (gi N N a1 a0 (a0.length:Int) 0).bind fun D =>
  lpS D (fun q=>some q) fun J =>
  some (-1)
def hO (N:Nat) (a0:List Int) (a1:Int):Option Bool :=
  (fc N a0 a1).bind fun D =>
  some (decide (0≤D))
end Go.Proofs.Ytnipkopfefkojaa
namespace Go.Proofs.Ytnipkopfefkojaa
open Go.RowKit
def dR (N:Nat):Nat→(List Int)→Int→(List Int)→Int→Int→Option (Sum Bool Int)
 | 0,_,_,_,_,_=>none
 | k+1,J,U,Y,Z,D =>
  (bif decide (D<Z) then
  (ix Y D).bind fun yi =>
  (sb U 1).bind fun yj =>
  (dh N yi 0 yj).bind fun yk =>
  (bif yk then
  (slc J 0 D).bind fun yl =>
  (hO N yl yi).bind fun ym =>
  (bif ym then
  some (.inl false)
  else
  (ad D 1).bind fun yn =>
  dR N k J U Y Z yn)
  else
  some (.inl false))
  else
  some (.inr D))
def iB (N:Nat) (a0:List Int) (a1:Int):Option Bool :=
  (dR N N a0 a1 a0 (a0.length:Int) 0).bind fun D =>
  lpS D (fun q=>some q) fun J =>
  some true
def eE (N:Nat):Nat→ByteArray→Int→Option (Sum Bool Int)
 | 0,_,_=>none
 | k+1,J,D =>
  (bif decide (D<(J.size:Int)) then
  (bx J D).bind fun U =>
  (bif decide (U<97) then
  some (.inl false)
  else
  (bx J D).bind fun Y =>
  (bif decide (122<Y) then
  some (.inl false)
  else
  (ad D 1).bind fun Z =>
  eE N k J Z))
  else
  some (.inr D))
def iN (N:Nat) (a0:ByteArray) (a1:Int):Option Bool :=
  (bif decide ((a0.size:Int)<1) then
  some false
  else
  (bif decide (a1<(a0.size:Int)) then
  some false
  else
  (eE N N a0 0).bind fun D =>
  lpS D (fun q=>some q) fun J =>
  some true))
def eU (N:Nat) (a0:ByteArray):Option Bool :=
  (iN N a0 4).bind fun D =>
  some D
def cg (N:Nat):Nat→Int→(List Bool)→(List (ByteArray × List Int))→Int→Int→(List Int)→Int→Int→Option (Sum Bool ((List Bool) × Int))
 | 0,_,_,_,_,_,_,_,_=>none
 | k+1,Y,J,yj,yk,yl,Z,yi,D =>
  (bif decide (D<yi) then
  (ix Z D).bind fun U =>
  (sb Y 1).bind fun ym =>
  (dh N U 0 ym).bind fun yn =>
  (bif yn then
  (ix J U).bind fun yq =>
  (sto J U true).bind fun yo =>
  (ad D 1).bind fun yp =>
  cg N k Y yo yj yk yl Z yi yp
  else
  some (.inl false))
  else
  some (.inr (J,D)))
def cc (N:Nat):Nat→Int→(List Bool)→(List (ByteArray × List Int))→Int→Int→Option (Sum Bool ((List Bool) × Int))
 | 0,_,_,_,_,_=>none
 | k+1,Z,yi,U,Y,D =>
  (bif decide (D<Y) then
  (ix U D).bind fun J =>
  (eU N J.1).bind fun yj =>
  (bif yj then
  (dh N (J.2.length:Int) 1 5).bind fun yk =>
  (bif yk then
  (cg N N Z yi U Y D J.2 (J.2.length:Int) 0).bind fun yl =>
  lpS yl (fun q=>some (.inl q)) fun (ym,yo) =>
  (ad D 1).bind fun yn =>
  cc N k Z ym U Y yn
  else
  some (.inl false))
  else
  some (.inl false))
  else
  some (.inr (yi,D)))
def cx (N:Nat):Nat→(List Bool)→Int→Int→Option (Sum Bool Int)
 | 0,_,_,_=>none
 | k+1,J,U,D =>
  (bif decide (D<U) then
  (ix J D).bind fun Y =>
  (bif Y then
  (ad D 1).bind fun Z =>
  cx N k J U Z
  else
  some (.inl false))
  else
  some (.inr D))
def fE (N:Nat) (a0:Int) (a1:List (ByteArray × List Int)) (a2:List Int):Option Bool :=
  (dh N a0 1 5).bind fun J =>
  (bif J then
  (dh N (a1.length:Int) 1 4).bind fun U =>
  (bif U then
  (iB N a2 a0).bind fun Y =>
  (bif Y then
  (mk 1 (false:Bool) a0).bind fun Z =>
  (cc N N a0 Z a1 (a1.length:Int) 0).bind fun yi =>
  lpS yi (fun q=>some q) fun (D,yk) =>
  (cx N N D (D.length:Int) 0).bind fun yj =>
  lpS yj (fun q=>some q) fun yl =>
  some true
  else
  some false)
  else
  some false)
  else
  some false)
def d5 (N:Nat) (a0:Int) (a1:Int):Option Int :=
  (bif decide (a0<a1) then
  some (-1)
  else
  (bif decide (a1<a0) then
  some 1
  else
  some 0))
def eM (N:Nat):Nat→(List Int)→(List Int)→Int→Option (Sum Int Int)
 | 0,_,_,_=>none
 | k+1,J,U,D =>
  (bif decide (D<(J.length:Int)) then
  (bif decide (D<(U.length:Int)) then
  (ix J D).bind fun Y =>
  (ix U D).bind fun Z =>
  (bif (Y != Z) then
  (ix J D).bind fun yi =>
  (ix U D).bind fun yj =>
  (d5 N yi yj).bind fun yk =>
  some (.inl yk)
  else
  (ad D 1).bind fun yl =>
  eM N k J U yl)
  else
  some (.inr D))
  else
  some (.inr D))
def d6 (N:Nat) (a0:List Int) (a1:List Int):Option Int :=
  (eM N N a0 a1 0).bind fun D =>
  lpS D (fun q=>some q) fun U =>
  (d5 N (a0.length:Int) (a1.length:Int)).bind fun J =>
  some J
def cI (N:Nat):Nat→(List Int)→Int→Int→Option (Sum Bool Int)
 | 0,_,_,_=>none
 | k+1,J,U,D =>
  (bif decide (D<U) then
  (ix J D).bind fun Y =>
  (dh N Y 0 99).bind fun Z =>
  (bif Z then
  (ad D 1).bind fun yi =>
  cI N k J U yi
  else
  some (.inl false))
  else
  some (.inr D))
def dU (N:Nat) (a0:List Int):Option Bool :=
  (cI N N a0 (a0.length:Int) 0).bind fun D =>
  lpS D (fun q=>some q) fun J =>
  some true
def c4 (N:Nat):Nat→Int→(List (List Int))→(List (List Int))→Int→Int→Option (Sum Bool Int)
 | 0,_,_,_,_,_=>none
 | k+1,J,U,Y,Z,D =>
  (bif decide (D<Z) then
  (ix Y D).bind fun yi =>
  (bif ((yi.length:Int) != J) then
  some (.inl false)
  else
  (dU N yi).bind fun yj =>
  (bif yj then
  (bif decide (0<D) then
  (sb D 1).bind fun yk =>
  (ix U yk).bind fun yl =>
  (d6 N yl yi).bind fun ym =>
  (bif decide (0≤ym) then
  some (.inl false)
  else
  (ad D 1).bind fun yn =>
  c4 N k J U Y Z yn)
  else
  (ad D 1).bind fun yo =>
  c4 N k J U Y Z yo)
  else
  some (.inl false)))
  else
  some (.inr D))
def gB (N:Nat) (a0:Int) (a1:List (List Int)):Option Bool :=
  (dh N a0 0 5).bind fun D =>
  (bif D then
  (bif decide (4000<(a1.length:Int)) then
  some false
  else
  (c4 N N a0 a1 a1 (a1.length:Int) 0).bind fun J =>
  lpS J (fun q=>some q) fun U =>
  some true)
  else
  some false)
def cu (N:Nat) (a0:Int) (a1:List (List Int)):Option Bool :=
  (gB N a0 a1).bind fun D =>
  some D
def bN (N:Nat):Nat→(List (ByteArray × (Int × List (List Int))))→(List (ByteArray × (Int × List (List Int))))→Int→Int→Option (Sum Bool Int)
 | 0,_,_,_,_=>none
 | k+1,U,Y,Z,J =>
  (bif decide (J<Z) then
  (ix Y J).bind fun D =>
  (eU N D.1).bind fun yi =>
  (bif yi then
  (bif decide (0<J) then
  (sb J 1).bind fun yj =>
  (ix U yj).bind fun yk =>
  (bif (ltS yk.1 D.1) then
  (cu N D.2.1 D.2.2).bind fun yl =>
  (bif yl then
  (bif decide (D.2.1<1) then
  some (.inl false)
  else
  (bif decide (16<(D.2.2.length:Int)) then
  some (.inl false)
  else
  (ad J 1).bind fun ym =>
  bN N k U Y Z ym))
  else
  some (.inl false))
  else
  some (.inl false))
  else
  (cu N D.2.1 D.2.2).bind fun yn =>
  (bif yn then
  (bif decide (D.2.1<1) then
  some (.inl false)
  else
  (bif decide (16<(D.2.2.length:Int)) then
  some (.inl false)
  else
  (ad J 1).bind fun yo =>
  bN N k U Y Z yo))
  else
  some (.inl false)))
  else
  some (.inl false))
  else
  some (.inr J))
def dK (N:Nat) (a0:List (ByteArray × (Int × List (List Int)))):Option Bool :=
  (bif decide (6<(a0.length:Int)) then
  some false
  else
  (bN N N a0 a0 (a0.length:Int) 0).bind fun D =>
  lpS D (fun q=>some q) fun J =>
  some true)
def dC (N:Nat) (a0:List Int):Option (List Int) :=
  (apd 8 [] a0).bind fun D =>
  some D
def de (N:Nat):Nat→(List (List Int))→(List (List Int))→Int→Int→Option ((List (List Int)) × Int)
 | 0,_,_,_,_=>none
 | k+1,J,U,Y,D =>
  (bif decide (D<Y) then
  (ix U D).bind fun Z =>
  (dC N Z).bind fun yi =>
  (apd 24 J [yi]).bind fun yj =>
  (ad D 1).bind fun yk =>
  de N k yj U Y yk
  else
  some (J,D))
def f8 (N:Nat) (a0:List (List Int)):Option (List (List Int)) :=
  (de N N [] a0 (a0.length:Int) 0).bind fun D =>
  lpB D fun (J,U) =>
  some J
end Go.Proofs.Ytnipkopfefkojaa
namespace Go.Proofs.Ytnipkopfefkojaa
open Go.RowKit
def fz (N:Nat) (a0:Int) (a1:List (List Int)):Option (Int × List (List Int)) :=
  (f8 N a1).bind fun D =>
  some (a0,D)
def cj (N:Nat):Nat→ByteArray→Int→(List (List Int))→(List (ByteArray × (Int × List (List Int))))→Int→Int→Option (Sum ((Int × List (List Int)) × Bool) Int)
 | 0,_,_,_,_,_,_=>none
 | k+1,U,yj,yk,Y,Z,D =>
  (bif decide (D<Z) then
  (ix Y D).bind fun J =>
  (bif (eqS J.1 U) then
  (fz N J.2.1 J.2.2).bind fun yi =>
  some (.inl ((yi.1,yi.2),true))
  else
  (ad D 1).bind fun yl =>
  cj N k U yj yk Y Z yl)
  else
  some (.inr D))
def dX (N:Nat) (a0:List (ByteArray × (Int × List (List Int)))) (a1:ByteArray):Option ((Int × List (List Int)) × Bool) :=
  (dK N a0).bind fun D =>
  (bif D then
  (cj N N a1 0 [] a0 (a0.length:Int) 0).bind fun J =>
  lpS J (fun q=>some q) fun U =>
  some ((0,[]),false)
  else
  some ((0,[]),false))
def cX (N:Nat):Nat→(List (ByteArray × (Int × List (List Int))))→(List (ByteArray × List Int))→Int→Int→Option (Sum Bool Int)
 | 0,_,_,_,_=>none
 | k+1,J,U,Y,D =>
  (bif decide (D<Y) then
  (ix U D).bind fun Z =>
  (dX N J Z.1).bind fun yi =>
  (bif yi.2 then
  (bif (yi.1.1 != (Z.2.length:Int)) then
  some (.inl false)
  else
  (ad D 1).bind fun yj =>
  cX N k J U Y yj)
  else
  some (.inl false))
  else
  some (.inr D))
def gj (N:Nat) (a0:List (ByteArray × (Int × List (List Int)))) (a1:Int) (a2:List (ByteArray × List Int)) (a3:List Int):Option Bool :=
  (fE N a1 a2 a3).bind fun D =>
  (bif D then
  (dK N a0).bind fun J =>
  (bif J then
  (cX N N a0 a2 (a2.length:Int) 0).bind fun U =>
  lpS U (fun q=>some q) fun Y =>
  some true
  else
  some false)
  else
  some false)
def ea (N:Nat) (a0:ByteArray) (a1:List Int) (a2:Int):Option Bool :=
  (hO N a1 a2).bind fun D =>
  some D
def bY (N:Nat):Nat→ByteArray→(List Int)→(List Int)→Int→Option ((List Int) × Int)
 | 0,_,_,_,_=>none
 | k+1,J,U,Y,D =>
  (bif decide (D<5) then
  (ea N J U D).bind fun Z =>
  (bif Z then
  (apd 8 Y [D]).bind fun yi =>
  (ad D 1).bind fun yj =>
  bY N k J U yi yj
  else
  (ad D 1).bind fun yk =>
  bY N k J U Y yk)
  else
  some (Y,D))
def d7 (N:Nat) (a0:ByteArray) (a1:List Int):Option (List Int) :=
  (bY N N a0 a1 [] 0).bind fun D =>
  lpB D fun (J,U) =>
  some J
def aV (rec:(List (List Int))→Option (List (List Int))) (N:Nat):Nat→(List (List Int))→(List (List Int))→(List (List Int))→Option ((List (List Int)) × (List (List Int)) × (List (List Int)))
 | 0,_,_,_=>none
 | k+1,J,D,U =>
  (bif decide (0<(J.length:Int)) then
  (bif ((J.length:Int) == 0) then
  (bif decide ((1:Int)≤0) then
  (ix J 0).bind fun yt =>
  (apd 24 U [yt]).bind fun yi =>
  (slc J 1 (J.length:Int)).bind fun yj =>
  (bif decide (0≤(1:Int)) then
  (bif decide (0<(1:Int)) then
  (ix D 0).bind fun yu =>
  (apd 24 yi [yu]).bind fun yw =>
  (slc D 1 (D.length:Int)).bind fun yx =>
  aV rec N k yj yx yw
  else
  (slc D 1 (D.length:Int)).bind fun yy =>
  aV rec N k yj yy yi)
  else
  aV rec N k yj D yi)
  else
  (bif decide (0≤(1:Int)) then
  (bif decide (0<(1:Int)) then
  (ix D 0).bind fun yz =>
  (apd 24 U [yz]).bind fun yA =>
  (slc D 1 (D.length:Int)).bind fun yB =>
  aV rec N k J yB yA
  else
  (slc D 1 (D.length:Int)).bind fun yC =>
  aV rec N k J yC U)
  else
  aV rec N k J D U))
  else
  (bif decide (0<(D.length:Int)) then
  (ix J 0).bind fun yD =>
  (ix D 0).bind fun yE =>
  (d6 N yD yE).bind fun Y =>
  (bif decide (Y≤0) then
  (ix J 0).bind fun yF =>
  (apd 24 U [yF]).bind fun yk =>
  (slc J 1 (J.length:Int)).bind fun yl =>
  (bif decide (0≤Y) then
  (bif decide (0<Y) then
  (ix D 0).bind fun yG =>
  (apd 24 yk [yG]).bind fun yH =>
  (slc D 1 (D.length:Int)).bind fun yI =>
  aV rec N k yl yI yH
  else
  (slc D 1 (D.length:Int)).bind fun yJ =>
  aV rec N k yl yJ yk)
  else
  aV rec N k yl D yk)
  else
  (bif decide (0≤Y) then
  (bif decide (0<Y) then
  (ix D 0).bind fun yK =>
  (apd 24 U [yK]).bind fun yL =>
  (slc D 1 (D.length:Int)).bind fun yM =>
  aV rec N k J yM yL
  else
  (slc D 1 (D.length:Int)).bind fun yN =>
  aV rec N k J yN U)
  else
  aV rec N k J D U))
  else
  (bif decide (((-1):Int)≤0) then
  (ix J 0).bind fun yO =>
  (apd 24 U [yO]).bind fun ym =>
  (slc J 1 (J.length:Int)).bind fun yn =>
  (bif decide (0≤((-1):Int)) then
  (bif decide (0<((-1):Int)) then
  (ix D 0).bind fun yP =>
  (apd 24 ym [yP]).bind fun yQ =>
  (slc D 1 (D.length:Int)).bind fun yR =>
  aV rec N k yn yR yQ
  else
  (slc D 1 (D.length:Int)).bind fun yS =>
  aV rec N k yn yS ym)
  else
  aV rec N k yn D ym)
  else
  (bif decide (0≤((-1):Int)) then
  (bif decide (0<((-1):Int)) then
  (ix D 0).bind fun yT =>
  (apd 24 U [yT]).bind fun yU =>
  (slc D 1 (D.length:Int)).bind fun yV =>
  aV rec N k J yV yU
  else
  (slc D 1 (D.length:Int)).bind fun yW =>
  aV rec N k J yW U)
  else
  aV rec N k J D U))))
  else
  (bif decide (0<(D.length:Int)) then
  (bif ((J.length:Int) == 0) then
  (bif decide ((1:Int)≤0) then
  (ix J 0).bind fun yX =>
  (apd 24 U [yX]).bind fun yo =>
  (slc J 1 (J.length:Int)).bind fun yp =>
  (bif decide (0≤(1:Int)) then
  (bif decide (0<(1:Int)) then
  (ix D 0).bind fun yY =>
  (apd 24 yo [yY]).bind fun yZ =>
  (slc D 1 (D.length:Int)).bind fun y1 =>
  aV rec N k yp y1 yZ
  else
  (slc D 1 (D.length:Int)).bind fun y2 =>
  aV rec N k yp y2 yo)
  else
  aV rec N k yp D yo)
  else
  (bif decide (0≤(1:Int)) then
  (bif decide (0<(1:Int)) then
  (ix D 0).bind fun y3 =>
  (apd 24 U [y3]).bind fun y4 =>
  (slc D 1 (D.length:Int)).bind fun y5 =>
  aV rec N k J y5 y4
  else
  (slc D 1 (D.length:Int)).bind fun y6 =>
  aV rec N k J y6 U)
  else
  aV rec N k J D U))
  else
  (ix J 0).bind fun y7 =>
  (ix D 0).bind fun y8 =>
  (d6 N y7 y8).bind fun Z =>
  (bif decide (Z≤0) then
  (ix J 0).bind fun y9 =>
  (apd 24 U [y9]).bind fun yq =>
  (slc J 1 (J.length:Int)).bind fun yr =>
  (bif decide (0≤Z) then
  (bif decide (0<Z) then
  (ix D 0).bind fun za =>
  (apd 24 yq [za]).bind fun zb =>
  (slc D 1 (D.length:Int)).bind fun zc =>
  aV rec N k yr zc zb
  else
  (slc D 1 (D.length:Int)).bind fun zd =>
  aV rec N k yr zd yq)
  else
  aV rec N k yr D yq)
  else
  (bif decide (0≤Z) then
  (bif decide (0<Z) then
  (ix D 0).bind fun ze =>
  (apd 24 U [ze]).bind fun zf =>
  (slc D 1 (D.length:Int)).bind fun zg =>
  aV rec N k J zg zf
  else
  (slc D 1 (D.length:Int)).bind fun zh =>
  aV rec N k J zh U)
  else
  aV rec N k J D U)))
  else
  some (J,D,U)))
def c8:Nat→(List (List Int))→Option (List (List Int))
 | 0,_=>none
 | N+1,a0 =>
  (bif decide ((a0.length:Int)<2) then
  (f8 N a0).bind fun Y =>
  some Y
  else
  (qt (a0.length:Int) 2).bind fun D =>
  (slc a0 0 D).bind fun Z =>
  (slc a0 D (a0.length:Int)).bind fun yi =>
  (c8 N Z).bind fun yj =>
  (c8 N yi).bind fun yk =>
  (aV (c8 N) N N yj yk []).bind fun J =>
  lpB J fun (yl,ym,U) =>
  some U)
def da (N:Nat):Nat→Int→(List Int)→Int→Int→Option (Sum Bool Int)
 | 0,_,_,_,_=>none
 | k+1,J,U,Y,D =>
  (bif decide (D<Y) then
  (ix U D).bind fun Z =>
  (sb J 1).bind fun yi =>
  (dh N Z 0 yi).bind fun yj =>
  (bif yj then
  (ad D 1).bind fun yk =>
  da N k J U Y yk
  else
  some (.inl false))
  else
  some (.inr D))
def fv (N:Nat) (a0:Int) (a1:List Int):Option Bool :=
  (bif decide (5<(a1.length:Int)) then
  some false
  else
  (da N N a0 a1 (a1.length:Int) 0).bind fun D =>
  lpS D (fun q=>some q) fun J =>
  some true)
def eC (N:Nat):Nat→(List Int)→(List Int)→(List Int)→Int→Int→Option ((List Int) × Int)
 | 0,_,_,_,_,_=>none
 | k+1,J,U,Y,Z,D =>
  (bif decide (D<Z) then
  (ix Y D).bind fun yi =>
  (ix J yi).bind fun yj =>
  (apd 8 U [yj]).bind fun yk =>
  (ad D 1).bind fun yl =>
  eC N k J yk Y Z yl
  else
  some (U,D))
def jo (N:Nat) (a0:List Int) (a1:List Int):Option (List Int) :=
  (eC N N a0 [] a1 (a1.length:Int) 0).bind fun D =>
  lpB D fun (J,U) =>
  some J
def bG (N:Nat):Nat→ByteArray→(List Int)→Int→(List (List Int))→(List Int)→Int→(List (List Int))→(List (List Int))→(List Int)→(List Int)→Bool→(List (List Int))→Int→Int→(List Int)→Int→Int→Option ((List Int) × Bool × Int)
 | 0,_,_,_,_,_,_,_,_,_,_,_,_,_,_,_,_,_=>none
 | k+1,yk,Z,yl,ym,yn,yo,yp,yq,J,U,yr,yt,yu,yw,yi,yj,D =>
  (bif decide (D<yj) then
  (ix yi D).bind fun Y =>
  (fc N Z Y).bind fun yx =>
  (bif yr then
  (ix J yx).bind fun yy =>
  (ix J D).bind fun yz =>
  (ix J D).bind fun yA =>
  (ix U Y).bind fun yG =>
  (sto U Y yA).bind fun yB =>
  (ad D 1).bind fun yC =>
  bG N k yk Z yl ym yn yo yp yq J yB (yy == yz) yt yu yw yi yj yC
  else
  (ix J D).bind fun yD =>
  (ix U Y).bind fun yH =>
  (sto U Y yD).bind fun yE =>
  (ad D 1).bind fun yF =>
  bG N k yk Z yl ym yn yo yp yq J yE false yt yu yw yi yj yF)
  else
  some (U,yr,D))
def ci (N:Nat):Nat→ByteArray→(List Int)→Int→(List (List Int))→(List Int)→Int→(List (List Int))→(List (List Int))→(List (List Int))→Int→Int→Option ((List (List Int)) × Int)
 | 0,_,_,_,_,_,_,_,_,_,_,_=>none
 | k+1,yj,J,yk,yl,U,ym,yn,Y,Z,yi,D =>
  (bif decide (D<yi) then
  (ix Z D).bind fun yo =>
  (mk 8 (0:Int) 5).bind fun yp =>
  (bG N N yj J yk yl U ym yn Y yo yp true Z yi D J (J.length:Int) 0).bind fun yq =>
  lpB yq fun (yr,yt,yz) =>
  (bif yt then
  (jo N yr U).bind fun yu =>
  (apd 24 Y [yu]).bind fun yw =>
  (ad D 1).bind fun yx =>
  ci N k yj J yk yl U ym yn yw Z yi yx
  else
  (ad D 1).bind fun yy =>
  ci N k yj J yk yl U ym yn Y Z yi yy)
  else
  some (Y,D))
def fG (N:Nat) (a0:List (ByteArray × (Int × List (List Int)))) (a1:ByteArray) (a2:List Int):Option (Int × List (List Int)) :=
  (d7 N a1 a2).bind fun D =>
  (dX N a0 a1).bind fun J =>
  (bif J.2 then
  (bif (J.1.1 != (a2.length:Int)) then
  some ((D.length:Int),[])
  else
  (fv N 5 a2).bind fun U =>
  (bif U then
  (ci N N a1 a2 0 [] D (D.length:Int) [] [] J.1.2 (J.1.2.length:Int) 0).bind fun Y =>
  lpB Y fun (Z,yj) =>
  (c8 N Z).bind fun yi =>
  some ((D.length:Int),yi)
  else
  some ((D.length:Int),[])))
  else
  some ((D.length:Int),[]))
def eF (N:Nat) (a0:List (ByteArray × (Int × List (List Int)))) (a1:ByteArray) (a2:List Int):Option (List Int × (Int × List (List Int))) :=
  (d7 N a1 a2).bind fun J =>
  (fG N a0 a1 a2).bind fun D =>
  some (J,(D.1,D.2))
def bE (N:Nat):Nat→(List Int)→Int→(List (List Int))→(List Int)→Int→Int→Option (Sum Bool Int)
 | 0,_,_,_,_,_,_=>none
 | k+1,J,Z,yi,U,Y,D =>
  (bif decide (D<Y) then
  (ix U D).bind fun yj =>
  (dh N yj 0 4).bind fun yk =>
  (bif yk then
  (bif decide (0<D) then
  (sb D 1).bind fun yl =>
  (ix J yl).bind fun ym =>
  (bif decide (yj≤ym) then
  some (.inl false)
  else
  (ad D 1).bind fun yn =>
  bE N k J Z yi U Y yn)
  else
  (ad D 1).bind fun yo =>
  bE N k J Z yi U Y yo)
  else
  some (.inl false))
  else
  some (.inr D))
def dc (N:Nat) (a0:List Int) (a1:Int) (a2:List (List Int)):Option Bool :=
  (bE N N a0 a1 a2 a0 (a0.length:Int) 0).bind fun D =>
  lpS D (fun q=>some q) fun U =>
  (cu N a1 a2).bind fun J =>
  (bif J then
  some (a1 == (a0.length:Int))
  else
  some false)
def d4 (N:Nat):Nat→(List Int)→Int→Int→(List Int)→Int→Int→Option Int
 | 0,_,_,_,_,_,_=>none
 | k+1,J,U,D,Y,Z,yi =>
  (bif decide (D<(J.length:Int)) then
  (ix J D).bind fun yj =>
  (bif decide (yj<U) then
  (ad D 1).bind fun yk =>
  d4 N k J U yk Y Z yi
  else
  some D)
  else
  some D)
def cN (N:Nat):Nat→(List Int)→(List Int)→Int→Int→Option ((List Int) × Int)
 | 0,_,_,_,_=>none
 | k+1,D,Y,Z,J =>
  (bif decide (J<Z) then
  (ix Y J).bind fun yi =>
  (d4 N N D yi 0 Y Z J).bind fun yj =>
  lpB yj fun U =>
  (bif (U == (D.length:Int)) then
  (slc D 0 U).bind fun yk =>
  (slc D U (D.length:Int)).bind fun yl =>
  (dC N yk).bind fun ym =>
  (apd 8 ym [yi]).bind fun yn =>
  (apd 8 yn yl).bind fun yo =>
  (ad J 1).bind fun yp =>
  cN N k yo Y Z yp
  else
  (ix D U).bind fun yq =>
  (bif (yq != yi) then
  (slc D 0 U).bind fun yr =>
  (slc D U (D.length:Int)).bind fun yt =>
  (dC N yr).bind fun yu =>
  (apd 8 yu [yi]).bind fun yw =>
  (apd 8 yw yt).bind fun yx =>
  (ad J 1).bind fun yy =>
  cN N k yx Y Z yy
  else
  (ad J 1).bind fun yz =>
  cN N k D Y Z yz))
  else
  some (D,J))
def jS (N:Nat) (a0:List Int) (a1:List Int):Option (List Int) :=
  (dC N a0).bind fun D =>
  (cN N N D a1 (a1.length:Int) 0).bind fun J =>
  lpB J fun (U,Y) =>
  some U
end Go.Proofs.Ytnipkopfefkojaa
namespace Go.Proofs.Ytnipkopfefkojaa
open Go.RowKit
def df (N:Nat):Nat→(List Int)→(List Int)→(List Int)→(List Int)→(List Int)→(List Int)→Int→Int→Option (Sum ((List Int) × Bool) ((List Int) × Int))
 | 0,_,_,_,_,_,_,_,_=>none
 | k+1,Y,D,Z,U,yi,yj,yk,J =>
  (bif decide (J<yk) then
  (ix yj J).bind fun yn =>
  (fc N Y yn).bind fun yl =>
  (fc N Z yn).bind fun ym =>
  (bif decide (0≤yl) then
  (bif decide (0≤ym) then
  (ix D yl).bind fun yo =>
  (ix U ym).bind fun yp =>
  (bif (yo != yp) then
  some (.inl ([],false))
  else
  (ix D yl).bind fun yq =>
  (apd 8 yi [yq]).bind fun yr =>
  (ad J 1).bind fun yt =>
  df N k Y D Z U yr yj yk yt)
  else
  (ix D yl).bind fun yu =>
  (apd 8 yi [yu]).bind fun yw =>
  (ad J 1).bind fun yx =>
  df N k Y D Z U yw yj yk yx)
  else
  (ix U ym).bind fun yy =>
  (apd 8 yi [yy]).bind fun yz =>
  (ad J 1).bind fun yA =>
  df N k Y D Z U yz yj yk yA)
  else
  some (.inr (yi,J)))
def ku (N:Nat) (a0:List Int) (a1:List Int) (a2:List Int) (a3:List Int) (a4:List Int):Option ((List Int) × Bool) :=
  (df N N a1 a2 a3 a4 [] a0 (a0.length:Int) 0).bind fun D =>
  lpS D (fun q=>some q) fun (J,U) =>
  some (J,true)
def bQ (N:Nat):Nat→(List Int)→Int→(List (List Int))→(List Int)→Int→(List (List Int))→(List Int)→Int→(List (List Int))→(List Int)→(List (List Int))→(List Int)→(List (List Int))→Int→Int→(List (List Int))→Int→Int→Option ((List (List Int)) × Int)
 | 0,_,_,_,_,_,_,_,_,_,_,_,_,_,_,_,_,_,_=>none
 | k+1,J,yl,ym,U,yn,yo,yp,yq,yr,Y,Z,yi,yt,yu,yw,yj,yk,D =>
  (bif decide (D<yk) then
  (ix yj D).bind fun yy =>
  (ku N Y J yi U yy).bind fun yx =>
  (bif yx.2 then
  (apd 24 Z [yx.1]).bind fun yz =>
  (ad D 1).bind fun yA =>
  bQ N k J yl ym U yn yo yp yq yr Y yz yi yt yu yw yj yk yA
  else
  (ad D 1).bind fun yB =>
  bQ N k J yl ym U yn yo yp yq yr Y Z yi yt yu yw yj yk yB)
  else
  some (Z,D))
def cP (N:Nat):Nat→(List Int)→Int→(List (List Int))→(List Int)→Int→(List (List Int))→(List Int)→Int→(List (List Int))→(List Int)→(List (List Int))→(List (List Int))→Int→Int→Option (Sum ((List Int × (Int × List (List Int))) × Bool) ((List (List Int)) × Int))
 | 0,_,_,_,_,_,_,_,_,_,_,_,_,_,_=>none
 | k+1,Z,yi,yj,yk,yl,J,ym,yn,yo,yp,yq,U,Y,D =>
  (bif decide (D<Y) then
  (ix U D).bind fun yt =>
  (bQ N N Z yi yj yk yl J ym yn yo yp yq yt U Y D J (J.length:Int) 0).bind fun yu =>
  lpB yu fun (yr,yx) =>
  (bif decide (4000<(yr.length:Int)) then
  some (.inl (([],(0,[])),false))
  else
  (ad D 1).bind fun yw =>
  cP N k Z yi yj yk yl J ym yn yo yp yr U Y yw)
  else
  some (.inr (yq,D)))
def fV (N:Nat) (a0:List Int) (a1:Int) (a2:List (List Int)) (a3:List Int) (a4:Int) (a5:List (List Int)):Option ((List Int × (Int × List (List Int))) × Bool) :=
  (dc N a0 a1 a2).bind fun J =>
  (bif J then
  (dc N a3 a4 a5).bind fun U =>
  (bif U then
  (jS N a0 a3).bind fun D =>
  (cP N N a0 a1 a2 a3 a4 a5 [] 0 [] D [] a2 (a2.length:Int) 0).bind fun Y =>
  lpS Y (fun q=>some q) fun (Z,yj) =>
  (c8 N Z).bind fun yi =>
  some ((D,((D.length:Int),yi)),true)
  else
  some (([],(0,[])),false))
  else
  some (([],(0,[])),false))
def cO (N:Nat):Nat→Int→(List (List Int))→Int→(List (List Int))→(List (List Int))→Int→Int→Option (Sum ((Int × List (List Int)) × Bool) Int)
 | 0,_,_,_,_,_,_,_=>none
 | k+1,J,yi,yj,yk,U,Y,D =>
  (bif decide (D<Y) then
  (ix U D).bind fun Z =>
  (bif ((Z.length:Int) != J) then
  some (.inl ((0,[]),false))
  else
  (dU N Z).bind fun yl =>
  (bif yl then
  (ad D 1).bind fun ym =>
  cO N k J yi yj yk U Y ym
  else
  some (.inl ((0,[]),false))))
  else
  some (.inr D))
def eT (N:Nat) (a0:Int) (a1:List (List Int)):Option ((Int × List (List Int)) × Bool) :=
  (cO N N a0 a1 0 [] a1 (a1.length:Int) 0).bind fun J =>
  lpS J (fun q=>some q) fun Y =>
  (c8 N a1).bind fun D =>
  (cu N a0 D).bind fun U =>
  (bif U then
  some ((a0,D),true)
  else
  some ((0,[]),false))
def dm (N:Nat):Nat→(List Int)→Int→(List (List Int))→(List (List Int))→(List (List Int))→Int→Int→Option ((List (List Int)) × Int)
 | 0,_,_,_,_,_,_,_=>none
 | k+1,J,yi,yj,U,Y,Z,D =>
  (bif decide (D<Z) then
  (ix Y D).bind fun yk =>
  (jo N yk J).bind fun yl =>
  (apd 24 U [yl]).bind fun ym =>
  (ad D 1).bind fun yn =>
  dm N k J yi yj ym Y Z yn
  else
  some (U,D))
def gD (N:Nat) (a0:Int) (a1:List (List Int)) (a2:List Int):Option ((Int × List (List Int)) × Bool) :=
  (cu N a0 a1).bind fun J =>
  (bif J then
  (fv N a0 a2).bind fun U =>
  (bif U then
  (dm N N a2 0 [] [] a1 (a1.length:Int) 0).bind fun Y =>
  lpB Y fun (Z,yi) =>
  (eT N (a2.length:Int) Z).bind fun D =>
  some ((D.1.1,D.1.2),D.2)
  else
  some ((0,[]),false))
  else
  some ((0,[]),false))
def cz (N:Nat):Nat→(List (ByteArray × (Int × List (List Int))))→Int→(List (ByteArray × List Int))→(List Int)→Int→(List (List Int))→(List Int)→Int→(List (List Int))→Int→(List (ByteArray × List Int))→Int→Int→Option (Sum ((Int × List (List Int)) × Int × Bool) ((List Int) × Int × (List (List Int)) × Int × Int))
 | 0,_,_,_,_,_,_,_,_,_,_,_,_,_=>none
 | k+1,Y,yo,yp,yq,yr,yt,Z,yi,yj,yk,yl,ym,J =>
  (bif decide (J<ym) then
  (ix yl J).bind fun yn =>
  (eF N Y yn.1 yn.2).bind fun U =>
  (fV N Z yi yj U.1 U.2.1 U.2.2).bind fun D =>
  (bif D.2 then
  (ad yk (D.1.2.2.length:Int)).bind fun yu =>
  (ad J 1).bind fun yw =>
  cz N k Y yo yp yq yr yt D.1.1 D.1.2.1 D.1.2.2 yu yl ym yw
  else
  some (.inl ((0,[]),0,false)))
  else
  some (.inr (Z,yi,yj,yk,J)))
def fA (N:Nat) (a0:List (ByteArray × (Int × List (List Int)))) (a1:Int) (a2:List (ByteArray × List Int)) (a3:List Int):Option ((Int × List (List Int)) × Int × Bool) :=
  (gj N a0 a1 a2 a3).bind fun Z =>
  (bif Z then
  (ix a2 0).bind fun U =>
  (eF N a0 U.1 U.2).bind fun D =>
  (slc a2 1 (a2.length:Int)).bind fun Y =>
  (cz N N a0 a1 a2 a3 0 [] D.1 D.2.1 D.2.2 (D.2.2.length:Int) Y (Y.length:Int) 0).bind fun yi =>
  lpS yi (fun q=>some q) fun (ym,yj,yk,yl,yn) =>
  (gD N yj yk a3).bind fun J =>
  some ((J.1.1,J.1.2),yl,J.2)
  else
  some ((0,[]),0,false))
def bO (N:Nat):Nat→(List (ByteArray × (Int × List (List Int))))→Int→Option (Sum Bool Int)
 | 0,_,_=>none
 | k+1,U,J =>
  (bif decide (J<(U.length:Int)) then
  (ix U J).bind fun D =>
  (eX N D.1).bind fun Y =>
  (bif Y then
  (bif decide (0<J) then
  (sb J 1).bind fun Z =>
  (ix U Z).bind fun yi =>
  (bif (ltS yi.1 D.1) then
  (cB N D.2.1 D.2.2).bind fun yj =>
  (bif yj then
  (bif decide (16<(D.2.2.length:Int)) then
  some (.inl false)
  else
  (bif decide (D.2.1<1) then
  some (.inl false)
  else
  (ad J 1).bind fun yk =>
  bO N k U yk))
  else
  some (.inl false))
  else
  some (.inl false))
  else
  (cB N D.2.1 D.2.2).bind fun yl =>
  (bif yl then
  (bif decide (16<(D.2.2.length:Int)) then
  some (.inl false)
  else
  (bif decide (D.2.1<1) then
  some (.inl false)
  else
  (ad J 1).bind fun ym =>
  bO N k U ym))
  else
  some (.inl false)))
  else
  some (.inl false))
  else
  some (.inr J))
def dL (N:Nat) (a0:List (ByteArray × (Int × List (List Int)))):Option Bool :=
  (bO N N a0 0).bind fun D =>
  lpS D (fun q=>some q) fun J =>
  some (decide ((a0.length:Int)≤6))
def bU (N:Nat):Nat→ByteArray→(List (ByteArray × (Int × List (List Int))))→Int→(List (List Int))→Int→Option (Sum ((Int × List (List Int)) × Bool) Int)
 | 0,_,_,_,_,_=>none
 | k+1,U,J,yi,yj,D =>
  (bif decide (D<(J.length:Int)) then
  (dL N J).bind fun yk =>
  (bif yk then
  (ix J D).bind fun yl =>
  (bif (eqS yl.1 U) then
  (ix J D).bind fun Y =>
  (hD N Y.2.1 Y.2.2).bind fun Z =>
  some (.inl ((Z.1,Z.2),true))
  else
  (ad D 1).bind fun ym =>
  bU N k U J yi yj ym)
  else
  some (.inr D))
  else
  some (.inr D))
def dk (N:Nat) (a0:List (ByteArray × (Int × List (List Int)))) (a1:ByteArray):Option ((Int × List (List Int)) × Bool) :=
  (bU N N a1 a0 0 [] 0).bind fun D =>
  lpS D (fun q=>some q) fun J =>
  some ((0,[]),false)
def cW (N:Nat):Nat→(List (ByteArray × (Int × List (List Int))))→Int→(List (ByteArray × List Int))→(List Int)→Int→Option (Sum Bool Int)
 | 0,_,_,_,_,_=>none
 | k+1,U,Z,J,yi,D =>
  (bif decide (D<(J.length:Int)) then
  (ix J D).bind fun yj =>
  (dk N U yj.1).bind fun Y =>
  (bif Y.2 then
  (ix J D).bind fun yk =>
  (bif (Y.1.1 != (yk.2.length:Int)) then
  some (.inl false)
  else
  (ad D 1).bind fun yl =>
  cW N k U Z J yi yl)
  else
  some (.inl false))
  else
  some (.inr D))
def ez (N:Nat) (a0:List (ByteArray × (Int × List (List Int)))) (a1:Int) (a2:List (ByteArray × List Int)) (a3:List Int):Option Bool :=
  (cW N N a0 a1 a2 a3 0).bind fun D =>
  lpS D (fun q=>some q) fun Y =>
  (dP N a1 a2 a3).bind fun J =>
  (bif J then
  (dL N a0).bind fun U =>
  some U
  else
  some false)
def bZ (N:Nat):Nat→ByteArray→(List Int)→(List Int)→Int→Option ((List Int) × Int)
 | 0,_,_,_,_=>none
 | k+1,J,U,Y,D =>
  (bif decide (D<5) then
  (dv N J U D).bind fun Z =>
  (bif Z then
  (apd 8 Y [D]).bind fun yi =>
  (ad D 1).bind fun yj =>
  bZ N k J U yi yj
  else
  (ad D 1).bind fun yk =>
  bZ N k J U Y yk)
  else
  some (Y,D))
def eb (N:Nat) (a0:ByteArray) (a1:List Int):Option (List Int) :=
  (bZ N N a0 a1 [] 0).bind fun D =>
  lpB D fun (J,U) =>
  some J
def cv (N:Nat):Nat→ByteArray→(List Int)→Int→(List (List Int))→(List Int)→Int→(List (List Int))→Int→(List (List Int))→(List (List Int))→Int→(List Int)→Int→Option ((List Int) × Int)
 | 0,_,_,_,_,_,_,_,_,_,_,_,_,_=>none
 | k+1,yj,U,yk,yl,J,ym,Y,yn,yo,yp,Z,yi,D =>
  (bif decide (D<(J.length:Int)) then
  (ix Y Z).bind fun yq =>
  (ix J D).bind fun yr =>
  (dD N U yr).bind fun yt =>
  (ix yq yt).bind fun yu =>
  (apd 8 yi [yu]).bind fun yw =>
  (ad D 1).bind fun yx =>
  cv N k yj U yk yl J ym Y yn yo yp Z yw yx
  else
  some (yi,D))
def bM (N:Nat):Nat→ByteArray→(List Int)→Int→(List (List Int))→(List Int)→Int→(List (List Int))→Int→(List (List Int))→(List (List Int))→Int→(List Int)→Bool→Int→Option (Bool × Int)
 | 0,_,_,_,_,_,_,_,_,_,_,_,_,_,_=>none
 | k+1,yj,J,yk,yl,U,ym,Y,yn,yo,yp,Z,yi,yq,D =>
  (bif decide (D<(J.length:Int)) then
  (ix J D).bind fun yt =>
  (dD N U yt).bind fun yr =>
  (bif yq then
  (bif decide (0≤yr) then
  (ix yi yr).bind fun yu =>
  (ix Y Z).bind fun yw =>
  (ix yw D).bind fun yx =>
  (ad D 1).bind fun yy =>
  bM N k yj J yk yl U ym Y yn yo yp Z yi (yu == yx) yy
  else
  (ad D 1).bind fun yz =>
  bM N k yj J yk yl U ym Y yn yo yp Z yi false yz)
  else
  (ad D 1).bind fun yA =>
  bM N k yj J yk yl U ym Y yn yo yp Z yi false yA)
  else
  some (yq,D))
def cd (N:Nat):Nat→ByteArray→(List Int)→Int→(List (List Int))→(List Int)→Int→(List (List Int))→Int→(List (List Int))→(List (List Int))→Int→Option ((List (List Int)) × Int)
 | 0,_,_,_,_,_,_,_,_,_,_,_=>none
 | k+1,Y,Z,yi,yj,yk,yl,J,ym,yn,U,D =>
  (bif decide (D<(J.length:Int)) then
  (cv N N Y Z yi yj yk yl J ym yn U D [] 0).bind fun yp =>
  lpB yp fun (yo,yx) =>
  (bM N N Y Z yi yj yk yl J ym yn U D yo true 0).bind fun yq =>
  lpB yq fun (yr,yy) =>
  (bif yr then
  (apd 24 U [yo]).bind fun yt =>
  (ad D 1).bind fun yu =>
  cd N k Y Z yi yj yk yl J ym yn yt yu
  else
  (ad D 1).bind fun yw =>
  cd N k Y Z yi yj yk yl J ym yn U yw)
  else
  some (U,D))
def fD (N:Nat) (a0:List (ByteArray × (Int × List (List Int)))) (a1:ByteArray) (a2:List Int):Option (Int × List (List Int)) :=
  (eb N a1 a2).bind fun D =>
  (dk N a0 a1).bind fun J =>
  (bif J.2 then
  (bif (J.1.1 != (a2.length:Int)) then
  some ((D.length:Int),[])
  else
  (cd N N a1 a2 0 [] D J.1.1 J.1.2 (D.length:Int) [] [] 0).bind fun Y =>
  lpB Y fun (Z,yi) =>
  (cq N (D.length:Int) Z).bind fun U =>
  (bif U.2 then
  some (U.1.1,U.1.2)
  else
  some ((D.length:Int),[])))
  else
  some ((D.length:Int),[]))
def eD (N:Nat) (a0:List (ByteArray × (Int × List (List Int)))) (a1:ByteArray) (a2:List Int):Option (List Int × (Int × List (List Int))) :=
  (eb N a1 a2).bind fun J =>
  (fD N a0 a1 a2).bind fun D =>
  some (J,(D.1,D.2))
def bD (N:Nat):Nat→(List Int)→Int→(List (List Int))→Int→Option (Sum Bool Int)
 | 0,_,_,_,_=>none
 | k+1,J,U,Y,D =>
  (bif decide (D<(J.length:Int)) then
  (ix J D).bind fun Z =>
  (dy N Z 0 4).bind fun yi =>
  (bif yi then
  (bif decide (0<D) then
  (ix J D).bind fun yj =>
  (sb D 1).bind fun yk =>
  (ix J yk).bind fun yl =>
  (bif decide (yj≤yl) then
  some (.inl false)
  else
  (ad D 1).bind fun ym =>
  bD N k J U Y ym)
  else
  (ad D 1).bind fun yn =>
  bD N k J U Y yn)
  else
  some (.inl false))
  else
  some (.inr D))
def db (N:Nat) (a0:List Int) (a1:Int) (a2:List (List Int)):Option Bool :=
  (bD N N a0 a1 a2 0).bind fun D =>
  lpS D (fun q=>some q) fun U =>
  (cB N a1 a2).bind fun J =>
  (bif J then
  some (a1 == (a0.length:Int))
  else
  some false)
end Go.Proofs.Ytnipkopfefkojaa
