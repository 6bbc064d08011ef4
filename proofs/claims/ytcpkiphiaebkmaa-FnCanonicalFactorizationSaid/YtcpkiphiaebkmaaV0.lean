/- A small separation logic over the model: how lists, rows and structs of Go read in memory ('Rep'), what a call owns ('Sat'), and the laws of the walk for them. Program-independent. -/
import Derived.WalkKit
import Derived.ProofKit
import Derived.WalkLawsBesides
import Derived.Outline
import Derived.Lib.Hide
import Derived.Deep.Quiet
import Derived.Deep.LoopGhost
import Derived.IntWalk
import Derived.Test.YtcpkiphiaebkmaaRows
import Derived.OpenShut
import Derived.Lib.SmallJoins
import Derived.Laws.BytesString
namespace Go.Proofs.Ytcpkiphiaebkmaa
open Go.RowKit

abbrev Ext (w w':World):Prop:=Below w.heap.size w w'

theorem Ext.refl (w:World):Ext w w:=Below.refl _ _
theorem Ext.trans {a b c:World} (h:Ext a b) (k:Ext b c):Ext a c:=Below.trans h (k.mono h.size)
theorem Below.andExt {B:Nat} {a b c:World} (h:Below B a b) (hB:B≤b.heap.size) (k:Ext b c):Below B a c:=Below.trans h (k.mono hB)

structure Chg (fp:List Nat) (w w':World):Prop where
 os:w'.os=w.os
 tape:w'.tape=w.tape
 output:w'.output=w.output
 size:w.heap.size≤w'.heap.size
 block:∀ k,k<w.heap.size→k∉fp→w'.heap[k]? = w.heap[k]?

theorem Chg.of_ext {w w':World} (h:Ext w w') (fp:List Nat):Chg fp w w':=⟨h.os,h.tape,h.output,h.size,fun k hk _=>h.block k hk⟩
theorem Chg.trans {fp:List Nat} {a b c:World} (h:Chg fp a b) (k:Chg fp b c):Chg fp a c :=
 ⟨k.os.trans h.os,k.tape.trans h.tape,k.output.trans h.output,Nat.le_trans h.size k.size,fun i hi hn=>(k.block i (Nat.lt_of_lt_of_le hi h.size) hn).trans (h.block i hi hn)⟩
theorem Chg.mono {fp fp':List Nat} {a b:World} (h:Chg fp a b) (hs:∀ x∈fp,x∈fp'):Chg fp' a b :=
 ⟨h.os,h.tape,h.output,h.size,fun k hk hn=>h.block k hk (fun hm=>hn (hs k hm))⟩
theorem Chg.ext {a b:World} (h:Chg [] a b):Ext a b:=⟨h.os,h.tape,h.output,h.size,fun k hk=>h.block k hk (by simp)⟩
theorem Chg.refl (fp:List Nat) (w:World):Chg fp w w:=⟨rfl,rfl,rfl,Nat.le_refl _,fun _ _ _=>rfl⟩
theorem Chg.alloc (w:World) (o:Obj):Chg [] w (w.alloc o):=Chg.of_ext ((Below.refl _ _).alloc (Nat.le_refl _) o) _

theorem lr {B:Nat} {a b c:World} {fp:List Nat} (h:Below B a b) (hB:B≤b.heap.size) (k:Chg fp b c) (hf:∀ x∈fp,B≤x):Below B a c :=
  ⟨k.os.trans h.os,k.tape.trans h.tape,k.output.trans h.output,Nat.le_trans h.size k.size,
   fun i hi=>(k.block i (Nat.lt_of_lt_of_le hi hB) (fun hm=>by have:=hf i hm;omega)).trans (h.block i hi)⟩

structure Rep (α:Type) where
 sz:Nat
 rd:World→List Value→α→Prop
 own:World→List Value→α→List Nat→Prop
 rd_len:∀ {w cs x},rd w cs x→cs.length=sz
 rd_one:∀ {w cs x},rd w cs x→∀ c∈cs,c.oneCell'=true
 rd_ext:∀ {w w' cs x},rd w cs x→Ext w w'→rd w' cs x
 own_rd:∀ {w cs x fp},own w cs x fp→rd w cs x
 own_ext:∀ {w w' cs x fp},own w cs x fp→(∀ b∈fp,w'.heap[b]? = w.heap[b]?)→own w' cs x fp
 own_lt:∀ {w cs x fp},own w cs x fp→∀ b∈fp,b<w.heap.size

def cK:Rep Int where
 sz:=1
 rd _ cs n:=cs=[.int .i64 n]
 own _ cs n fp:=cs=[.int .i64 n]∧fp=[]
 rd_len h:=by subst h;rfl
 rd_one h:=by subst h;simp [Value.oneCell']
 rd_ext h _:=h
 own_rd h:=h.1
 own_ext h _:=h
 own_lt h:=by rw [h.2];simp

def oa:Rep ByteArray where
 sz:=1
 rd _ cs s:=cs=[.string s]∧s.size≤9223372036854775807
 own _ cs s fp:=(cs=[.string s]∧s.size≤9223372036854775807)∧fp=[]
 rd_len h:=by rw [h.1];rfl
 rd_one h:=by rw [h.1];simp [Value.oneCell']
 rd_ext h _:=h
 own_rd h:=h.1
 own_ext h _:=h
 own_lt h:=by rw [h.2];simp

def mv {α β:Type} (R:Rep α) (S:Rep β):Rep (α × β) where
 sz:=R.sz+S.sz
 rd w cs x:=∃ c1 c2,cs=c1++c2∧R.rd w c1 x.1∧S.rd w c2 x.2
 own w cs x fp:=∃ c1 c2 f1 f2,cs=c1++c2∧fp=f1++f2∧R.own w c1 x.1 f1∧S.own w c2 x.2 f2
 rd_len h:=by obtain ⟨c1,c2,rfl,h1,h2⟩:=h;rw [List.length_append,R.rd_len h1,S.rd_len h2]
 rd_one h:=by
  obtain ⟨c1,c2,rfl,h1,h2⟩:=h
  intro c hc
  rcases List.mem_append.1 hc with h | h
  ·exact R.rd_one h1 c h
  ·exact S.rd_one h2 c h
 rd_ext h he:=by obtain ⟨c1,c2,rfl,h1,h2⟩:=h;exact ⟨c1,c2,rfl,R.rd_ext h1 he,S.rd_ext h2 he⟩
 own_rd h:=by obtain ⟨c1,c2,f1,f2,rfl,rfl,h1,h2⟩:=h;exact ⟨c1,c2,rfl,R.own_rd h1,S.own_rd h2⟩
 own_ext h he:=by
  obtain ⟨c1,c2,f1,f2,rfl,rfl,h1,h2⟩:=h
  exact ⟨c1,c2,f1,f2,rfl,rfl,R.own_ext h1 (fun b hb=>he b (List.mem_append_left _ hb)),S.own_ext h2 (fun b hb=>he b (List.mem_append_right _ hb))⟩
 own_lt h:=by
  obtain ⟨c1,c2,f1,f2,rfl,rfl,h1,h2⟩:=h
  intro b hb
  rcases List.mem_append.1 hb with h | h
  ·exact R.own_lt h1 b h
  ·exact S.own_lt h2 b h

def gQ (w:World) (ao:Option Addr) (ccs:List Value):Prop :=
 ccs=[]∨∃ b off,ao=some ⟨b,off,none⟩∧∀ j c,ccs[j]? = some c→w.cell? ⟨b,off+j,none⟩=some c

section
variable {α:Type} (R:Rep α)
def rdL (w:World):List Value→List α→Prop
 | ccs,[]=>ccs=[]
 | ccs,x :: xs=>∃ ec rest,ccs=ec++rest∧R.rd w ec x∧rdL w rest xs
def dh (w:World):List Value→List α→List Nat→Prop
 | ccs,[],fp=>ccs=[]∧fp=[]
 | ccs,x :: xs,fp=>∃ ec rest f1 f2,ccs=ec++rest∧fp=f1++f2∧R.own w ec x f1∧dh w rest xs f2
variable {R}
theorem ek {w:World}:∀ {xs:List α} {ccs:List Value},rdL R w ccs xs→ccs.length=xs.length*R.sz
 | [],_,h=>by simp only [rdL] at h;subst h;simp
 | x :: xs,_,h=>by
  obtain ⟨ec,rest,rfl,h1,h2⟩:=h
  rw [List.length_append,R.rd_len h1,ek h2,List.length_cons,Nat.add_mul,Nat.one_mul,Nat.add_comm]
theorem ki {w:World}:∀ {xs:List α} {ccs:List Value},rdL R w ccs xs→∀ c∈ccs,c.oneCell'=true
 | [],_,h=>by simp only [rdL] at h;subst h;simp
 | x :: xs,_,h=>by
  obtain ⟨ec,rest,rfl,h1,h2⟩:=h
  intro c hc
  rcases List.mem_append.1 hc with h | h
  ·exact R.rd_one h1 c h
  ·exact ki h2 c h
theorem kj {w w':World} (he:Ext w w'):∀ {xs:List α} {ccs:List Value},rdL R w ccs xs→rdL R w' ccs xs
 | [],_,h=>h
 | x :: xs,_,h=>by
  obtain ⟨ec,rest,rfl,h1,h2⟩:=h
  exact ⟨ec,rest,rfl,R.rd_ext h1 he,kj he h2⟩
theorem dI {w:World}:∀ {xs:List α} {ccs:List Value} {fp:List Nat},dh R w ccs xs fp→rdL R w ccs xs
 | [],_,_,h=>h.1
 | x :: xs,_,_,h=>by
  obtain ⟨ec,rest,f1,f2,rfl,rfl,h1,h2⟩:=h
  exact ⟨ec,rest,rfl,R.own_rd h1,dI h2⟩
theorem dM {w w':World}:∀ {xs:List α} {ccs:List Value} {fp:List Nat},dh R w ccs xs fp→(∀ b∈fp,w'.heap[b]? = w.heap[b]?)→dh R w' ccs xs fp
 | [],_,_,h,_=>h
 | x :: xs,_,_,h,he=>by
  obtain ⟨ec,rest,f1,f2,rfl,rfl,h1,h2⟩:=h
  exact ⟨ec,rest,f1,f2,rfl,rfl,R.own_ext h1 (fun b hb=>he b (List.mem_append_left _ hb)),dM h2 (fun b hb=>he b (List.mem_append_right _ hb))⟩
theorem eC {w:World}:∀ {xs:List α} {ccs:List Value} {fp:List Nat},dh R w ccs xs fp→∀ b∈fp,b<w.heap.size
 | [],_,_,h=>by rw [h.2];simp
 | x :: xs,_,_,h=>by
  obtain ⟨ec,rest,f1,f2,rfl,rfl,h1,h2⟩:=h
  intro b hb
  rcases List.mem_append.1 hb with h | h
  ·exact R.own_lt h1 b h
  ·exact eC h2 b h
theorem fD {w:World} {ys:List α} {ccs':List Value} {fp':List Nat} (h':dh R w ccs' ys fp') :
  ∀ {xs:List α} {ccs:List Value} {fp:List Nat},dh R w ccs xs fp→dh R w (ccs++ccs') (xs++ys) (fp++fp')
 | [],_,_,h=>by obtain ⟨rfl,rfl⟩:=h;simpa using h'
 | x :: xs,_,_,h=>by
  obtain ⟨ec,rest,f1,f2,rfl,rfl,h1,h2⟩:=h
  exact ⟨ec,rest++ccs',f1,f2++fp',by simp,by simp,h1,fD h' h2⟩
theorem hZ {w:World} {ys:List α} {ccs':List Value} (h':rdL R w ccs' ys) :
  ∀ {xs:List α} {ccs:List Value},rdL R w ccs xs→rdL R w (ccs++ccs') (xs++ys)
 | [],_,h=>by simp only [rdL] at h;subst h;simpa using h'
 | x :: xs,_,h=>by
  obtain ⟨ec,rest,rfl,h1,h2⟩:=h
  exact ⟨ec,rest++ccs',by simp,h1,hZ h' h2⟩
theorem iA {w:World}:∀ {xs:List α} {ccs:List Value},rdL R w ccs xs→∀ (i:Nat) (h:i<xs.length),
  ∃ ec,R.rd w ec xs[i]∧∀ j c,ec[j]? = some c→ccs[i*R.sz+j]? = some c
 | [],_,_,i,h=>absurd h (by simp)
 | x :: xs,_,hr,i,h=>by
  obtain ⟨ec,rest,rfl,h1,h2⟩:=hr
  cases i with
  | zero =>
   refine ⟨ec,h1,fun j c hj=>?_⟩
   have hlt:j<ec.length:=(List.getElem?_eq_some_iff.1 hj).1
   rw [Nat.zero_mul,Nat.zero_add,List.getElem?_append_left hlt]
   exact hj
  | succ i =>
   obtain ⟨ec',h3,h4⟩:=iA h2 i (by simpa using h)
   refine ⟨ec',by simpa using h3,fun j c hj=>?_⟩
   have e:(i+1)*R.sz+j=ec.length+(i*R.sz+j):=by rw [R.rd_len h1,Nat.add_mul];omega
   rw [e,List.getElem?_append_right (by omega),Nat.add_sub_cancel_left]
   exact h4 j c hj
theorem gA {w:World}:∀ (k:Nat) {xs:List α} {ccs:List Value},rdL R w ccs xs→rdL R w (ccs.take (k*R.sz)) (xs.take k)∧rdL R w (ccs.drop (k*R.sz)) (xs.drop k)
 | 0,xs,ccs,h=>by simp [rdL];simpa using h
 | k+1,[],ccs,h=>by simp only [rdL] at h;subst h;simp [rdL]
 | k+1,x :: xs,ccs,h=>by
  obtain ⟨ec,rest,rfl,h1,h2⟩:=h
  obtain ⟨i1,i2⟩:=gA k h2
  have e:(k+1)*R.sz=ec.length+k*R.sz:=by rw [R.rd_len h1,Nat.add_mul];omega
  constructor
  ·refine ⟨ec,rest.take (k*R.sz),?_,h1,i1⟩
   rw [e,List.take_append,List.take_of_length_le (by omega),Nat.add_sub_cancel_left]
  ·rw [e,List.drop_append,List.drop_of_length_le (by omega),Nat.add_sub_cancel_left]
   simpa using i2
end

def aj {α:Type} (R:Rep α) (E:TypeId):Rep (List α) where
 sz:=1
 rd w cs xs:=∃ ao cap ccs,cs=[.slice ao xs.length cap]∧xs.length≤cap∧cap≤maxLen∧(ao=none→cap=0)∧rdL R w ccs xs∧gQ w ao ccs
 own w cs xs fp:=(cs=[.slice none 0 0]∧xs=[]∧fp=[]) ∨
  ∃ g cap cur ccs f2,cs=[.slice (some ⟨g,0,none⟩) xs.length cap]∧w.heap[g]? = some (.cells cur E (0,0))∧xs.length≤cap∧cap≤maxLen∧cur.size=cap*R.sz ∧
   cur.toList.take (xs.length*R.sz)=ccs∧dh R w ccs xs f2∧fp=g :: f2
 rd_len h:=by obtain ⟨_,_,_,rfl,_⟩:=h;rfl
 rd_one h:=by obtain ⟨_,_,_,rfl,_⟩:=h;simp [Value.oneCell']
 rd_ext h he:=by
  obtain ⟨ao,cap,ccs,rfl,h1,h2,h3,h4,h5⟩:=h
  refine ⟨ao,cap,ccs,rfl,h1,h2,h3,kj he h4,?_⟩
  rcases h5 with h5 | ⟨b,off,rfl,h5⟩
  ·exact .inl h5
  ·exact .inr ⟨b,off,rfl,fun j c hj=>by have:=h5 j c hj;rw [he.cell (block_lt_of_cell this)];exact this⟩
 own_rd h:=by
  rcases h with ⟨rfl,rfl,rfl⟩ | ⟨g,cap,cur,ccs,f2,rfl,hg,h1,h2,h3,h4,h5,rfl⟩
  ·exact ⟨none,0,[],rfl,Nat.le_refl _,Nat.zero_le _,fun _=>rfl,rfl,.inl rfl⟩
  ·refine ⟨_,cap,ccs,rfl,h1,h2,by simp,dI h5,.inr ⟨g,0,rfl,fun j c hj=>?_⟩⟩
   rw [Nat.zero_add,cell_of_row _ g j cur E (0,0) hg,← Array.getElem?_toList]
   rw [← h4,List.getElem?_take] at hj
   split at hj
   ·exact hj
   ·cases hj
 own_ext h he:=by
  rcases h with h | ⟨g,cap,cur,ccs,f2,rfl,hg,h1,h2,h3,h4,h5,rfl⟩
  ·exact .inl h
  ·exact .inr ⟨g,cap,cur,ccs,f2,rfl,by rw [he g (by simp)];exact hg,h1,h2,h3,h4,dM h5 (fun b hb=>he b (by simp [hb])),rfl⟩
 own_lt h:=by
  rcases h with ⟨_,_,rfl⟩ | ⟨g,cap,cur,ccs,f2,rfl,hg,h1,h2,h3,h4,h5,rfl⟩
  ·simp
  ·intro b hb
   rcases List.mem_cons.1 hb with rfl | hb
   ·exact (Array.getElem?_eq_some_iff.1 hg).1
   ·exact eC h5 b hb

structure Asn where
 holds:World→List Nat→Prop
 ext:∀ {w w' fp},holds w fp→(∀ b∈fp,w'.heap[b]? = w.heap[b]?)→holds w' fp
 lt:∀ {w fp},holds w fp→∀ b∈fp,b<w.heap.size

def Own {α:Type} (R:Rep α) (cs:List Value) (x:α):Asn:=⟨fun w fp=>R.own w cs x fp,R.own_ext,R.own_lt⟩
def Box (b:Nat) (E:TypeId) (cs:List Value):Asn where
 holds w fp:=fp=[b]∧w.heap[b]? = some (.cells cs.toArray E (0,0))
 ext h he:=by obtain ⟨rfl,h⟩:=h;exact ⟨rfl,by rw [he b (by simp)];exact h⟩
 lt h:=by obtain ⟨rfl,h⟩:=h;intro b' hb;simp at hb;subst hb;exact (Array.getElem?_eq_some_iff.1 h).1

def dj (w:World):List Asn→List Nat→Prop
 | [],fp=>fp=[]
 | A :: Γ,fp=>∃ f1 f2,fp=f1++f2∧A.holds w f1∧dj w Γ f2

structure Sat (w0 w:World) (Γ:List Asn):Prop where
 below:Below w0.heap.size w0 w
 sat:∃ fp,dj w Γ fp∧fp.Nodup∧∀ b∈fp,w0.heap.size≤b

theorem dj.ext {w w':World}:∀ {Γ:List Asn} {fp:List Nat},dj w Γ fp→(∀ b∈fp,w'.heap[b]? = w.heap[b]?)→dj w' Γ fp
 | [],_,h,_=>h
 | A :: Γ,_,h,he=>by
  obtain ⟨f1,f2,rfl,h1,h2⟩:=h
  exact ⟨f1,f2,rfl,A.ext h1 (fun b hb=>he b (List.mem_append_left _ hb)),dj.ext h2 (fun b hb=>he b (List.mem_append_right _ hb))⟩
theorem dj.lt {w:World}:∀ {Γ:List Asn} {fp:List Nat},dj w Γ fp→∀ b∈fp,b<w.heap.size
 | [],_,h=>by simp only [dj] at h;subst h;simp
 | A :: Γ,_,h=>by
  obtain ⟨f1,f2,rfl,h1,h2⟩:=h
  intro b hb
  rcases List.mem_append.1 hb with h | h
  ·exact A.lt h1 b h
  ·exact dj.lt h2 b h
theorem dj.append {w:World} {Δ:List Asn} {g:List Nat} (k:dj w Δ g):∀ {Γ:List Asn} {fp:List Nat},dj w Γ fp→dj w (Γ++Δ) (fp++g)
 | [],_,h=>by simp only [dj] at h;subst h;simpa using k
 | A :: Γ,_,h=>by
  obtain ⟨f1,f2,rfl,h1,h2⟩:=h
  exact ⟨f1,f2++g,by simp,h1,dj.append k h2⟩
theorem dj.perm {w:World} {Γ Δ:List Asn} (hp:Γ.Perm Δ):∀ {fp:List Nat},dj w Γ fp→∃ fp',fp.Perm fp'∧dj w Δ fp':=by
 induction hp with
 | nil=>intro fp h;exact ⟨fp,.refl _,h⟩
 | cons A _ ih =>
  rintro _ ⟨f1,f2,rfl,h1,h2⟩
  obtain ⟨f2',p,h2'⟩:=ih h2
  exact ⟨f1++f2',List.Perm.append_left _ p,f1,f2',rfl,h1,h2'⟩
 | swap A B Γ =>
  rintro _ ⟨f1,_,rfl,h1,f2,f3,rfl,h2,h3⟩
  refine ⟨f2++(f1++f3),?_,f2,f1++f3,rfl,h2,f1,f3,rfl,h1,h3⟩
  rw [← List.append_assoc,← List.append_assoc]
  exact List.Perm.append_right _ List.perm_append_comm
 | trans _ _ ih1 ih2 =>
  intro fp h
  obtain ⟨f1,p1,h1⟩:=ih1 h
  obtain ⟨f2,p2,h2⟩:=ih2 h1
  exact ⟨f2,p1.trans p2,h2⟩

theorem Sat.start (w:World):Sat w w []:=⟨Below.refl _ _,[],rfl,by simp,by simp⟩
theorem Sat.le {w0 w:World} {Γ:List Asn} (h:Sat w0 w Γ):w0.heap.size≤w.heap.size:=h.below.size
theorem Sat.ext {w0 w w':World} {Γ:List Asn} (h:Sat w0 w Γ) (he:Ext w w'):Sat w0 w' Γ:=by
 obtain ⟨hb,fp,h1,h2,h3⟩:=h
 exact ⟨Below.andExt hb hb.size he,fp,h1.ext (fun b hb'=>he.block b (h1.lt b hb')),h2,h3⟩
theorem Sat.call {w0 w w':World} {Γ Δ:List Asn} (h:Sat w0 w Γ) (k:Sat w w' Δ):Sat w0 w' (Δ++Γ):=by
 obtain ⟨hb,fp,h1,h2,h3⟩:=h
 obtain ⟨kb,fk,k1,k2,k3⟩:=k
 refine ⟨Below.andExt hb hb.size kb,fk++fp,dj.append (h1.ext (fun b hb'=>kb.block b (h1.lt b hb'))) k1,?_,?_⟩
 ·rw [List.nodup_append]
  exact ⟨k2,h2,fun a ha b hb' e=>by have:=k3 a ha;have:=h1.lt b hb';omega⟩
 ·intro b hb'
  rcases List.mem_append.1 hb' with h | h
  ·have:=k3 b h;have:=hb.size;omega
  ·exact h3 b h
theorem Sat.call1 {w0 w w':World} {Γ:List Asn} {A:Asn} (h:Sat w0 w Γ) (k:Sat w w' [A]):Sat w0 w' (A :: Γ):=h.call k
theorem Sat.call2 {w0 w w':World} {Γ:List Asn} {A B:Asn} (h:Sat w0 w Γ) (k:Sat w w' [A,B]):Sat w0 w' (A :: B :: Γ):=h.call k
theorem Sat.perm {w0 w:World} {Γ Δ:List Asn} (h:Sat w0 w Γ) (hp:Γ.Perm Δ):Sat w0 w Δ:=by
 obtain ⟨hb,fp,h1,h2,h3⟩:=h
 obtain ⟨fp',p,h1'⟩:=dj.perm hp h1
 exact ⟨hb,fp',h1',p.nodup_iff.1 h2,fun b hb'=>h3 b (p.mem_iff.2 hb')⟩
theorem Sat.tail {w0 w:World} {A:Asn} {Γ:List Asn} (h:Sat w0 w (A :: Γ)):Sat w0 w Γ:=by
 obtain ⟨hb,_,⟨f1,f2,rfl,_,h2⟩,hn,h3⟩:=h
 exact ⟨hb,f2,h2,(List.nodup_append.1 hn).2.1,fun b hb'=>h3 b (List.mem_append_right _ hb')⟩
theorem Sat.head {w0 w:World} {A:Asn} {Γ:List Asn} (h:Sat w0 w (A :: Γ)):∃ fp,A.holds w fp∧fp.Nodup∧∀ b∈fp,w0.heap.size≤b:=by
 obtain ⟨_,_,⟨f1,f2,rfl,h1,_⟩,hn,h3⟩:=h
 exact ⟨f1,h1,(List.nodup_append.1 hn).1,fun b hb'=>h3 b (List.mem_append_left _ hb')⟩
theorem Sat.take {w0 w:World} {Γ:List Asn} (h:Sat w0 w Γ) (Δ Θ:List Asn) (hp:Γ.Perm (Δ++Θ)):Sat w0 w Δ:=by
 have h':=h.perm (hp.trans List.perm_append_comm)
 clear h hp
 induction Θ with
 | nil=>simpa using h'
 | cons A Θ ih=>exact ih h'.tail
theorem Sat.upd {w0 w w':World} {A B:Asn} {Γ:List Asn} (h:Sat w0 w (A :: Γ))
  (k:∀ fp,A.holds w fp→fp.Nodup→∃ fp',B.holds w' fp'∧fp'.Nodup∧Chg fp w w'∧∀ b∈fp',b∈fp∨w.heap.size≤b):Sat w0 w' (B :: Γ):=by
 obtain ⟨hb,_,⟨f1,f2,rfl,h1,h2⟩,hn,h3⟩:=h
 obtain ⟨n1,n2,n3⟩:=List.nodup_append.1 hn
 obtain ⟨f1',k1,k2,k3,k4⟩:=k f1 h1 n1
 refine ⟨lr hb hb.size k3 (fun x hx=>h3 x (List.mem_append_left _ hx)),f1'++f2,⟨f1',f2,rfl,k1,h2.ext (fun b hb'=>k3.block b (h2.lt b hb') (fun hm=>n3 b hm b hb' rfl))⟩,?_,?_⟩
 ·rw [List.nodup_append]
  refine ⟨k2,n2,fun a ha b hb' e=>?_⟩
  subst e
  rcases k4 a ha with h | h
  ·exact n3 a h a hb' rfl
  ·have:=h2.lt a hb';omega
 ·intro b hb'
  rcases List.mem_append.1 hb' with h | h
  ·rcases k4 b h with h | h
   ·exact h3 b (List.mem_append_left _ h)
   ·have:=hb.size;omega
  ·exact h3 b (List.mem_append_right _ h)
theorem Sat.join {w0 w:World} {A B C:Asn} {Γ:List Asn} (h:Sat w0 w (A :: B :: Γ)) (k:∀ f g,A.holds w f→B.holds w g→C.holds w (f++g)):Sat w0 w (C :: Γ):=by
 obtain ⟨hb,_,⟨f1,_,rfl,h1,f2,f3,rfl,h2,h4⟩,hn,h3⟩:=h
 exact ⟨hb,(f1++f2)++f3,⟨f1++f2,f3,rfl,k _ _ h1 h2,h4⟩,by simpa using hn,by simpa using h3⟩
theorem Sat.conv {w0 w:World} {A B:Asn} {Γ:List Asn} (h:Sat w0 w (A :: Γ)) (k:∀ f,A.holds w f→B.holds w f):Sat w0 w (B :: Γ):=by
 obtain ⟨hb,_,⟨f1,f2,rfl,h1,h2⟩,hn,h3⟩:=h
 exact ⟨hb,_,⟨f1,f2,rfl,k _ h1,h2⟩,hn,h3⟩
theorem Sat.add {w0 w:World} {A:Asn} {Γ:List Asn} (h:Sat w0 w Γ) (k:A.holds w []):Sat w0 w (A :: Γ):=by
 obtain ⟨hb,fp,h1,h2,h3⟩:=h
 exact ⟨hb,fp,⟨[],fp,rfl,k,h1⟩,h2,h3⟩
theorem Sat.box {w0 w:World} {Γ:List Asn} (h:Sat w0 w Γ) (E:TypeId) (cs:List Value):Sat w0 (w.alloc (.cells cs.toArray E)) (Box w.heap.size E cs :: Γ):=by
 have k:Sat w (w.alloc (.cells cs.toArray E)) [Box w.heap.size E cs] :=
  ⟨(Below.refl _ _).alloc (Nat.le_refl _) _,[w.heap.size],⟨[w.heap.size],[],by simp,⟨rfl,heap_alloc_new w _⟩,rfl⟩,by simp,by simp⟩
 simpa using h.call k
theorem dO (w:World) (o:Obj):Ext w (w.alloc o):=(Below.refl _ _).alloc (Nat.le_refl _) _
theorem Sat.rd {α:Type} {R:Rep α} {w0 w:World} {cs:List Value} {x:α} {Γ:List Asn} (h:Sat w0 w (Own R cs x :: Γ)):R.rd w cs x:=by
 obtain ⟨fp,h,_⟩:=h.head
 exact R.own_rd h

class AtBox (Γ:List Asn) (b:Nat) (E:outParam TypeId) (cs:outParam (List Value)) (rest:outParam (List Asn)):Prop where
 perm:Γ.Perm (Box b E cs :: rest)
instance (Γ:List Asn) (b:Nat) (E:TypeId) (cs:List Value):AtBox (Box b E cs :: Γ) b E cs Γ:=⟨.refl _⟩
instance (A:Asn) (Γ:List Asn) (b:Nat) (E:TypeId) (cs:List Value) (rest:List Asn) [h:AtBox Γ b E cs rest]:AtBox (A :: Γ) b E cs (A :: rest) :=
 ⟨(List.Perm.cons A h.perm).trans (.swap _ _ _)⟩
class AtOwn (Γ:List Asn) (v:Value) (α:outParam Type) (R:outParam (Rep α)) (x:outParam α) (rest:outParam (List Asn)):Prop where
 perm:Γ.Perm (Own R [v] x :: rest)
instance {α:Type} (Γ:List Asn) (v:Value) (R:Rep α) (x:α):AtOwn (Own R [v] x :: Γ) v α R x Γ:=⟨.refl _⟩
instance {α:Type} (A:Asn) (Γ:List Asn) (v:Value) (R:Rep α) (x:α) (rest:List Asn) [h:AtOwn Γ v α R x rest]:AtOwn (A :: Γ) v α R x (A :: rest) :=
 ⟨(List.Perm.cons A h.perm).trans (.swap _ _ _)⟩
theorem Sat.own {α:Type} {R:Rep α} {w0 w:World} {v:Value} {x:α} {Γ rest:List Asn} (h:Sat w0 w Γ) [k:AtOwn Γ v α R x rest]:Sat w0 w (Own R [v] x :: rest):=h.perm k.perm
theorem Sat.read {α:Type} {R:Rep α} {w0 w:World} {v:Value} {x:α} {Γ rest:List Asn} (h:Sat w0 w Γ) [AtOwn Γ v α R x rest]:R.rd w [v] x:=h.own.rd

theorem Sat.keep {w0 w:World} {Γ:List Asn} (n:Nat) (h:Sat w0 w Γ):Sat w0 w (Γ.take n):=h.take (Γ.take n) (Γ.drop n) (by rw [List.take_append_drop])
class PlainT (P:Program) (t:TypeId):Prop where
 h:∃ d,P.underlying t=some d∧(match d with | .struct _ | .array _ _=>False | _=>True)
class AggT (P:Program) (t:TypeId) (n:outParam Nat):Prop where
 h:∃ d,P.underlying t=some d∧(match d with | .struct _ | .array _ _=>True | _=>False)
 size:(P.info? t).map (·.size)=some n
class SliceT (P:Program) (t:TypeId) (e:outParam TypeId):Prop where
 h:P.underlying t=some (.slice e)
class ElemT (P:Program) (t:TypeId) (z:outParam (List Value)) (n bytes:outParam Nat):Prop where
 h:(P.info? t).map (fun i=>(i.zero.map fun v=>v.cells.toList,i.size,i.bytes))=some (some z,n,bytes)

section laws
variable {P:Program} {ops:Array Oper} {rest:List Oper} {o:Oper} {a:Act} {Q:Exit→Act→World→Prop} {w w0:World} {Γ rΓ:List Asn}

theorem mH (hg:o.guard=none) {t:TypeId} {x:Operand} (ho:o.op=.box t x) (cs:List Value) (hx:(a.eval x).cells=cs.toArray) (hS:Sat w0 w Γ)
  (hK:∀ w' b,Sat w0 w' (Box b t cs :: Γ)→Ext w w'→wpList P ops Q rest (a.put o.dst (.pointer (some ⟨b,0,none⟩))) w'):wpList P ops Q (o :: rest) a w:=by
 refine wpList_plain hg fun K hK'=>?_
 unfold Oper.wp execOp
 simp only [ho,Instr.box,newVar,newRow,hx,Sem.run_bind,Sem.run_pure,run_newObj,Result.andThen_ok,Oper.upon_value]
 exact hK' _ _ (hK _ _ (hS.box t cs) (dO _ _))

theorem lN (hg:o.guard=none) {t:TypeId} (ho:o.op=.alloc t) {cs:List Value} {n bytes:Nat} [hz:ElemT P t cs n bytes] (hS:Sat w0 w Γ)
  (hK:∀ w' b,Sat w0 w' (Box b t cs :: Γ)→Ext w w'→wpList P ops Q rest (a.put o.dst (.pointer (some ⟨b,0,none⟩))) w'):wpList P ops Q (o :: rest) a w:=by
 refine wpList_plain hg fun K hK'=>?_
 have hz:=hz.h
 cases hi:P.info? t with
 | none=>simp [hi] at hz
 | some i =>
  cases hzz:i.zero with
  | none=>simp [hi,hzz] at hz
  | some z =>
   simp [hi,hzz] at hz
   have hzc:z.cells=cs.toArray:=by rw [← hz.1]
   unfold Oper.wp execOp
   simp only [ho,Instr.alloc,zeroValue,typeInfo,hi,hzz,newVar,newRow,hzc,Sem.run_bind,Sem.run_pure,run_newObj,run_program,Result.andThen_ok,Oper.upon_value]
   exact hK' _ _ (hK _ _ (hS.box t cs) (dO _ _))

theorem gY {t:TypeId} [hT:PlainT P t] {ad:Addr} {c:Value} (hc:w.cell? ad=some c):(loadVar t ad).run P w=.ok c w:=by
 obtain ⟨d,hd,hk⟩:=hT.h
 have hagg:(isAgg t).run P w=.ok false w:=by
  unfold isAgg
  rw [Sem.run_bind,run_underlying hd w]
  cases d <;> simp_all
 simp [loadVar,Sem.run_bind,hagg,hc]

theorem dc {t:TypeId} {n:Nat} [hT:AggT P t n] {b off:Nat} {cs:List Value} (hn:cs.length=n) (hc:∀ j c,cs[j]? = some c→w.cell? ⟨b,off+j,none⟩=some c) :
  (loadVar t ⟨b,off,none⟩).run P w=.ok (.agg cs.toArray) w:=by
 obtain ⟨d,hd,hk⟩:=hT.h
 have hagg:(isAgg t).run P w=.ok true w:=by
  unfold isAgg
  rw [Sem.run_bind,run_underlying hd w]
  cases d <;> simp_all
 have hs:=hT.size
 cases hi:P.info? t with
 | none=>simp [hi] at hs
 | some i =>
  simp [hi] at hs
  have hl:=run_loadCells_list (P:=P) w ⟨b,off,none⟩ cs (fun j c hj=>by rw [Addr.add_lit];exact hc j c hj)
  rw [hn,← hs] at hl
  simp [loadVar,Sem.run_bind,hagg,sizeOf,typeInfo,hi,hl]

theorem Sat.boxCell {b:Nat} {E:TypeId} {cs:List Value} (hS:Sat w0 w Γ) [k:AtBox Γ b E cs rΓ]:∀ j c,cs[j]? = some c→w.cell? ⟨b,j,none⟩=some c:=by
 obtain ⟨fp,⟨_,hh⟩,_⟩:=(hS.perm k.perm).head
 intro j c hj
 rw [cell_of_row w b j _ E (0,0) hh]
 simpa using hj

theorem dL {b:Nat} {E:TypeId}:∀ (vs:List Value) (off i:Nat) (cur:List Value) (w:World),w.heap[b]? = some (.cells cur.toArray E (0,0))→off+i+vs.length≤cur.length→(∀ v∈vs,v.oneCell'=true) →
  ∃ w',(storeCells ⟨b,off,none⟩ vs i).run P w=.ok () w'∧w'.heap[b]? = some (.cells (cur.take (off+i)++vs++cur.drop (off+i+vs.length)).toArray E (0,0))∧Chg [b] w w'
 | [],off,i,cur,w,hb,_,_=>by
  refine ⟨w,rfl,?_,Chg.refl _ _⟩
  rw [hb];simp
 | v :: vs,off,i,cur,w,hb,hl,h1=>by
  simp only [List.length_cons] at hl
  have hi:off+i<cur.length:=by omega
  have hcell:w.cell? ⟨b,off+i,none⟩=some cur[off+i]:=by rw [cell_of_row w b _ _ E (0,0) hb];simp [hi]
  have hfro:w.frozen? ⟨b,off+i,none⟩=false:=frozen_of_row w b _ _ E hb
  have hst:(store ((⟨b,off,none⟩:Addr).add i) v).run P w=.ok () (w.setCell ⟨b,off+i,none⟩ v):=by
   rw [Addr.add_lit,run_store P w _ v _ (h1 v (by simp)),hcell]
   simp [hfro]
  have hb':(w.setCell ⟨b,off+i,none⟩ v).heap[b]? = some (.cells ((cur.set (off+i) v).toArray) E (0,0)):=by
   rw [heap_setCell_same w b (off+i) _ E v hb];simp
  obtain ⟨w',h2,h3,h4⟩:=dL vs off (i+1) (cur.set (off+i) v) _ hb' (by simp;omega) (fun x hx=>h1 x (by simp [hx]))
  refine ⟨w',?_,?_,?_⟩
  ·simp only [storeCells,Sem.run_bind,hst,Result.andThen_ok];exact h2
  ·rw [h3]
   congr 3
   have e1:(cur.set (off+i) v).take (off+(i+1))=cur.take (off+i)++[v]:=by
    rw [show off+(i+1)=(off+i)+1 by omega,List.take_set,List.take_succ_eq_append_getElem hi,List.set_append_right _ _ (by simp;omega)]
    simp [show min (off+i) cur.length=off+i by omega]
   have e2:(cur.set (off+i) v).drop (off+(i+1)+vs.length)=cur.drop (off+i+(v :: vs).length):=by
    rw [List.drop_set_of_lt (by omega)]
    congr 1
    simp only [List.length_cons];omega
   rw [e1,e2];simp
  ·exact Chg.trans (show Chg [b] w (w.setCell ⟨b,off+i,none⟩ v) from ⟨rfl,rfl,rfl,by simp,fun k _ hk=>Below.heap_setCell _ _ _ _ (by simpa using hk)⟩) h4

theorem kG {t:TypeId} {x y:Operand} (hg:o.guard=none) (ho:o.op=.store t x y) {z:List Value} {n bytes:Nat} [hz:ElemT P t z n bytes] (hS:Sat w0 w Γ) {b j:Nat} (hx:a.eval x=.pointer (some ⟨b,j,none⟩))
  {E:TypeId} {cs:List Value} [k:AtBox Γ b E cs rΓ] (vs:List Value) (hy:(a.eval y).cells=vs.toArray) (hn:vs.length=n) (hl:j+n≤cs.length) (h1:vs.all (·.oneCell')=true)
  (hK:∀ w',Sat w0 w' (Box b E (cs.take j++vs++cs.drop (j+n)) :: rΓ)→wpList P ops Q rest (a.put o.dst undef) w'):wpList P ops Q (o :: rest) a w:=by
 refine wpList_plain hg fun K hK'=>?_
 have hz:=hz.h
 cases hi:P.info? t with
 | none=>simp [hi] at hz
 | some i =>
  simp [hi] at hz
  obtain ⟨fp,⟨_,hh⟩,_⟩:=(hS.perm k.perm).head
  obtain ⟨w',hr,hh',hc⟩:=dL (P:=P) vs j 0 cs w hh (by omega) (by simpa using h1)
  have hsz:¬ (vs.toArray.size≠i.size):=by simp;omega
  unfold Oper.wp execOp
  simp only [ho,hx,Instr.storeAt,Instr.sureAddr,storeVar,sizeOf,typeInfo,hi,hy,Sem.run_bind,Sem.run_pure,run_program,Result.andThen_ok,hsz,if_false,Sem.run_ite,List.toList_toArray,hr,Oper.upon_skip]
  refine hK' _ _ (hK w' ?_)
  refine Sat.upd (hS.perm k.perm) fun fp hfp hnd=>?_
  obtain ⟨rfl,_⟩:=hfp
  refine ⟨[b],⟨rfl,?_⟩,by simp,hc,fun x hx=>.inl hx⟩
  rw [hh']
  simp [hn]
theorem lw {v:Value} (h:v.oneCell'=true):v.cells=[v].toArray:=by cases v <;> first | rfl | simp [Value.oneCell'] at h
end laws

section laws2
variable {P:Program} {ops:Array Oper} {rest:List Oper} {o:Oper} {a:Act} {Q:Exit→Act→World→Prop} {w w0 wA:World} {Γ rΓ:List Asn} {α:Type} {R:Rep α} {E:TypeId}

theorem jM {w:World} {v:Value} {xs:List α} (h:(aj R E).rd w [v] xs):∃ ao cap,v=.slice ao xs.length cap:=by
 obtain ⟨ao,cap,ccs,hv,_⟩:=h
 exact ⟨ao,cap,by simpa using hv⟩

def iQ (R:Rep α) (ccs:List Value) (ys:List α):Asn:=⟨fun w fp=>dh R w ccs ys fp,fun h he=>dM h he,fun h=>eC h⟩
def mh (A B:Asn):Asn where
 holds w fp:=∃ f g,fp=f++g∧A.holds w f∧B.holds w g
 ext h he:=by
  obtain ⟨f,g,rfl,h1,h2⟩:=h
  exact ⟨f,g,rfl,A.ext h1 (fun b hb=>he b (List.mem_append_left _ hb)),B.ext h2 (fun b hb=>he b (List.mem_append_right _ hb))⟩
 lt h:=by
  obtain ⟨f,g,rfl,h1,h2⟩:=h
  intro b hb
  rcases List.mem_append.1 hb with h | h
  ·exact A.lt h1 b h
  ·exact B.lt h2 b h

theorem fY (z:Value) (k:Nat):(Builtin.zeroCells z.cells k).size=k*z.cells.size:=size_zeroCells _ _

theorem kp {w:World} {cur:Array Value} {xs:List α} {ccs:List Value} {f:List Nat} {cap:Nat} (h:dh R w ccs xs f) (hcap:xs.length≤cap) (hm:cap≤maxLen) (hs:cur.size=cap*R.sz)
  (ht:cur.toList.take ccs.length=ccs):(aj R E).own (w.drew.alloc (.cells cur E)) [.slice (some ⟨w.heap.size,0,none⟩) xs.length cap] xs (w.heap.size :: f):=by
 refine .inr ⟨w.heap.size,cap,cur,ccs,f,rfl,heap_alloc_new w.drew _,hcap,hm,hs,by rw [← ek (dI h)];exact ht,dM h (fun b hb=>?_),rfl⟩
 exact Below.heap_alloc w.drew _ b (eC h b hb)

theorem go {t ty:TypeId} [ht:SliceT P t E] {z:List Value} {n bytes:Nat} [hz:ElemT P E z n bytes] (hn:R.sz=n) (hpos:0<n) (hzl:z.length=n) (hb0:0<bytes)
  {v:Value} {xs:List α} {f:List Nat} (hv:(aj R E).own w [v] xs f) {ccs:List Value} {ys:List α} {fy:List Nat} (hy:dh R w ccs ys fy) (hnd:(fy++f).Nodup)
  {ao:Option Addr} {c:Nat} (hnone:ao=none→c=0) (hrow:gQ w ao ccs) (hby:(xs.length+ys.length)*bytes≤140737488355328) :
  ∃ v' w' f',(Builtin.append_ #[t,t] ty #[v,.slice ao ys.length c]).run P w=.ok v' w'∧(aj R E).own w' [v'] (xs++ys) f'∧f'.Nodup∧Chg (fy++f) w w'∧∀ b∈f',b∈fy++f∨w.heap.size≤b:=by
 have hz:=hz.h
 have hmax:xs.length+ys.length≤140737488355328:=Nat.le_trans (Nat.le_mul_of_pos_right _ hb0) hby
 have hyl:ccs.length=ys.length*R.sz:=ek (dI hy)
 have hy1:∀ u∈ccs,u.oneCell'=true:=ki (dI hy)
 cases hi:P.info? E with
 | none=>simp [hi] at hz
 | some i =>
 cases hzz:i.zero with
 | none=>simp [hi,hzz] at hz
 | some zv =>
 simp [hi,hzz] at hz
 obtain ⟨hz1,hz2,hz3⟩:=hz
 have hzs:zv.cells.size=R.sz:=by rw [← Array.length_toList,hz1,hzl,hn]
 have hsz:i.size=R.sz:=by omega
 have hdrew:Chg (fy++f) w w.drew:=⟨rfl,rfl,rfl,Nat.le_refl _,fun _ _ _=>rfl⟩
 have hgrow:∀ cur:Array Value,Chg (fy++f) w (w.drew.alloc (.cells cur E)):=fun cur=>hdrew.trans ((Chg.alloc w.drew _).mono (by simp))
 have hlt:∀ b∈fy++f,b<w.heap.size:=fun b hb=>by
  rcases List.mem_append.1 hb with h | h
  ·exact eC hy b h
  ·exact (aj R E).own_lt hv b h
 obtain ⟨nd1,nd2,nd3⟩:=List.nodup_append.1 hnd
 -- nothing is appended
 by_cases hy0:ys=[]
 ·subst hy0
  have hccs:ccs=[]:=by simp only [dh] at hy;exact hy.1
  have hfy:fy=[]:=by simp only [dh] at hy;exact hy.2
  subst hccs;subst hfy
  refine ⟨v,w,f,?_,by simpa using hv,by simpa using hnd,Chg.refl _ _,fun b hb=>.inl (by simpa using hb)⟩
  rcases hv with ⟨hv,rfl,rfl⟩ | ⟨g,cap,cur,cs,f2,hv,hg,h1,h2,h3,h4,h5,rfl⟩
  ·obtain rfl:v=.slice none 0 0:=by simpa using hv
   cases ao <;> simp [Builtin.append_,run_underlying ht.h,sizeOf,typeInfo,hi,Builtin.lenOf,Builtin.firstCells,loadCells,loadCellsFrom]
  ·obtain rfl:v=.slice (some ⟨g,0,none⟩) xs.length cap:=by simpa using hv
   cases ao <;> simp [Builtin.append_,run_underlying ht.h,sizeOf,typeInfo,hi,Builtin.lenOf,Builtin.firstCells,loadCells,loadCellsFrom,h1,storeCells]
 have hyp:0<ys.length:=List.length_pos_iff.2 hy0
 obtain ⟨b,off,rfl,hcell⟩:∃ b off,ao=some ⟨b,off,none⟩∧∀ j c,ccs[j]? = some c→w.cell? ⟨b,off+j,none⟩=some c:=by
  rcases hrow with rfl | h
  ·exfalso
   have:0<ys.length*R.sz:=Nat.mul_pos hyp (by omega)
   simp at hyl;omega
  ·exact h
 have hnews:∀ j u,ccs[j]? = some u→w.cell? ((⟨b,off,none⟩:Addr).add j)=some u:=fun j u hj=>by rw [Addr.add_lit];exact hcell j u hj
 rcases hv with ⟨hv,rfl,rfl⟩ | ⟨g,cap,cur,cs,f2,hv,hg,h1,h2,h3,h4,h5,rfl⟩
 ·obtain rfl:v=.slice none 0 0:=by simpa using hv
  simp only [List.length_nil,Nat.zero_add] at hby hmax
  have hr:=run_append_nil (P:=P) w t ty E i zv ht.h hi hzz ⟨b,off,none⟩ ys.length c ccs (by rw [hyl,hsz]) hnews hyp (by omega) (by rw [hz3];omega)
  refine ⟨_,_,w.heap.size :: fy,hr,?_,?_,hgrow _,?_⟩
  ·have hge:=grownCap_ge w ys.length 0 E
   rw [List.nil_append]
   refine kp hy hge (grownCap_le_maxLen w ys.length 0 E (by unfold maxLen;omega)) ?_ ?_
   ·rw [Array.size_append,fY,hzs,List.size_toArray,hyl,← Nat.add_mul]
    congr 1;omega
   ·rw [Array.toList_append,List.toList_toArray,List.take_left']
    rfl
  ·refine List.nodup_cons.2 ⟨fun hm=>?_,nd1⟩
   have:=hlt _ (List.mem_append_left _ hm);omega
  ·intro x hx
   rcases List.mem_cons.1 hx with rfl | hx
   ·exact .inr (Nat.le_refl _)
   ·exact .inl (List.mem_append_left _ hx)
 ·obtain rfl:v=.slice (some ⟨g,0,none⟩) xs.length cap:=by simpa using hv
  have hcl:cs.length=xs.length*R.sz:=ek (dI h5)
  have hfit:xs.length*R.sz≤cur.size:=by rw [h3];exact Nat.mul_le_mul_right _ h1
  obtain ⟨ng,nf2⟩:=List.nodup_cons.1 nd2
  by_cases hroom:xs.length+ys.length≤cap
  ·have hfit2:xs.length*i.size+ccs.length≤cur.size:=by rw [hsz,hyl,h3,← Nat.add_mul];exact Nat.mul_le_mul_right _ hroom
   have hr:=run_append_room (P:=P) w t ty E i ht.h hi g xs.length cap cur hg ⟨b,off,none⟩ ys.length c ccs (by rw [hyl,hsz]) hnews hy1 hroom hfit2
   have hoth:∀ k,k≠g→(w.setRow g (cur.toList.take (xs.length*i.size)++ccs++cur.toList.drop (xs.length*i.size+ccs.length)).toArray).heap[k]? = w.heap[k]?:=fun k hk=>setRow_other w g k _ hk
   refine ⟨_,_,g :: (f2++fy),hr,?_,?_,⟨rfl,rfl,rfl,by simp,fun k _ hk=>hoth k (fun e=>hk (by simp [e]))⟩,?_⟩
   ·rw [show xs.length+ys.length=(xs++ys).length by simp]
    refine .inr ⟨g,cap,_,cs++ccs,f2++fy,rfl,setRow_heap w g cur _ E _ hg,by simpa using hroom,h2,?_,?_,?_,rfl⟩
    ·simp only [List.size_toArray,List.length_append,List.length_take,List.length_drop,Array.length_toList]
     rw [hsz] at hfit2 ⊢
     omega
    ·rw [hsz,h4,List.length_append,Nat.add_mul,← hcl,← hyl,← List.length_append]
     exact List.take_left' rfl
    ·refine fD (dM hy fun x hx=>hoth x fun e=>?_) (dM h5 fun x hx=>hoth x fun e=>?_)
     ·subst e;exact nd3 x hx x (by simp) rfl
     ·subst e;exact ng hx
   ·refine List.nodup_cons.2 ⟨fun hm=>?_,List.nodup_append.2 ⟨nf2,nd1,fun a ha b hb e=>nd3 b hb a (by simp [ha]) e.symm⟩⟩
    rcases List.mem_append.1 hm with h | h
    ·exact ng h
    ·exact nd3 g h g (by simp) rfl
   ·intro x hx
    refine .inl ?_
    simp only [List.mem_cons,List.mem_append] at hx ⊢
    rcases hx with h | h | h <;> simp [h]
  ·have hcells:∀ j u,cs[j]? = some u→w.cell? ((⟨g,0,none⟩:Addr).add j)=some u:=fun j u hj=>by
    rw [Addr.add_lit,Nat.zero_add,cell_of_row w g j cur E (0,0) hg,← Array.getElem?_toList]
    rw [← h4,List.getElem?_take] at hj
    split at hj
    ·exact hj
    ·cases hj
   have hr:=run_append_grow (P:=P) w t ty E i zv ht.h hi hzz ⟨g,0,none⟩ xs.length cap cs (by rw [hcl,hsz]) hcells ⟨b,off,none⟩ ys.length c ccs (by rw [hyl,hsz]) hnews (by omega) (by omega) (growslice_fits (by omega) (by rw [hz3];exact hby))
   refine ⟨_,_,w.heap.size :: (f2++fy),hr,?_,?_,hgrow _,?_⟩
   ·have hge:=grownCap_ge w (xs.length+ys.length) cap E
    rw [show (xs.length+ys.length:Nat)=(xs++ys).length by simp] at hge ⊢
    refine kp (fD hy h5) hge (grownCap_le_maxLen w _ cap E (by unfold maxLen;simp;omega)) ?_ ?_
    ·rw [Array.size_append,Array.size_append,fY,hzs,List.size_toArray,List.size_toArray,hyl,hcl,← Nat.add_mul,← Nat.add_mul]
     congr 1;simp at hge ⊢;omega
    ·rw [Array.toList_append,Array.toList_append,List.toList_toArray,List.toList_toArray,List.take_left']
     rfl
   ·refine List.nodup_cons.2 ⟨fun hm=>?_,List.nodup_append.2 ⟨nf2,nd1,fun a ha b hb e=>nd3 b hb a (by simp [ha]) e.symm⟩⟩
    have:=hlt w.heap.size (by
     rcases List.mem_append.1 hm with h | h
     ·exact List.mem_append_right _ (by simp [h])
     ·exact List.mem_append_left _ h)
    omega
   ·intro x hx
    simp only [List.mem_cons,List.mem_append] at hx ⊢
    rcases hx with h | h | h
    ·exact .inr (by omega)
    ·exact .inl (by simp [h])
    ·exact .inl (by simp [h])

theorem kt (hg:o.guard=none) {t:TypeId} {s x:Operand} (ho:o.op=.call { callee:=.builtin .append,args:=#[s,x],argTypes:=#[t,t] })
  [SliceT P t E] {z:List Value} {n bytes:Nat} [ElemT P E z n bytes] (hn:R.sz=n) (hpos:0<n) (hzl:z.length=n) (hb0:0<bytes)
  {v:Value} {xs:List α} {ccs:List Value} {ys:List α} (hS:Sat w0 w (iQ R ccs ys :: Own (aj R E) [v] xs :: Γ)) (hs:a.eval s=v)
  {ao:Option Addr} {m c:Nat} (hx:a.eval x=.slice ao m c) (hm:m=ys.length) (hnone:ao=none→c=0) (hrow:gQ w ao ccs) (hby:(xs.length+ys.length)*bytes≤140737488355328)
  (hK:∀ v' w',Sat w0 w' (Own (aj R E) [v'] (xs++ys) :: Γ)→wpList P ops Q rest (a.put o.dst v') w'):wpList P ops Q (o :: rest) a w:=by
 subst hm
 refine wpList_plain hg fun K hK'=>?_
 have hS':Sat w0 w (mh (iQ R ccs ys) (Own (aj R E) [v] xs) :: Γ):=hS.join fun f g h1 h2=>⟨f,g,rfl,h1,h2⟩
 obtain ⟨fp,⟨fy,f,rfl,hy,hv⟩,hnd,_⟩:=hS'.head
 obtain ⟨v',w',f',hr,k1,k2,k3,k4⟩:=go (P:=P) (t:=t) (ty:=o.type) hn hpos hzl hb0 hv hy hnd hnone hrow hby
 unfold Oper.wp execOp
 simp only [ho,resolve,invoke,builtin,Sem.run_bind,Sem.run_pure,Result.andThen_ok,List.map_toArray,List.map_cons,List.map_nil,hs,hx,hr,Oper.upon_value]
 refine hK' _ _ (hK v' w' ?_)
 have hex:∀ fp,(mh (iQ R ccs ys) (Own (aj R E) [v] xs)).holds w fp→fp.Nodup→∃ fp',(Own (aj R E) [v'] (xs++ys)).holds w' fp'∧fp'.Nodup∧Chg fp w w'∧∀ b∈fp',b∈fp∨w.heap.size≤b:=by
  rintro _ ⟨gy,g,rfl,hy2,hv2⟩ hnd2
  obtain ⟨v2,w2,f2,hr2,l1,l2,l3,l4⟩:=go (P:=P) (t:=t) (ty:=o.type) hn hpos hzl hb0 hv2 hy2 hnd2 hnone hrow hby
  rw [hr] at hr2
  obtain ⟨rfl,rfl⟩:v'=v2∧w'=w2:=by simpa using hr2
  exact ⟨f2,l1,l2,l3,l4⟩
 exact hS'.upd hex

theorem gl (z:Array Value) (h:0<z.size):∀ k,(madeCells z (k*z.size)).toList=(List.replicate k z.toList).flatten
 | 0=>by simp [madeCells]
 | k+1=>by
  have ih:=gl z h k
  rw [List.replicate_succ',List.flatten_append,← ih]
  unfold madeCells
  rw [Nat.add_mul,Nat.one_mul]
  simp only [Array.toList_map,Array.toList_range,List.range_add,List.map_append,List.map_map,List.flatten_cons,List.flatten_nil,List.append_nil]
  congr 1
  apply List.ext_getElem
  ·simp
  ·intro j h1 h2
   have hj:j<z.size:=by simpa using h1
   simp only [List.getElem_map,List.getElem_range,Function.comp]
   rw [Nat.mul_add_mod_self_right,Nat.mod_eq_of_lt hj]
   simp [hj]
theorem lV (hg:o.guard=none) {t:TypeId} {l c:Operand} (ho:o.op=.makeSlice t l c) [ht:SliceT P t E] {z:List Value} {n bytes:Nat} [hz:ElemT P E z n bytes] (hn:R.sz=n) (hpos:0<n) (hzl:z.length=n)
  {x0:α} (hx0:∀ w,R.own w z x0 []) {L C:Int} (hl:a.eval l=.int .i64 L) (hc:a.eval c=.int .i64 C) (k:Nat) (hL:L=(k:Int)) (hC:C=(k:Int)) (hby:k*bytes≤281474976710656) (hk:k≤140737488355328) (hS:Sat w0 w Γ)
  (hK:∀ w' g,Sat w0 w' (Own (aj R E) [.slice (some ⟨g,0,none⟩) k k] (List.replicate k x0) :: Γ)→Ext w w'→wpList P ops Q rest (a.put o.dst (.slice (some ⟨g,0,none⟩) k k)) w'):wpList P ops Q (o :: rest) a w:=by
 refine wpList_plain hg fun K hK'=>?_
 have hz:=hz.h
 cases hi:P.info? E with
 | none=>simp [hi] at hz
 | some i =>
 cases hzz:i.zero with
 | none=>simp [hi,hzz] at hz
 | some zv =>
 simp [hi,hzz] at hz
 obtain ⟨hz1,hz2,hz3⟩:=hz
 subst hL;subst hC
 have hr:=run_make (P:=P) w t E i zv ht.h hi hzz .i64 .i64 k k (by omega) (by omega) (by rw [hz3];have:=hby;rw [Nat.mul_comm] at this;omega) (by omega)
 simp only [Int.toNat_natCast] at hr
 unfold Oper.wp execOp
 simp only [ho,hl,hc,Sem.run_bind,hr,Sem.run_pure,Result.andThen_ok,Oper.upon_value]
 have hzs:zv.cells.size=n:=by rw [← Array.length_toList,hz1,hzl]
 have hcur:(madeCells zv.cells (k*i.size)).toList=(List.replicate k z).flatten:=by
  rw [← hz1,hz2,← hzs]
  exact gl _ (by omega) k
 refine hK' _ _ (hK _ _ ?_ (dO _ _))
 have hown:∀ k',dh R (w.alloc (.cells (madeCells zv.cells (k*i.size)) E)) (List.replicate k' z).flatten (List.replicate k' x0) []:=by
  intro k'
  induction k' with
  | zero=>exact ⟨rfl,rfl⟩
  | succ k' ih=>exact ⟨z,_,[],[],by simp [List.replicate_succ],rfl,hx0 _,ih⟩
 have kk:Sat w (w.alloc (.cells (madeCells zv.cells (k*i.size)) E)) [Own (aj R E) [.slice (some ⟨w.heap.size,0,none⟩) k k] (List.replicate k x0)]:=by
  refine ⟨dO _ _,[w.heap.size],⟨[w.heap.size],[],rfl,.inr ⟨w.heap.size,k,_,_,[],by simp,heap_alloc_new w _,by simp,by unfold maxLen;omega,?_,rfl,?_,rfl⟩,rfl⟩,by simp,by simp⟩
  ·rw [← Array.length_toList,hcur];simp [hzl,hn]
  ·rw [hcur,List.take_of_length_le (by simp [hzl,hn])]
   exact hown k
 simpa using hS.call kk

theorem kV {v:Value} {xs:List α} {fp:List Nat} (h:(aj R E).own w [v] xs fp):(v=.slice none 0 0∧xs=[])∨∃ g cap,v=.slice (some ⟨g,0,none⟩) xs.length cap:=by
 rcases h with ⟨h,h2,_⟩ | ⟨g,cap,_,_,_,h,_⟩
 ·exact .inl ⟨by simpa using h,h2⟩
 ·exact .inr ⟨g,cap,by simpa using h⟩
theorem Sat.shape {v:Value} {xs:List α} (h:Sat w0 w (Own (aj R E) [v] xs :: Γ)):(v=.slice none 0 0∧xs=[])∨∃ g cap,v=.slice (some ⟨g,0,none⟩) xs.length cap:=by
 obtain ⟨fp,h,_⟩:=h.head
 exact kV h

theorem jQ {w:World}:∀ {xs:List α} {ccs:List Value} {fp:List Nat},dh R w ccs xs fp→∀ (k:Nat) (_:k<xs.length) {ec:List Value} {y:α} {fy:List Nat},R.own w ec y fy →
  ∃ fl fk fr,fp=fl++fk++fr∧dh R w (ccs.take (k*R.sz)++ec++ccs.drop (k*R.sz+R.sz)) (xs.set k y) (fl++fy++fr)
 | [],_,_,_,k,hk,_,_,_,_=>absurd hk (by simp)
 | x :: xs,_,_,h,0,_,ec,y,fy,hy=>by
  obtain ⟨e0,rest,f1,f2,rfl,rfl,h1,h2⟩:=h
  refine ⟨[],f1,f2,by simp,ec,rest,fy,f2,?_,by simp,hy,h2⟩
  have:=R.rd_len (R.own_rd h1)
  simp [← this]
 | x :: xs,_,_,h,k+1,hk,ec,y,fy,hy=>by
  obtain ⟨e0,rest,f1,f2,rfl,rfl,h1,h2⟩:=h
  obtain ⟨fl,fk,fr,rfl,h3⟩:=jQ h2 k (by simpa using hk) hy
  refine ⟨f1++fl,fk,fr,by simp,e0,_,f1,fl++fy++fr,?_,by simp,h1,h3⟩
  have hl:=R.rd_len (R.own_rd h1)
  have e:(k+1)*R.sz=e0.length+k*R.sz:=by rw [hl,Nat.add_mul];omega
  rw [e,List.take_append,List.take_of_length_le (by omega),Nat.add_sub_cancel_left,show e0.length+k*R.sz+R.sz=e0.length+(k*R.sz+R.sz) by omega,List.drop_append,List.drop_of_length_le (by omega),Nat.add_sub_cancel_left]
  simp

theorem j8 (L ec:List Value) (p s N:Nat) (h1:p+s≤N) (h2:N≤L.length) (h3:ec.length=s):(L.take (p+0)++ec++L.drop (p+0+s)).take N=(L.take N).take p++ec++(L.take N).drop (p+s):=by
 rw [Nat.add_zero,List.take_append,List.take_of_length_le (by simp;omega),List.take_take,Nat.min_eq_left (by omega:p≤N),List.drop_take]
 congr 2
 simp;omega
theorem kU {t:TypeId} {x y:Operand} (hg:o.guard=none) (ho:o.op=.store t x y) {z:List Value} {n bytes:Nat} [hz:ElemT P t z n bytes] (hn:R.sz=n) {ec:List Value} {yv:α} {xs:List α} {g m cap:Nat}
  (hS:Sat w0 w (Own R ec yv :: Own (aj R E) [.slice (some ⟨g,0,none⟩) m cap] xs :: Γ)) (k off:Nat) (hk:k<xs.length) (hoff:off=k*n) (hx:a.eval x=.pointer (some ⟨g,off,none⟩)) (hy:(a.eval y).cells=ec.toArray)
  (hK:∀ w',Sat w0 w' (Own (aj R E) [.slice (some ⟨g,0,none⟩) m cap] (xs.set k yv) :: Γ)→wpList P ops Q rest (a.put o.dst undef) w'):wpList P ops Q (o :: rest) a w:=by
 refine wpList_plain hg fun K hK'=>?_
 have hz:=hz.h
 cases hi:P.info? t with
 | none=>simp [hi] at hz
 | some i =>
  simp [hi] at hz
  have hS':Sat w0 w (mh (Own R ec yv) (Own (aj R E) [.slice (some ⟨g,0,none⟩) m cap] xs) :: Γ):=hS.join fun f g h1 h2=>⟨f,g,rfl,h1,h2⟩
  obtain ⟨fp,⟨fy,f,rfl,hyo,hv⟩,hnd,_⟩:=hS'.head
  have hel:ec.length=R.sz:=R.rd_len (R.own_rd hyo)
  obtain ⟨cur,hh,hcs⟩:∃ cur,w.heap[g]? = some (.cells cur E (0,0))∧xs.length*R.sz≤cur.size:=by
   rcases hv with ⟨h,_⟩ | ⟨g',cap',cur,ccs,f2,h,hg',h1,h2,h3,_⟩
   ·simp at h
   ·simp at h
    obtain ⟨rfl,_⟩:=h
    exact ⟨cur,hg',by rw [h3];exact Nat.mul_le_mul_right _ h1⟩
  have hkk:k*R.sz+R.sz≤xs.length*R.sz:=by have:=Nat.mul_le_mul_right R.sz hk;rw [Nat.succ_mul] at this;exact this
  have hh':w.heap[g]? = some (.cells cur.toList.toArray E (0,0)):=by simpa using hh
  obtain ⟨w',hr,hnew,hc⟩:=dL (P:=P) ec off 0 cur.toList w hh' (by rw [hoff,hel,← hn];simp;omega) (R.rd_one (R.own_rd hyo))
  have hsz:¬ (ec.toArray.size≠i.size):=by simp;omega
  unfold Oper.wp execOp
  simp only [ho,hx,Instr.storeAt,Instr.sureAddr,storeVar,sizeOf,typeInfo,hi,hy,Sem.run_bind,Sem.run_pure,run_program,Result.andThen_ok,hsz,if_false,Sem.run_ite,List.toList_toArray,hr,Oper.upon_skip]
  refine hK' _ _ (hK w' ?_)
  refine hS'.upd ?_
  rintro _ ⟨gy,gf,rfl,hy2,hv2⟩ hnd2
  rcases hv2 with ⟨h,_⟩ | ⟨g',cap',cur',ccs,f2,h,hg',h1,h2,h3,h4,h5,rfl⟩
  ·simp at h
  ·simp at h
   obtain ⟨rfl,rfl,rfl⟩:=h
   obtain ⟨rfl⟩:cur'=cur:=by rw [hh] at hg';simpa using hg'.symm
   obtain ⟨fl,fk,fr,rfl,h6⟩:=jQ h5 k hk hy2
   have hoth:∀ x,x≠g→x<w.heap.size→w'.heap[x]? = w.heap[x]?:=fun x hx hlt=>hc.block x hlt (by simpa using hx)
   have hnd3:(gy++g :: (fl++fk++fr)).Nodup:=hnd2
   simp only [List.nodup_append,List.nodup_cons,List.mem_append,List.mem_cons] at hnd3
   have hgn:g∉fl++gy++fr:=by
    simp only [List.mem_append,not_or]
    refine ⟨⟨fun hm=>hnd3.2.1.1 (.inl (.inl hm)),fun hm=>hnd3.2.2 g hm g (.inl rfl) rfl⟩,fun hm=>hnd3.2.1.1 (.inr hm)⟩
   refine ⟨g :: (fl++gy++fr),.inr ⟨g,cap,_,ccs.take (k*R.sz)++ec++ccs.drop (k*R.sz+R.sz),fl++gy++fr,by simp,hnew,by simpa using h1,h2,?_,?_,dM h6 (fun b hb=>hoth b (fun e=>hgn (e ▸ hb)) ?_),rfl⟩,?_,hc.mono (by simp),?_⟩
   ·simp only [List.size_toArray,List.length_append,List.length_take,List.length_drop,Array.length_toList]
    rw [hoff,← hn]
    omega
   ·have hcl:ccs.length=xs.length*R.sz:=ek (dI h5)
    rw [← h4,hoff,← hn,hel,List.length_set]
    exact j8 _ _ _ _ _ hkk (by simpa using hcs) hel
   ·exact eC h6 b hb
   ·refine List.nodup_cons.2 ⟨hgn,?_⟩
    have hs:(gy++(fl++fr)).Nodup:=List.Nodup.sublist (List.Sublist.append (List.Sublist.refl gy) (List.Sublist.cons g (List.Sublist.append (List.sublist_append_left fl fk) (List.Sublist.refl fr)))) hnd2
    rw [← List.append_assoc] at hs
    exact (List.Perm.append_right fr List.perm_append_comm).nodup_iff.1 hs
   ·intro b hb
    refine .inl ?_
    simp only [List.mem_cons,List.mem_append] at hb ⊢
    rcases hb with h | (h | h) | h <;> simp [h]

theorem iu {t e:TypeId} [ht:SliceT P t e] {z:List Value} {n bytes:Nat} [hz:ElemT P e z n bytes] {v:Value} {cs:List Value} (hcs:v.cells=cs.toArray) (hl:cs.length=n) (hpos:0<n) (hzl:z.length=n) (hn:n≤16) :
  (Instr.buildSlice t 1 #[(0,v)]).run P w=.ok (.slice (some ⟨w.heap.size,0,none⟩) 1 1) (w.alloc (.cells cs.toArray e)):=by
 have hz:=hz.h
 cases hi:P.info? e with
 | none=>simp [hi] at hz
 | some i =>
 cases hzz:i.zero with
 | none=>simp [hi,hzz] at hz
 | some zv =>
 simp [hi,hzz] at hz
 obtain ⟨hz1,hz2,hz3⟩:=hz
 have h24:¬ (n > 2 ^ 24):=by omega
 have hn0:¬ (n=0):=by omega
 have hfill:Instr.fill (fun i=>some (i*n,n)) ((Array.range n).map (zv.cells[· % zv.cells.size]!)) [(0,v)]=some cs.toArray:=by
  have hsz:((Array.range n).map (zv.cells[· % zv.cells.size]!)).size=n:=by simp
  have hfold:∀ (l:List Value) (pre:List Value) (A:Array Value),A.size=pre.length+l.length→A.toList.take pre.length=pre →
    ((l.zipIdx pre.length).foldl (fun A (c:Value × Nat)=>A.setIfInBounds c.2 c.1) A).toList=pre++l:=by
   intro l
   induction l with
   | nil=>intro pre A h1 h2;simp;rw [← h2,List.take_of_length_le (by simp at h1 ⊢;omega)]
   | cons x l ih =>
    intro pre A h1 h2
    simp only [List.zipIdx_cons,List.foldl_cons]
    have:=ih (pre++[x]) (A.setIfInBounds pre.length x) (by simp at h1 ⊢;omega) (by
     simp only [Array.toList_setIfInBounds,List.length_append,List.length_singleton]
     rw [List.take_set,List.take_succ_eq_append_getElem (by simp at h1 ⊢;omega),h2,List.set_append_right _ _ (Nat.le_refl _)]
     simp)
    simpa using this
  have h0:=hfold cs [] ((Array.range n).map (zv.cells[· % zv.cells.size]!)) (by simp [hl]) (by simp)
  simp only [Instr.fill,hcs,List.size_toArray,hl,hsz,Nat.zero_mul,Nat.zero_add,ne_eq,not_true_eq_false,decide_false,Bool.false_or,gt_iff_lt,Nat.lt_irrefl,Bool.false_eq_true,if_false]
  congr 1
  apply Array.ext'
  simpa using h0
 simp [Instr.buildSlice,run_underlying ht.h,sizeOf,typeInfo,hi,hz2,h24,hn0,zeroValue,hzz,hfill,newRow]

theorem it (hg:o.guard=none) {t e:TypeId} {x:Operand} (ho:o.op=.buildSlice t 1 #[(0,x)]) [SliceT P t e] {z:List Value} {n bytes:Nat} [ElemT P e z n bytes] {cs:List Value} (hcs:(a.eval x).cells=cs.toArray) (hl:cs.length=n) (hpos:0<n) (hzl:z.length=n) (hn:n≤16)
  (hS:Sat w0 w Γ) (hK:∀ w' b,Sat w0 w' (Box b e cs :: Γ)→Ext w w'→wpList P ops Q rest (a.put o.dst (.slice (some ⟨b,0,none⟩) 1 1)) w'):wpList P ops Q (o :: rest) a w:=by
 refine wpList_plain hg fun K hK'=>?_
 have hr:=iu (P:=P) (w:=w) (t:=t) (e:=e) hcs hl hpos hzl hn
 unfold Oper.wp execOp
 simp only [ho,List.map_toArray,List.map_cons,List.map_nil,hr,Sem.run_bind,Sem.run_pure,Result.andThen_ok,Oper.upon_value]
 exact hK' _ _ (hK _ _ (hS.box e cs) (dO _ _))

theorem ik (R:Rep α) (hg:o.guard=none) {t:TypeId} (ho:o.op=.buildSlice t 0 #[]) [ht:SliceT P t E] {z:List Value} {n bytes:Nat} [hz:ElemT P E z n bytes]
  (hS:Sat w0 w Γ) (hK:∀ w' b,Sat w0 w' (Own (aj R E) [.slice (some ⟨b,0,none⟩) 0 0] [] :: Γ)→Ext w w'→wpList P ops Q rest (a.put o.dst (.slice (some ⟨b,0,none⟩) 0 0)) w'):wpList P ops Q (o :: rest) a w:=by
 refine wpList_plain hg fun K hK'=>?_
 have hz:=hz.h
 cases hi:P.info? E with
 | none=>simp [hi] at hz
 | some i =>
 have hr:(Instr.buildSlice t 0 #[]).run P w=.ok (.slice (some ⟨w.heap.size,0,none⟩) 0 0) (w.alloc (.cells #[] E)):=by
  simp [Instr.buildSlice,run_underlying ht.h,sizeOf,typeInfo,hi,Instr.fill,newRow,Array.range_zero']
 unfold Oper.wp execOp
 simp only [ho,List.map_toArray,List.map_nil,hr,Sem.run_bind,Sem.run_pure,Result.andThen_ok,Oper.upon_value]
 have hB:=hS.box E []
 refine hK' _ _ (hK _ _ (hB.conv (B:=Own (aj R E) [.slice (some ⟨w.heap.size,0,none⟩) 0 0] []) fun f hf=>?_) (dO _ _))
 obtain ⟨rfl,hf⟩:=hf
 exact .inr ⟨w.heap.size,0,#[],[],[],rfl,hf,Nat.le_refl _,Nat.zero_le _,by simp,by simp,⟨rfl,rfl⟩,rfl⟩

theorem Sat.one {ec:List Value} {y:α} (h:Sat w0 w (Own R ec y :: Γ)):Sat w0 w (iQ R ec [y] :: Γ) :=
 h.conv fun f hf=>⟨ec,[],f,[],by simp,by simp,hf,rfl,rfl⟩
theorem Sat.int (h:Sat w0 w Γ) (n:Int):Sat w0 w (Own cK [.int .i64 n] n :: Γ):=h.add ⟨rfl,rfl⟩
theorem Sat.pair {α β:Type} {R:Rep α} {S:Rep β} {c d:List Value} {x:α} {y:β} (h:Sat w0 w (Own R c x :: Own S d y :: Γ)):Sat w0 w (Own (mv R S) (c++d) (x,y) :: Γ) :=
 h.join fun f g h1 h2=>⟨c,d,f,g,rfl,rfl,h1,h2⟩
theorem Sat.ints {xs:List Int} (h:Sat w0 w Γ):Sat w0 w (iQ cK (xs.map (Value.int .i64)) xs :: Γ):=by
 refine h.add ?_
 induction xs with
 | nil=>exact ⟨rfl,rfl⟩
 | cons x xs ih=>exact ⟨[.int .i64 x],_,[],[],rfl,rfl,⟨rfl,rfl⟩,ih⟩
end laws2
end Go.Proofs.Ytcpkiphiaebkmaa
namespace Go.Proofs.Ytcpkiphiaebkmaa
open Go.RowKit

abbrev Env:=Nat→Value
def upd (e:Env) (d:Nat) (v:Value):Env:=fun t=>bif Nat.beq t d then v else e t
def ev (e:Env):Operand→Value
 | .tmp t=>e t
 | .const v=>v
 | .global g=>.pointer (some ⟨g,0,none⟩)
 | .func f=>.func (.func f) #[] #[]
theorem fM {a b:Nat} (h:¬ a=b):Nat.beq a b=false:=by
 cases hb:Nat.beq a b
 ·rfl
 ·exact absurd (Nat.eq_of_beq_eq_true hb) h
structure Mt (n:Nat) (e:Env) (a:Act):Prop where
 size:a.tmps.size=n
 defers:a.defers=[]
 get:∀ t,a.tmps.getD t undef=e t
theorem Mt.eval {n:Nat} {e:Env} {a:Act} (h:Mt n e a):a.eval=ev e:=by
 funext x
 cases x <;> simp only [Act.eval,ev]
 exact h.get _
theorem Mt.put {n:Nat} {e:Env} {a:Act} (h:Mt n e a) {d:Nat} (hd:d<n) (v:Value):Mt n (upd e d v) (a.put (some d) v):=by
 refine ⟨by simp [Act.put,h.size],by simpa [Act.put] using h.defers,fun t=>?_⟩
 have hg:=h.get t
 have hs:=h.size
 simp only [Act.put,upd]
 by_cases ht:t=d
 ·subst ht
  simp [Array.getD,hs,hd]
 ·have:Nat.beq t d=false:=fM ht
  rw [this]
  simp only [cond_false,← hg,Array.getD,Array.size_setIfInBounds]
  split
  ·rename_i hlt
   have:=Array.getElem_setIfInBounds (xs:=a.tmps) (i:=d) (a:=v) (j:=t) (by simpa using hlt)
   rw [if_neg (fun e=>ht e.symm)] at this
   exact this
  ·rfl
theorem mt {e:Env} {d:Nat} {v:Value} (h:e d=v):upd e d v=e:=by
 funext t
 unfold upd
 by_cases ht:t=d
 ·subst ht;simp [h]
 ·have:Nat.beq t d=false:=fM ht
  rw [this];rfl
theorem keep {e e':Env} {d:Nat} {v:Value} (h:e' d=v) (h2:e=e'):e=upd e' d v:=by rw [mt h,h2]
def PV (P:Program) (o:Oper) (e:Env) (w:World) (v:Value):Prop:=∀ w',Ext w w'→(execOp (ev e) o).run P w'=.ok (.value v) w'
theorem PV.ext {P:Program} {o:Oper} {e:Env} {w w1:World} {v:Value} (h:PV P o e w v) (hx:Ext w w1):PV P o e w1 v:=fun w' h'=>h w' (hx.trans h')

def nrm (n:Nat) (K:Env→World→Prop):Exit→Act→World→Prop:=fun x a w=>x=.normal∧∃ e,Mt n e a∧K e w
def EL (P:Program) (n:Nat) (ops:Array Oper) (K:Env→World→Prop) (rest:List Oper) (e:Env) (w:World):Prop:=∀ a,Mt n e a→wpList P ops (nrm n K) rest a w
def QL (P:Program) (n:Nat) (ops:Array Oper) (w:World) (K:Env→Prop) (rest:List Oper) (e:Env):Prop:=∀ a,Mt n e a→wpQuiet P ops (fun w'=>Ext w w') (fun a'=>∃ e',Mt n e' a'∧K e') rest a

structure Goes (P:Program) (f:FuncId):Prop where
 h:∃ fn,P.funcs[f]? = some fn∧(fn.name == "runtime.NumGoroutine")=false∧fn.body.isNone=false
theorem Goes.run {P:Program} {f:FuncId} (h:Goes P f) (args:Array Value) (w:World):(callFunc f args).run P w=.ok (.enter f args) w:=by
 obtain ⟨fn,h1,h2,h3⟩:=h.h
 simp only [callFunc,Sem.run_bind,run_program,Result.andThen_ok,h1,h2,h3,Bool.false_eq_true,if_false]
 rfl

section
variable {P:Program} {n:Nat} {ops:Array Oper} {K:Env→World→Prop} {KQ:Env→Prop} {rest:List Oper} {e:Env} {w w0:World} {v:Value} {d:Nat} {op:Op} {ty:TypeId} {pos:String} {af:Array Edge} {Γ rΓ:List Asn}

theorem ag (h:K e w):EL P n ops K [] e w:=fun _ ha=>⟨rfl,e,ha,h⟩
theorem bf (h:KQ e):QL P n ops w KQ [] e:=fun _ ha=>⟨e,ha,h⟩
theorem gR (hp:PV P ⟨some d,op,ty,pos,af,none⟩ e w v) (hd:d<n) (hK:EL P n ops K rest (upd e d v) w):EL P n ops K (⟨some d,op,ty,pos,af,none⟩ :: rest) e w:=by
 intro a ha
 refine wpList_plain rfl fun K' hK'=>?_
 unfold Oper.wp
 rw [ha.eval,hp w (Ext.refl w)]
 exact hK' _ _ (hK _ (ha.put hd v))
theorem jg (hp:PV P ⟨some d,op,ty,pos,af,none⟩ e w v) (hd:d<n) (hK:QL P n ops w KQ rest (upd e d v)):QL P n ops w KQ (⟨some d,op,ty,pos,af,none⟩ :: rest) e:=by
 intro a ha
 unfold wpQuiet
 rw [if_pos (by rfl)]
 refine ⟨v,fun w' hw'=>?_,hK _ (ha.put hd v)⟩
 unfold Oper.quietAt
 rw [ha.eval,hp w' hw']
 exact ⟨rfl,rfl⟩
theorem aR {f:FuncId} {args:Array Operand} {tys:Array TypeId} {vals:Array Value} {R:Ending→World→Prop} (hg:Goes P f) (hc:Calls P f vals w R) (hv:(args.toList.map (ev e)).toArray=vals) (hd:d<n)
  (hK:∀ x w',R x w'→∃ v,x=.returned v∧EL P n ops K rest (upd e d v) w'):EL P n ops K (⟨some d,.call ⟨.value (.func f),args,tys⟩,ty,pos,af,none⟩ :: rest) e w:=by
 intro a ha
 refine wpList_plain rfl fun K' hK'=>?_
 unfold Oper.wp execOp
 have he:args.map (ev e)=vals:=by rw [← hv];apply Array.ext';simp
 simp only [ha.eval,resolve,ev,Deferred.ofValue,Sem.run_bind,Sem.run_pure,Result.andThen_ok,Array.empty_append,Array.append_empty,he,invoke,hg.run,Oper.upon_enter]
 refine hc.mono fun x w' hx=>?_
 obtain ⟨v,rfl,h⟩:=hK x w' hx
 exact hK' _ _ (h _ (ha.put hd v))
theorem b6 {f:FuncId} {args:Array Operand} {tys:Array TypeId} {vals:Array Value} (v:Value) (hg:Goes P f)
  (hc:∀ w',Ext w w'→Calls P f vals w' fun x w''=>x=.returned v∧Ext w' w'') (hv:(args.toList.map (ev e)).toArray=vals) (hd:d<n)
  (hK:QL P n ops w KQ rest (upd e d v)):QL P n ops w KQ (⟨some d,.call ⟨.value (.func f),args,tys⟩,ty,pos,af,none⟩ :: rest) e:=by
 intro a ha
 unfold wpQuiet
 rw [if_pos (by rfl)]
 refine ⟨v,fun w' hw'=>?_,hK _ (ha.put hd v)⟩
 unfold Oper.quietAt execOp
 have he:args.map (ev e)=vals:=by rw [← hv];apply Array.ext';simp
 simp only [ha.eval,resolve,ev,Deferred.ofValue,Sem.run_bind,Sem.run_pure,Result.andThen_ok,Array.empty_append,Array.append_empty,he,invoke,hg.run]
 exact ⟨rfl,(hc w' hw').mono fun x w'' ⟨h1,h2⟩=>⟨h1,hw'.trans h2⟩⟩
def yld (ops:Array Oper) (e:Env) (j:Nat):Option Bool :=
 match (ops[j]?).bind (·.dst) with
 | some t=>match e t with | .bool b=>some b | _=>none
 | none=>none
theorem e9 {a:Act} (ha:Mt n e a) {j:Nat} {b:Bool} (h:yld ops e j=some b):yielded ops a.tmps j=some b:=by
 unfold yld at h
 unfold yielded
 cases hj:(ops[j]?).bind (·.dst) with
 | none=>simp [hj] at h
 | some t =>
  simp only [hj] at h
  have hg:=ha.get t
  simp only [Option.bind_some]
  cases hv:e t with
  | bool c =>
   rw [hv] at h hg
   simp only [Option.some.injEq] at h
   subst h
   unfold Array.getD at hg
   split at hg
   ·rename_i hlt
    rw [Array.getElem?_eq_getElem hlt]
    have:a.tmps[t]=.bool c:=hg
    rw [this]
   ·simp [undef] at hg
  | _=>simp [hv] at h
theorem gv {a:Act} (ha:Mt n e a) {j:Nat} (h:(match (ops[j]?).bind (·.dst) with | some t=>e t | none=>undef)=undef):yielded ops a.tmps j=none:=by
 unfold yielded
 cases hj:(ops[j]?).bind (·.dst) with
 | none=>rfl
 | some t =>
  simp only [hj] at h
  have hg:=ha.get t
  rw [h] at hg
  simp only [Option.bind_some]
  cases hv:a.tmps[t]? with
  | none=>rfl
  | some v =>
   have:a.tmps.getD t undef=v:=by
    obtain ⟨h1,h2⟩:=Array.getElem?_eq_some_iff.1 hv
    simp [Array.getD,h1,h2]
   rw [this] at hg
   subst hg
   rfl
theorem nW {j:Nat} {b c:Bool} {dst:Option Nat} (h:yld ops e j=some c) (hc:c=b) (hK:EL P n ops K (⟨dst,op,ty,pos,af,none⟩ :: rest) e w):EL P n ops K (⟨dst,op,ty,pos,af,some (j,b)⟩ :: rest) e w:=by
 subst hc
 intro a ha
 have:=hK a ha
 unfold wpList at this ⊢
 rw [if_pos (by simp [Region.wanted])] at this
 rw [if_pos (by simp [Region.wanted,e9 ha h])]
 exact this
theorem na {j:Nat} {b b' c:Bool} {d:Nat} (h:yld ops e j=some c) (hc:c=b) (hb:(b == b')=false) (hd:d<n) (hK:EL P n ops K rest (upd e d undef) w):EL P n ops K (⟨some d,op,ty,pos,af,some (j,b')⟩ :: rest) e w:=by
 subst hc
 intro a ha
 unfold wpList
 rw [if_neg (by simp [Region.wanted,e9 ha h];simpa using hb)]
 exact hK _ (ha.put hd _)
theorem nR {j:Nat} {b c:Bool} {dst:Option Nat} (h:yld ops e j=some c) (hc:c=b) (hK:QL P n ops w KQ (⟨dst,op,ty,pos,af,none⟩ :: rest) e):QL P n ops w KQ (⟨dst,op,ty,pos,af,some (j,b)⟩ :: rest) e:=by
 subst hc
 intro a ha
 have:=hK a ha
 unfold wpQuiet at this ⊢
 rw [if_pos (by simp [Region.wanted])] at this
 rw [if_pos (by simp [Region.wanted,e9 ha h])]
 exact this
theorem nr {j:Nat} {b b' c:Bool} {d:Nat} (h:yld ops e j=some c) (hc:c=b) (hb:(b == b')=false) (hd:d<n) (hK:QL P n ops w KQ rest (upd e d undef)):QL P n ops w KQ (⟨some d,op,ty,pos,af,some (j,b')⟩ :: rest) e:=by
 subst hc
 intro a ha
 unfold wpQuiet
 rw [if_neg (by simp [Region.wanted,e9 ha h];simpa using hb)]
 exact hK _ (ha.put hd _)
end

def Lf (n:Nat) (Q:Exit→Env→World→Prop):Exit→Act→World→Prop:=fun x a w=>∃ e,Mt n e a∧Q x e w
def CW (P:Program) (n:Nat) (c:Code) (Q:Exit→Env→World→Prop) (e:Env) (w:World):Prop:=∀ a,Mt n e a→c.wp P (Lf n Q) a w
def thn (K:Env→World→Prop) (Q:Exit→Env→World→Prop):Exit→Env→World→Prop
 | .normal,e,w=>K e w
 | x,e,w=>Q x e w
def inb (id:Nat) (Q:Exit→Env→World→Prop):Exit→Env→World→Prop
 | .exit id',e,w=>bif Nat.beq id' id then Q .normal e w else Q (.exit id') e w
 | x,e,w=>Q x e w
section
variable {P:Program} {n:Nat} {Q:Exit→Env→World→Prop} {K:Env→World→Prop} {e:Env} {w:World} {c x y:Code}
theorem ip (h:∀ Q',(∀ x e w,Q x e w→Q' x e w)→CW P n c Q' e w):CW P n c Q e w:=h Q fun _ _ _ h=>h
theorem nT {i:Nat} (h:Q .normal e w):inb i Q (.exit i) e w:=by
 have:Nat.beq i i=true:=by simp
 show (bif Nat.beq i i then _ else _)
 rw [this];exact h
theorem lD (h:CW P n x (thn (fun e w=>CW P n y Q e w) Q) e w):CW P n (.seq x y) Q e w:=by
 intro a ha
 refine wp_seq (wp_mono (h a ha) ?_)
 rintro x' a' w' ⟨e',he',hq⟩
 cases x' with
 | normal=>exact hq a' he'
 | _=>exact ⟨e',he',hq⟩
theorem aZ (h:Q .normal e w):CW P n .skip Q e w:=fun _ ha=>wp_skip ⟨e,ha,h⟩
theorem aT {i:Nat} (h:Q (.exit i) e w):CW P n (.exit i) Q e w:=fun _ ha=>wp_exit ⟨e,ha,h⟩
theorem ai (h:Q .ret e w):CW P n .ret Q e w:=fun _ ha=>wp_ret ⟨e,ha,h⟩
theorem k8 {o:Operand} {b:Bool} (hc:ev e o=.bool b) (hb:b=true) (h:CW P n x Q e w):CW P n (.cond o x y) Q e w :=
 fun a ha=>wp_cond_true (by rw [ha.eval,hc,hb]) (h a ha)
theorem lk {o:Operand} {b:Bool} (hc:ev e o=.bool b) (hb:b=false) (h:CW P n y Q e w):CW P n (.cond o x y) Q e w :=
 fun a ha=>wp_cond_false (by rw [ha.eval,hc,hb]) (h a ha)
theorem l8 {i:Nat} (h:CW P n c (inb i Q) e w):CW P n (.block i c) Q e w:=by
 intro a ha
 refine wp_block (wp_mono (h a ha) ?_)
 rintro x' a' w' ⟨e',he',hq⟩
 cases x' with
 | exit id' =>
  by_cases hi:id'=i
  ·subst hi
   have:Nat.beq id' id'=true:=by simp
   have hq':(bif Nat.beq id' id' then Q .normal e' w' else Q (.exit id') e' w'):=hq
   rw [this] at hq'
   simp only [Exit.inBlock,if_true]
   exact ⟨e',he',hq'⟩
  ·have:Nat.beq id' i=false:=fM hi
   have hq':(bif Nat.beq id' i then Q .normal e' w' else Q (.exit id') e' w'):=hq
   rw [this] at hq'
   simp only [Exit.inBlock,hi,if_false]
   exact ⟨e',he',hq'⟩
 | _=>exact ⟨e',he',hq⟩
theorem am {id:Nat} {l:List Oper} (h:EL P n l.toArray (fun e w=>Q .normal e w) l e w):CW P n (.region id l.toArray false) Q e w:=by
 intro a ha
 refine wp_mono (wp_region_lit (h a ha)) ?_
 rintro x a w ⟨rfl,e,he,hk⟩
 exact ⟨e,he,hk⟩
theorem bA {id:Nat} {l:List Oper} (hm:P.follows .mixedOrders=true) (hB:Region.lexB .any l.toArray=true) (h:QL P n l.toArray w (fun e=>∀ w',Ext w w'→Q .normal e w') l e):CW P n (.region id l.toArray true) Q e w:=by
 intro a ha
 refine wp_region_quiet (C:=fun w'=>Ext w w') hm hB ⟨rfl,rfl,rfl,Nat.le_refl _,fun _ _=>rfl⟩ ?_
 have:=h a ha
 have key:∀ (r:List Oper) (a:Act),wpQuiet P l.toArray (fun w'=>Ext w w') (fun a'=>∃ e',Mt n e' a'∧∀ w',Ext w w'→Q .normal e' w') r a→wpQuiet P l.toArray (fun w'=>Ext w w') (fun a'=>∀ w',Ext w w'→Lf n Q .normal a' w') r a:=by
  intro r
  induction r with
  | nil=>rintro a ⟨e',h1,h2⟩ w' hw';exact ⟨e',h1,h2 w' hw'⟩
  | cons o r ih =>
   intro a h
   unfold wpQuiet at h ⊢
   split
   ·rename_i hw
    rw [if_pos hw] at h
    exact Oper.quiet_mono ih h
   ·rename_i hw
    rw [if_neg hw] at h
    exact ih _ h
 exact key _ _ this
theorem m6 (I:Nat→Env→World→Prop) (k0:Nat) (h0:I k0 e w)
  (hr:∀ k e w,I k e w→CW P n c (thn (fun e w=>∃ k',k'<k∧I k' e w) Q) e w):CW P n (.loop c) Q e w:=by
 intro a ha
 refine wp_loop_ghost (fun k a w=>∃ e,Mt n e a∧I k e w) k0 ⟨e,ha,h0⟩ ?_
 rintro k a w ⟨e,he,hI⟩
 refine wp_mono (hr k e w hI a he) ?_
 rintro x' a' w' ⟨e',he',hq⟩
 cases x' with
 | normal =>
  obtain ⟨k',hk',hI'⟩:=hq
  exact ⟨k',hk',e',he',hI'⟩
 | _=>exact ⟨e',he',hq⟩
theorem aV (I:Nat→Env→World→Prop) (k0:Nat) (h0:I k0 e w) (hz:∀ e w,¬ I 0 e w)
  (hr:∀ k e w,I (k+1) e w→CW P n c (thn (fun e w=>I k e w) Q) e w):CW P n (.loop c) Q e w:=by
 refine m6 I k0 h0 ?_
 intro k e w hI
 cases k with
 | zero=>exact absurd hI (hz e w)
 | succ k =>
  intro a ha
  refine wp_mono (hr k e w hI a ha) ?_
  rintro x' a' w' ⟨e',he',hq⟩
  cases x' with
  | normal=>exact ⟨e',he',k,Nat.lt_succ_self k,hq⟩
  | _=>exact ⟨e',he',hq⟩
end

def Fin (P:Program) (fn:Func) (n:Nat) (R:Ending→World→Prop):Exit→Env→World→Prop
 | .normal,e,w=>∃ v,(∀ a,Mt n e a→(results fn a.tmps).run P w=.ok v w)∧R (.returned v) w
 | .ret,e,w=>∃ v,(∀ a,Mt n e a→(results fn a.tmps).run P w=.ok v w)∧R (.returned v) w
 | _,_,_=>False
def iD:List Value→Nat→Env
 | [],_=>fun _=>undef
 | v :: l,k=>upd (iD l (k+1)) k v
theorem iZ:∀ (l:List Value) (k t:Nat),iD l k t=if k≤t then l.getD (t-k) undef else undef
 | [],k,t=>by simp [iD]
 | v :: l,k,t=>by
  unfold iD upd
  by_cases h:t=k
  ·subst h;simp
  ·have hb:Nat.beq t k=false:=fM h
   rw [hb,cond_false,iZ l (k+1) t]
   by_cases hk:k+1≤t
   ·rw [if_pos hk,if_pos (by omega),show t-k=(t-(k+1))+1 by omega]
    simp
   ·rw [if_neg hk]
    by_cases hk2:k≤t
    ·omega
    ·rw [if_neg hk2]
theorem aI {P:Program} {f:FuncId} {fn:Func} {c:Code} {l:List Value} {w:World} {R:Ending→World→Prop} (hf:P.funcs[f]? = some fn) (hb:fn.body=some c) {n:Nat} (hn:fn.ntmps=n) (hl:l.length≤n)
  (h:CW P n c (Fin P fn n R) (iD l 0) w):Calls P f l.toArray w R:=by
 refine calls_of_wp hf hb (wp_mono (h _ ?_) ?_)
 ·refine ⟨by simp;omega,rfl,fun t=>?_⟩
  rw [iZ]
  simp only [Nat.zero_le,if_true,Nat.sub_zero,Array.getD,Array.size_append,List.size_toArray,Array.size_replicate]
  by_cases h1:t<l.length
  ·rw [dif_pos (by omega)]
   simp [h1]
  ·have h2:l.getD t undef=undef:=by simp [h1]
   rw [h2]
   split
   ·rename_i h3
    have:=Array.getElem_append_right (xs:=l.toArray) (ys:=Array.replicate (fn.ntmps-l.length) undef) (i:=t) (by simpa using h1) (h:=by simpa using h3)
    simpa using this
   ·rfl
 ·rintro x a w' ⟨e,he,hq⟩
  cases x with
  | normal=>obtain ⟨v,h1,h2⟩:=hq;exact bodyPost_end (h1 a he) he.defers h2
  | ret=>obtain ⟨v,h1,h2⟩:=hq;exact bodyPost_ret (h1 a he) he.defers h2
  | _=>exact hq.elim
end Go.Proofs.Ytcpkiphiaebkmaa
namespace Go.Proofs.Ytcpkiphiaebkmaa
open Go.RowKit

def rng (n:Int):Bool:=decide (-9223372036854775808≤n)&&decide (n≤9223372036854775807)
def ad (a b:Int):Option Int:=if rng (a+b) then some (a+b) else none
def sb (a b:Int):Option Int:=if rng (a-b) then some (a-b) else none
def ml (a b:Int):Option Int:=if rng (a*b) then some (a*b) else none
def qt (a b:Int):Option Int:=if b≠0∧rng (a.tdiv b) then some (a.tdiv b) else none
def rm (a b:Int):Option Int:=if b≠0 then some (a.tmod b) else none
def ix {α:Type} (xs:List α) (i:Int):Option α:=if 0≤i then xs[i.toNat]? else none
def slc {α:Type} (xs:List α) (lo hi:Int):Option (List α):=if 0≤lo∧lo≤hi∧hi≤xs.length then some ((xs.take hi.toNat).drop lo.toNat) else none
def apd {α:Type} (bytes:Nat) (xs ys:List α):Option (List α):=if (xs.length+ys.length)*bytes≤140737488355328 then some (xs++ys) else none
def mk {α:Type} (bytes:Nat) (z:α) (n:Int):Option (List α):=if 0≤n∧n.toNat*bytes≤281474976710656∧n.toNat≤140737488355328 then some (List.replicate n.toNat z) else none
def sto {α:Type} (xs:List α) (i:Int) (y:α):Option (List α):=if 0≤i∧i.toNat<xs.length then some (xs.set i.toNat y) else none

theorem ob {α β:Type} {o:Option α} {f:α→Option β} {r:β} (h:o.bind f=some r):∃ x,o=some x∧f x=some r:=Option.bind_eq_some_iff.1 h
theorem oif {α:Type} {c:Bool} {x y:Option α} {r:α} (h:(bif c then x else y)=some r):(c=true∧x=some r)∨(c=false∧y=some r):=by
 cases c
 ·exact .inr ⟨rfl,h⟩
 ·exact .inl ⟨rfl,h⟩
theorem eg {n:Int} (h:rng n=true):IntKind.i64.wrap n=n:=by
 simp only [rng,Bool.and_eq_true,decide_eq_true_eq] at h
 exact IntWalk.i64_in n h
theorem mV {a b c:Int} (h:ad a b=some c):rng (a+b)=true∧c=a+b:=by
 unfold ad at h;split at h
 ·exact ⟨by assumption,by simpa using h.symm⟩
 ·cases h
theorem mX {a b c:Int} (h:sb a b=some c):rng (a-b)=true∧c=a-b:=by
 unfold sb at h;split at h
 ·exact ⟨by assumption,by simpa using h.symm⟩
 ·cases h
theorem mT {a b c:Int} (h:ml a b=some c):rng (a*b)=true∧c=a*b:=by
 unfold ml at h;split at h
 ·exact ⟨by assumption,by simpa using h.symm⟩
 ·cases h
theorem fd {α:Type} {xs:List α} {i:Int} {x:α} (h:ix xs i=some x):∃ k:Nat,i=(k:Int)∧∃ h:k<xs.length,xs[k]=x:=by
 unfold ix at h
 split at h
 ·rename_i h0
  obtain ⟨h1,h2⟩:=List.getElem?_eq_some_iff.1 h
  exact ⟨i.toNat,by omega,h1,h2⟩
 ·cases h

section
variable {P:Program} {e:Env} {w w0:World} {d:Option Nat} {ty:TypeId} {pos:String} {af:Array Edge} {x y z:Operand} {Γ rΓ:List Asn}

theorem aF {v:Value} (hx:ev e x=v):PV P ⟨d,.move x,ty,pos,af,none⟩ e w v:=fun w' _=>by
 unfold execOp;simp only [hx];rfl
theorem cm {v:Value} (hx:ev e x=v):PV P ⟨d,.assign x,ty,pos,af,none⟩ e w v:=fun w' _=>by
 unfold execOp;simp only [hx];rfl
theorem aw {b:Bool} {v:Value} (hx:ev e x=.bool b) (hb:b=true) (hy:ev e y=v):PV P ⟨d,.pick x y z,ty,pos,af,none⟩ e w v:=fun w' _=>by
 unfold execOp;subst hb;simp [hx,hy,asBool]
theorem az {b:Bool} {v:Value} (hx:ev e x=.bool b) (hb:b=false) (hz:ev e z=v):PV P ⟨d,.pick x y z,ty,pos,af,none⟩ e w v:=fun w' _=>by
 unfold execOp;subst hb;simp [hx,hz,asBool]
theorem bP {t:TypeId} {b:Bool} (hx:ev e x=.bool b):PV P ⟨d,.unOp .not t x,ty,pos,af,none⟩ e w (.bool (!b)):=fun w' _=>by
 unfold execOp;simp [hx,Op.unary]
section
variable {t u:TypeId} {a b c:Int}
theorem aS (hx:ev e x=.int .i64 a) (hy:ev e y=.int .i64 b) (h:ad a b=some c):PV P ⟨d,.binOp .add t x y u,ty,pos,af,none⟩ e w (.int .i64 c):=fun w' _=>by
 obtain ⟨h1,rfl⟩:=mV h
 unfold execOp;simp [hx,hy,eqGuard,binOp,Op.intArith,eg h1]
theorem cd (hx:ev e x=.int .i64 a) (hy:ev e y=.int .i64 b) (h:sb a b=some c):PV P ⟨d,.binOp .sub t x y u,ty,pos,af,none⟩ e w (.int .i64 c):=fun w' _=>by
 obtain ⟨h1,rfl⟩:=mX h
 unfold execOp;simp [hx,hy,eqGuard,binOp,Op.intArith,eg h1]
theorem ic (hx:ev e x=.int .i64 a) (hy:ev e y=.int .i64 b) (h:ml a b=some c):PV P ⟨d,.binOp .mul t x y u,ty,pos,af,none⟩ e w (.int .i64 c):=fun w' _=>by
 obtain ⟨h1,rfl⟩:=mT h
 unfold execOp;simp [hx,hy,eqGuard,binOp,Op.intArith,eg h1]
theorem nj (hx:ev e x=.int .i64 a) (hy:ev e y=.int .i64 b) (h:qt a b=some c):PV P ⟨d,.binOp .quo t x y u,ty,pos,af,none⟩ e w (.int .i64 c):=fun w' _=>by
 unfold qt at h;split at h
 ·rename_i h1
  obtain rfl:=Option.some.inj h
  unfold execOp;simp [hx,hy,eqGuard,binOp,Op.intDiv,h1.1,eg h1.2]
 ·cases h
theorem lz (hx:ev e x=.int .i64 a) (hy:ev e y=.int .i64 b) (h:rm a b=some c):PV P ⟨d,.binOp .rem t x y u,ty,pos,af,none⟩ e w (.int .i64 c):=fun w' _=>by
 unfold rm at h;split at h
 ·rename_i h1
  obtain rfl:=Option.some.inj h
  unfold execOp;simp [hx,hy,eqGuard,binOp,Op.intDiv,h1]
 ·cases h
theorem iS {k:IntKind} (hx:ev e x=.int k a) (hy:ev e y=.int k b):PV P ⟨d,.binOp .add t x y u,ty,pos,af,none⟩ e w (.int k (k.wrap (a+b))):=fun w' _=>by
 unfold execOp;simp [hx,hy,eqGuard,binOp,Op.intArith]
theorem mR {k:IntKind} (hx:ev e x=.int k a) (hy:ev e y=.int k b):PV P ⟨d,.binOp .mul t x y u,ty,pos,af,none⟩ e w (.int k (k.wrap (a*b))):=fun w' _=>by
 unfold execOp;simp [hx,hy,eqGuard,binOp,Op.intArith]
theorem bB {k:IntKind} (hx:ev e x=.int k a) (hy:ev e y=.int k b):PV P ⟨d,.binOp .eql t x y u,ty,pos,af,none⟩ e w (.bool (a == b)):=fun w' _=>by
 unfold execOp;simp [hx,hy,eqGuard,binOp,Op.intCmp]
theorem bO {k:IntKind} (hx:ev e x=.int k a) (hy:ev e y=.int k b):PV P ⟨d,.binOp .neq t x y u,ty,pos,af,none⟩ e w (.bool (a != b)):=fun w' _=>by
 unfold execOp;simp [hx,hy,eqGuard,binOp,Op.intCmp]
theorem a8 {k:IntKind} (hx:ev e x=.int k a) (hy:ev e y=.int k b):PV P ⟨d,.binOp .lss t x y u,ty,pos,af,none⟩ e w (.bool (decide (a<b))):=fun w' _=>by
 unfold execOp;simp [hx,hy,eqGuard,binOp,Op.intCmp]
theorem gB {k:IntKind} (hx:ev e x=.int k a) (hy:ev e y=.int k b):PV P ⟨d,.binOp .leq t x y u,ty,pos,af,none⟩ e w (.bool (decide (a≤b))):=fun w' _=>by
 unfold execOp;simp [hx,hy,eqGuard,binOp,Op.intCmp]
theorem bD {k:IntKind} (hx:ev e x=.int k a) (hy:ev e y=.int k b):PV P ⟨d,.binOp .gtr t x y u,ty,pos,af,none⟩ e w (.bool (decide (b<a))):=fun w' _=>by
 unfold execOp;simp [hx,hy,eqGuard,binOp,Op.intCmp]
theorem fW {k:IntKind} (hx:ev e x=.int k a) (hy:ev e y=.int k b):PV P ⟨d,.binOp .geq t x y u,ty,pos,af,none⟩ e w (.bool (decide (b≤a))):=fun w' _=>by
 unfold execOp;simp [hx,hy,eqGuard,binOp,Op.intCmp]
end
def ltS (s r:ByteArray):Bool:=Op.bytesLess s.toList r.toList
theorem l9 (k:Nat) {t:TypeId} (ht:P.underlying t=some .bool) (a b:Bool) (w:World):(Op.equalIn (k+1) t (.bool a) (.bool b)).run P w=.ok (a == b) w:=by
 simp only [Op.equalIn,Sem.run_bind,run_underlying ht,Result.andThen_ok,Sem.run_pure]
theorem kg {t:TypeId} (ht:P.underlying t=some .bool) (a b:Bool) (w:World):(Op.equal t (.bool a) (.bool b)).run P w=.ok (a == b) w:=l9 9999 ht a b w
theorem mP {t u:TypeId} {a b:Bool} (ht:P.underlying t=some .bool) (hx:ev e x=.bool a) (hy:ev e y=.bool b):PV P ⟨d,.binOp .eql t x y u,ty,pos,af,none⟩ e w (.bool (a == b)):=fun w' _=>by
 have h1:(eqGuard .eql t x y (.bool a) (.bool b)).run P w'=.ok () w':=by simp [eqGuard]
 have h2:(binOp .eql t (.bool a) (.bool b)).run P w'=.ok (.bool (a == b)) w':=by
  show (do pure (.bool (← Op.equal t (.bool a) (.bool b))):Sem Value).run P w'=_
  simp only [Sem.run_bind,kg ht,Result.andThen_ok,Sem.run_pure]
 unfold execOp
 simp only [hx,hy,Sem.run_bind,h1,h2,Result.andThen_ok,Sem.run_pure]
theorem iP {t u:TypeId} {a b:Bool} (ht:P.underlying t=some .bool) (hx:ev e x=.bool a) (hy:ev e y=.bool b):PV P ⟨d,.binOp .neq t x y u,ty,pos,af,none⟩ e w (.bool (a != b)):=fun w' _=>by
 have h1:(eqGuard .neq t x y (.bool a) (.bool b)).run P w'=.ok () w':=by simp [eqGuard]
 have h2:(binOp .neq t (.bool a) (.bool b)).run P w'=.ok (.bool (a != b)) w':=by
  show (do pure (.bool (!(← Op.equal t (.bool a) (.bool b)))):Sem Value).run P w'=_
  simp only [Sem.run_bind,kg ht,Result.andThen_ok,Sem.run_pure]
  rfl
 unfold execOp
 simp only [hx,hy,Sem.run_bind,h1,h2,Result.andThen_ok,Sem.run_pure]
theorem cg {k:Nat} {vs:Array Value} {v:Value} (hx:ev e x=.tuple vs) (h:vs[k]? = some v):PV P ⟨d,.extract x k,ty,pos,af,none⟩ e w v:=fun w' _=>by
 unfold execOp;simp [hx,Instr.extract,h]
theorem jC {s t:TypeId} {k k2:IntKind} {a:Int} {u:TypeDesc} (hs:P.underlying s=some u) (ht:P.underlying t=some (.int k2)) (hx:ev e x=.int k a):PV P ⟨d,.convert s t x,ty,pos,af,none⟩ e w (.int k2 (k2.wrap a)):=fun w' _=>by
 unfold execOp;simp [hx,convert,run_underlying ht,run_underlying hs,Conv.intToInt]
def imn (a b:Int):Int:=if b<a then b else a
def imx (a b:Int):Int:=if a<b then b else a
theorem bu {p:Addr} (hx:ev e x=.pointer (some p)):PV P ⟨d,.nilCheck x,ty,pos,af,none⟩ e w (.pointer (some p)):=fun w' _=>by
 unfold execOp;simp [hx]
theorem ld {t t2:TypeId} {a b:Int} (hx:ev e x=.int .i64 a) (hy:ev e y=.int .i64 b):PV P ⟨d,.call ⟨.builtin .min,#[x,y],#[t,t2]⟩,ty,pos,af,none⟩ e w (.int .i64 (imn a b)):=fun w' _=>by
 unfold execOp imn;simp [resolve,invoke,builtin,hx,hy,Builtin.min_,Builtin.min2]
theorem nv {t t2:TypeId} {a b:Int} (hx:ev e x=.int .i64 a) (hy:ev e y=.int .i64 b):PV P ⟨d,.call ⟨.builtin .max,#[x,y],#[t,t2]⟩,ty,pos,af,none⟩ e w (.int .i64 (imx a b)):=fun w' _=>by
 unfold execOp imx;simp [resolve,invoke,builtin,hx,hy,Builtin.max_,Builtin.max2]
class FldT (P:Program) (t:TypeId) (k:Nat) (off:outParam Nat):Prop where
 h:∃ fs f,P.underlying t=some (.struct fs)∧fs[k]? = some f∧f.offset=off∧((P.info? f.type).map fun i=>Nat.beq i.size 0)=some false
theorem ae {t:TypeId} {k off b o:Nat} [ht:FldT P t k off] (hx:ev e x=.pointer (some ⟨b,o,none⟩)):PV P ⟨d,.fieldAddr t x k,ty,pos,af,none⟩ e w (.pointer (some ⟨b,o+off,none⟩)):=fun w' _=>by
 obtain ⟨fs,f,h1,h2,h3,h4⟩:=ht.h
 cases hi:P.info? f.type with
 | none=>simp [hi] at h4
 | some i =>
  have h5:¬ i.size=0:=by
   intro e0
   simp [hi,e0] at h4
  unfold execOp
  simp [hx,Instr.fieldAt,run_underlying h1,h2,Instr.sureAddr,fieldPlace,sizeOf,typeInfo,hi,h5,h3,Addr.add_lit]
theorem jr {w w':World} {p:Addr} {c:Value} (hE:Ext w w') (h:w.cell? p=some c):w'.cell? p=some c:=by rw [hE.cell (block_lt_of_cell h)];exact h
theorem ah {w w':World} {b off:Nat} {ec:List Value} (hE:Ext w w') (h:∀ j c,ec[j]? = some c→w.cell? ⟨b,off+j,none⟩=some c):∀ j c,ec[j]? = some c→w'.cell? ⟨b,off+j,none⟩=some c :=
 fun j c hj=>jr hE (h j c hj)
theorem ac {t:TypeId} [PlainT P t] {p:Addr} {c:Value} (hx:ev e x=.pointer (some p)) (hc:w.cell? p=some c):PV P ⟨d,.load t x,ty,pos,af,none⟩ e w c:=fun w' hw'=>by
 unfold execOp
 simp only [hx,Instr.loadAt,Instr.sureAddr,Sem.run_bind,Sem.run_pure,Result.andThen_ok,gY (jr hw' hc)]
theorem aB {t:TypeId} {n b off:Nat} [AggT P t n] {cs:List Value} (hx:ev e x=.pointer (some ⟨b,off,none⟩)) (hn:cs.length=n) (hc:∀ j c,cs[j]? = some c→w.cell? ⟨b,off+j,none⟩=some c) :
  PV P ⟨d,.load t x,ty,pos,af,none⟩ e w (.agg cs.toArray):=fun w' hw'=>by
 unfold execOp
 simp only [hx,Instr.loadAt,Instr.sureAddr,Sem.run_bind,Sem.run_pure,Result.andThen_ok,dc hn (ah hw' hc)]
theorem ap {α:Type} {R:Rep α} {E E':TypeId} {t:TypeId} [ht:SliceT P t E'] {wA:World} {v:Value} {xs:List α} (hx:ev e x=v) (hr:(aj R E).rd wA [v] xs) :
  PV P ⟨d,.call ⟨.builtin .len,#[x],#[t]⟩,ty,pos,af,none⟩ e w (.int .i64 xs.length):=fun w' _=>by
 obtain ⟨ao,cap,rfl⟩:=jM hr
 unfold execOp;simp [resolve,invoke,builtin,hx,Builtin.len_,run_underlying ht.h,goInt]
theorem hD {α:Type} {R:Rep α} {E E':TypeId} {t:TypeId} [ht:SliceT P t E'] {zz:List Value} {n bytes:Nat} [hz:ElemT P E' zz n bytes] {wA:World} {v:Value} {xs:List α} (hs:ev e x=v) (hr:(aj R E).rd wA [v] xs)
  (hn:R.sz=n) (hpos:0<n) {k:IntKind} {i:Int} (hi:ev e y=.int k i) {u:α} (h:ix xs i=some u) :
  ∃ b off ec,R.rd wA ec u∧(∀ j c,ec[j]? = some c→wA.cell? ⟨b,off+j,none⟩=some c)∧∀ w,PV P ⟨d,.indexAddr t x y,ty,pos,af,none⟩ e w (.pointer (some ⟨b,off,none⟩)):=by
 obtain ⟨k',rfl,hk,rfl⟩:=fd h
 obtain ⟨ao,cap,ccs,hv,h1,h2,h3,h4,h5⟩:=hr
 obtain rfl:v=.slice ao xs.length cap:=by simpa using hv
 obtain ⟨ec,hec,hcc⟩:=iA h4 k' hk
 have hz:=hz.h
 have hlen:=ek h4
 cases hq:P.info? E' with
 | none=>simp [hq] at hz
 | some inf =>
  simp [hq] at hz
  obtain ⟨b,off,rfl,hc⟩:∃ b off,ao=some ⟨b,off,none⟩∧∀ j c,ccs[j]? = some c→wA.cell? ⟨b,off+j,none⟩=some c:=by
   rcases h5 with rfl | ⟨b,off,rfl,hc⟩
   ·have:0<xs.length*R.sz:=Nat.mul_pos (by omega) (by omega)
    simp at hlen
    omega
   ·exact ⟨b,off,rfl,hc⟩
  have hsz:inf.size=R.sz:=by rw [hn];exact hz.2.1
  refine ⟨b,off+k'*R.sz,ec,hec,fun j c hj=>by rw [Nat.add_assoc];exact hc _ _ (hcc j c hj),fun w w' _=>?_⟩
  unfold execOp
  simp [hs,hi,Instr.indexAt,asIntOf,run_underlying ht.h,sizeOf,typeInfo,hq,hk,Addr.add_lit,hsz]
end

section
variable {P:Program} {n:Nat} {ops:Array Oper} {K:Env→World→Prop} {KQ:Env→Prop} {rest:List Oper} {e:Env} {w w0 wA:World} {v:Value} {d:Nat} {ty:TypeId} {pos:String} {af:Array Edge} {Γ rΓ:List Asn} {x y:Operand} {α:Type} {R:Rep α} {E E':TypeId}
theorem aD {t:TypeId} [SliceT P t E'] {zz:List Value} {m bytes:Nat} [ElemT P E' zz m bytes] {xs:List α} (hs:ev e x=v) (hr:(aj R E).rd wA [v] xs)
  (hn:R.sz=m) (hpos:0<m) {k:IntKind} {i:Int} (hi:ev e y=.int k i) {u:α} (h:ix xs i=some u) (hd:d<n)
  (hK:∀ b off ec,R.rd wA ec u→(∀ j c,ec[j]? = some c→wA.cell? ⟨b,off+j,none⟩=some c)→EL P n ops K rest (upd e d (.pointer (some ⟨b,off,none⟩))) w):EL P n ops K (⟨some d,.indexAddr t x y,ty,pos,af,none⟩ :: rest) e w:=by
 obtain ⟨b,off,ec,h1,h2,h3⟩:=hD (P:=P) (d:=some d) (ty:=ty) (pos:=pos) (af:=af) (t:=t) hs hr hn hpos hi h
 exact gR (h3 _) hd (hK b off ec h1 h2)
theorem aJ {t:TypeId} [SliceT P t E'] {zz:List Value} {m bytes:Nat} [ElemT P E' zz m bytes] {xs:List α} (hs:ev e x=v) (hr:(aj R E).rd wA [v] xs)
  (hn:R.sz=m) (hpos:0<m) {k:IntKind} {i:Int} (hi:ev e y=.int k i) {u:α} (h:ix xs i=some u) (hd:d<n)
  (hK:∀ b off ec,R.rd wA ec u→(∀ j c,ec[j]? = some c→wA.cell? ⟨b,off+j,none⟩=some c)→QL P n ops w KQ rest (upd e d (.pointer (some ⟨b,off,none⟩)))):QL P n ops w KQ (⟨some d,.indexAddr t x y,ty,pos,af,none⟩ :: rest) e:=by
 obtain ⟨b,off,ec,h1,h2,h3⟩:=hD (P:=P) (d:=some d) (ty:=ty) (pos:=pos) (af:=af) (t:=t) hs hr hn hpos hi h
 exact jg (h3 _) hd (hK b off ec h1 h2)
theorem bY {t:TypeId} (cs:List Value) (hx:(ev e x).cells=cs.toArray) (hS:Sat w0 w Γ) (hd:d<n)
  (hK:∀ w' b,Sat w0 w' (Box b t cs :: Γ)→Ext w w'→EL P n ops K rest (upd e d (.pointer (some ⟨b,0,none⟩))) w'):EL P n ops K (⟨some d,.box t x,ty,pos,af,none⟩ :: rest) e w :=
 fun a ha=>mH rfl rfl cs (by rw [ha.eval];exact hx) hS fun w' b h1 h2=>hK w' b h1 h2 _ (ha.put hd _)
theorem be {t:TypeId} {cs:List Value} {m bytes:Nat} [ElemT P t cs m bytes] (hS:Sat w0 w Γ) (hd:d<n)
  (hK:∀ w' b,Sat w0 w' (Box b t cs :: Γ)→Ext w w'→EL P n ops K rest (upd e d (.pointer (some ⟨b,0,none⟩))) w'):EL P n ops K (⟨some d,.alloc t,ty,pos,af,none⟩ :: rest) e w :=
 fun _ ha=>lN rfl rfl hS fun w' b h1 h2=>hK w' b h1 h2 _ (ha.put hd _)
theorem aA {t:TypeId} {z:List Value} {m bytes:Nat} [ElemT P t z m bytes] (hS:Sat w0 w Γ) {b j:Nat} (hx:ev e x=.pointer (some ⟨b,j,none⟩))
  {E:TypeId} {cs:List Value} [AtBox Γ b E cs rΓ] (vs:List Value) (hy:(ev e y).cells=vs.toArray) (hn:vs.length=m) (hl:j+m≤cs.length) (h1:vs.all (·.oneCell')=true)
  (hK:∀ w',Sat w0 w' (Box b E (cs.take j++vs++cs.drop (j+m)) :: rΓ)→EL P n ops K rest e w'):EL P n ops K (⟨none,.store t x y,ty,pos,af,none⟩ :: rest) e w :=
 fun _ ha=>kG rfl rfl hS (by rw [ha.eval];exact hx) vs (by rw [ha.eval];exact hy) hn hl h1 fun w' h1=>hK w' h1 _ ha
theorem lA {t:TypeId} {z:List Value} {m bytes:Nat} [ElemT P t z m bytes] (hn:R.sz=m) {ec:List Value} {yv:α} {xs ys:List α} {g ln cap:Nat}
  (hS:Sat w0 w (Own R ec yv :: Own (aj R E) [.slice (some ⟨g,0,none⟩) ln cap] xs :: Γ)) (k off:Nat) {i:Int} (hi:i=(k:Int)) (h:sto xs i yv=some ys) (hoff:off=k*m) (hx:ev e x=.pointer (some ⟨g,off,none⟩)) (hy:(ev e y).cells=ec.toArray)
  (hK:∀ w',Sat w0 w' (Own (aj R E) [.slice (some ⟨g,0,none⟩) ln cap] ys :: Γ)→EL P n ops K rest e w'):EL P n ops K (⟨none,.store t x y,ty,pos,af,none⟩ :: rest) e w:=by
 intro a ha
 subst hi
 unfold sto at h
 split at h
 ·rename_i h0
  obtain rfl:=Option.some.inj h
  simp only [Int.toNat_natCast] at h0 hK
  exact kU rfl rfl hn hS k off h0.2 hoff (by rw [ha.eval];exact hx) (by rw [ha.eval];exact hy) fun w' h1=>hK w' h1 _ ha
 ·cases h
theorem aE {t:TypeId} [SliceT P t E] {z:List Value} {m bytes:Nat} [ElemT P E z m bytes] (hn:R.sz=m) (hpos:0<m) (hzl:z.length=m) (hb0:0<bytes)
  {xs:List α} {ccs:List Value} {ys zs:List α} (hS:Sat w0 w (iQ R ccs ys :: Own (aj R E) [v] xs :: Γ)) (hs:ev e x=v)
  {ao:Option Addr} {ln c:Nat} (hx:ev e y=.slice ao ln c) (hm:ln=ys.length) (hnone:ao=none→c=0) (hrow:gQ w ao ccs) (h:apd bytes xs ys=some zs) (hd:d<n)
  (hK:∀ w' v',Sat w0 w' (Own (aj R E) [v'] zs :: Γ)→EL P n ops K rest (upd e d v') w'):EL P n ops K (⟨some d,.call ⟨.builtin .append,#[x,y],#[t,t]⟩,ty,pos,af,none⟩ :: rest) e w:=by
 intro a ha
 unfold apd at h
 split at h
 ·rename_i hby
  obtain rfl:=Option.some.inj h
  exact kt rfl rfl hn hpos hzl hb0 hS (by rw [ha.eval];exact hs) (by rw [ha.eval];exact hx) hm hnone hrow hby fun v' w' h1=>hK w' v' h1 _ (ha.put hd _)
 ·cases h
theorem iM {t:TypeId} [SliceT P t E] {z:List Value} {m bytes:Nat} [ElemT P E z m bytes] (hn:R.sz=m) (hpos:0<m) (hzl:z.length=m) {x0:α} (hx0:∀ w,R.own w z x0 []) {i:Int} {xs:List α}
  (hl:ev e x=.int .i64 i) (hc:ev e y=.int .i64 i) (h:mk bytes x0 i=some xs) (hS:Sat w0 w Γ) (hd:d<n)
  (hK:∀ w' g k,Sat w0 w' (Own (aj R E) [.slice (some ⟨g,0,none⟩) k k] xs :: Γ)→Ext w w'→xs.length=k→EL P n ops K rest (upd e d (.slice (some ⟨g,0,none⟩) k k)) w'):EL P n ops K (⟨some d,.makeSlice t x y,ty,pos,af,none⟩ :: rest) e w:=by
 intro a ha
 unfold mk at h
 split at h
 ·rename_i h0
  obtain rfl:=Option.some.inj h
  exact lV rfl rfl hn hpos hzl hx0 (by rw [ha.eval];exact hl) (by rw [ha.eval];exact hc) i.toNat (by omega) (by omega) h0.2.1 h0.2.2 hS fun w' g h1 h2=>hK w' g _ h1 h2 (by simp) _ (ha.put hd _)
 ·cases h
theorem au {t u:TypeId} [SliceT P t u] {z:List Value} {m bytes:Nat} [ElemT P u z m bytes] (cs:List Value) (hcs:(ev e x).cells=cs.toArray) (hl:cs.length=m) (hpos:0<m) (hzl:z.length=m) (hn:m≤16)
  (hS:Sat w0 w Γ) (hd:d<n) (hK:∀ w' b,Sat w0 w' (Box b u cs :: Γ)→Ext w w'→EL P n ops K rest (upd e d (.slice (some ⟨b,0,none⟩) 1 1)) w'):EL P n ops K (⟨some d,.buildSlice t 1 #[(0,x)],ty,pos,af,none⟩ :: rest) e w :=
 fun _ ha=>it rfl rfl (by rw [ha.eval];exact hcs) hl hpos hzl hn hS fun w' b h1 h2=>hK w' b h1 h2 _ (ha.put hd _)
theorem bF (R:Rep α) {t:TypeId} [SliceT P t E] {z:List Value} {m bytes:Nat} [ElemT P E z m bytes] (hS:Sat w0 w Γ) (hd:d<n)
  (hK:∀ w' v,Sat w0 w' (Own (aj R E) [v] [] :: Γ)→Ext w w'→EL P n ops K rest (upd e d v) w'):EL P n ops K (⟨some d,.buildSlice t 0 #[],ty,pos,af,none⟩ :: rest) e w :=
 fun _ ha=>ik R rfl rfl hS fun w' b h1 h2=>hK w' _ h1 h2 _ (ha.put hd _)
theorem jO {t:TypeId} {lo hi:Option Operand} [ht:SliceT P t E'] {z:List Value} {m bytes:Nat} [hz:ElemT P E' z m bytes] (hn:R.sz=m) {d:Option Nat}
    (hx:ev e x=v) {xs ys:List α} (hr:(aj R E).rd wA [v] xs) {l h:Int} (hlo:(lo.map (ev e)=some (.int .i64 l))∨(lo=none∧l=0)) (hhi:(hi.map (ev e)=some (.int .i64 h))∨(hi=none∧h=xs.length)) (hq:slc xs l h=some ys) :
    ∃ v',(aj R E).rd wA [v'] ys∧∀ w,PV P ⟨d,.slice t x lo hi none,ty,pos,af,none⟩ e w v':=by
  unfold slc at hq
  split at hq
  case isFalse=>cases hq
  rename_i h0
  obtain rfl:=Option.some.inj hq
  obtain ⟨l',rfl⟩:=Int.eq_ofNat_of_zero_le h0.1
  obtain ⟨h',rfl⟩:=Int.eq_ofNat_of_zero_le (Int.le_trans h0.1 h0.2.1)
  obtain ⟨_,hlh,hh⟩:=h0
  replace hlh:l'≤h':=by omega
  replace hh:h'≤xs.length:=by omega
  simp only [Int.toNat_natCast]
  obtain ⟨ao,cap,ccs,hv,h1,h2,h3,h4,h5⟩:=hr
  obtain rfl:v=.slice ao xs.length cap:=by simpa using hv
  have hz:=hz.h
  cases hq:P.info? E' with
  | none=>simp [hq] at hz
  | some inf =>
    simp [hq] at hz
    have hcap:h'≤cap:=by omega
    have hsz:inf.size=R.sz:=by rw [hn];exact hz.2.1
    have hlen:((xs.take h').drop l').length=h' - l':=by simp;omega
    have hccl:=ek h4
    have hrd:=(gA l' (gA h' h4).1).2
    refine ⟨.slice (if cap=l' then ao else ao.map (·.add (l'*inf.size))) (h' - l') (cap-l'),⟨_,cap-l',_,by rw [hlen],by rw [hlen];omega,by omega,?_,hrd,?_⟩,fun w w' _=>?_⟩
    · intro e
      split at e
      · omega
      · cases ao with
        | none=>have:=h3 rfl;omega
        | some _=>simp at e
    · by_cases hcl:cap=l'
      · left
        have:h'=l':=by omega
        subst this
        apply List.eq_nil_of_length_eq_zero
        simp
      · rw [if_neg hcl]
        rcases h5 with rfl | ⟨b,off,rfl,h5⟩
        · left;simp
        · right
          refine ⟨b,off+l'*R.sz,by rw [hsz];simp [Addr.add_lit],fun j c hj=>?_⟩
          rw [List.getElem?_drop,List.getElem?_take] at hj
          split at hj
          · rw [Nat.add_assoc];exact h5 _ c hj
          · cases hj
    · have hb:(Instr.sliceBounds true xs.length cap (lo.map (ev e)) (hi.map (ev e)) none).run P w'=.ok (l',h',cap) w':=by
        rcases hlo with e1 | ⟨e1,e1'⟩ <;> rcases hhi with e2 | ⟨e2,e2'⟩
        all_goals
          (try rw [e1]);(try rw [e2])
          first
            | (simp [Instr.sliceBounds,Instr.sliceBound,asIntOf,hcap,hlh];done)
            | (have:l'=0:=by omega
               subst this
               simp [Instr.sliceBounds,Instr.sliceBound,asIntOf,hcap,hlh];done)
            | (have:h'=xs.length:=by omega
               subst this
               simp [Instr.sliceBounds,Instr.sliceBound,asIntOf,hcap,hlh];done)
            | (have:l'=0:=by omega
               have:h'=xs.length:=by omega
               subst_vars
               simp [Instr.sliceBounds,Instr.sliceBound,asIntOf])
      unfold execOp
      simp only [hx,Instr.sliceAt,Sem.run_bind,run_underlying ht.h,Result.andThen_ok,Instr.slice,hb,sizeOf,typeInfo,hq,run_program,Sem.run_pure,Option.map_none]
theorem cq {t:TypeId} {lo hi:Option Operand} [SliceT P t E'] {z:List Value} {m bytes:Nat} [ElemT P E' z m bytes] (hn:R.sz=m)
  (hx:ev e x=v) {xs ys:List α} (hr:(aj R E).rd wA [v] xs) {l h:Int} (hlo:(lo.map (ev e)=some (.int .i64 l))∨(lo=none∧l=0)) (hhi:(hi.map (ev e)=some (.int .i64 h))∨(hi=none∧h=xs.length)) (hq:slc xs l h=some ys) (hd:d<n)
  (hK:∀ v',(aj R E).rd wA [v'] ys→EL P n ops K rest (upd e d v') w):EL P n ops K (⟨some d,.slice t x lo hi none,ty,pos,af,none⟩ :: rest) e w:=by
 obtain ⟨v',h1,h2⟩:=jO (P:=P) (d:=some d) (ty:=ty) (pos:=pos) (af:=af) (t:=t) hn hx hr hlo hhi hq
 exact gR (h2 _) hd (hK v' h1)
end
section
variable {P:Program} {fn:Func} {n:Nat} {e:Env} {w:World} {R:Ending→World→Prop}
theorem aC {t:Tmp} (h:fn.results=#[.tmp t]) {v:Value} (ht:e t=v) (hR:R (.returned v) w):Fin P fn n R .ret e w :=
 ⟨v,fun a ha=>by rw [results_tmp h,ha.get,ht],hR⟩
theorem gx {t u:Tmp} (h:fn.results=#[.tmp t,.tmp u]) {v v2:Value} (ht:e t=v) (hu:e u=v2) (hR:R (.returned (.tuple #[v,v2])) w):Fin P fn n R .ret e w :=
 ⟨_,fun a ha=>by rw [results_tmp2 h,ha.get,ha.get,ht,hu],hR⟩
theorem gb {p:Tmp} {ty:TypeId} {m:Nat} [AggT P ty m] (h:fn.results=#[.cell p ty]) {b off:Nat} {cs:List Value} (hp:e p=.pointer (some ⟨b,off,none⟩)) (hm:cs.length=m) (hc:∀ j c,cs[j]? = some c→w.cell? ⟨b,off+j,none⟩=some c) (hR:R (.returned (.agg cs.toArray)) w) :
  Fin P fn n R .ret e w:=by
 refine ⟨_,fun a ha=>?_,hR⟩
 have h1:a.tmps.getD p undef=.pointer (some ⟨b,off,none⟩):=by rw [ha.get,hp]
 have h1':a.tmps[p]?.getD undef=.pointer (some ⟨b,off,none⟩):=by simpa using h1
 simp [results,h,h1',asAddr,dc (P:=P) (t:=ty) hm hc]
theorem fb {p t:Tmp} {ty:TypeId} {m:Nat} [AggT P ty m] (h:fn.results=#[.cell p ty,.tmp t]) {b off:Nat} {cs:List Value} {v2:Value} (hp:e p=.pointer (some ⟨b,off,none⟩)) (hm:cs.length=m) (hc:∀ j c,cs[j]? = some c→w.cell? ⟨b,off+j,none⟩=some c) (ht:e t=v2) (hR:R (.returned (.tuple #[.agg cs.toArray,v2])) w) :
  Fin P fn n R .ret e w:=by
 refine ⟨_,fun a ha=>?_,hR⟩
 have h1:a.tmps.getD p undef=.pointer (some ⟨b,off,none⟩):=by rw [ha.get,hp]
 have h1':a.tmps[p]?.getD undef=.pointer (some ⟨b,off,none⟩):=by simpa using h1
 have h2:a.tmps.getD t undef=v2:=by rw [ha.get,ht]
 have h2':a.tmps[t]?.getD undef=v2:=by simpa using h2
 simp [results,h,h1',h2',asAddr,dc (P:=P) (t:=ty) hm hc]
theorem mA {p0:Tmp} {ty0:TypeId} {m0:Nat} [AggT P ty0 m0] {b0 off0:Nat} {cs0:List Value} {p1:Tmp} {ty1:TypeId} {m1:Nat} [AggT P ty1 m1] {b1 off1:Nat} {cs1:List Value} (h:fn.results=#[.cell p0 ty0,.cell p1 ty1]) (hp0:e p0=.pointer (some ⟨b0,off0,none⟩)) (hm0:cs0.length=m0) (hc0:∀ j c,cs0[j]? = some c→w.cell? ⟨b0,off0+j,none⟩=some c) (hp1:e p1=.pointer (some ⟨b1,off1,none⟩)) (hm1:cs1.length=m1) (hc1:∀ j c,cs1[j]? = some c→w.cell? ⟨b1,off1+j,none⟩=some c) (hR:R (.returned (.tuple #[.agg cs0.toArray,.agg cs1.toArray])) w):Fin P fn n R .ret e w:=by
 refine ⟨_,fun a ha=>?_,hR⟩
 have k0:a.tmps[p0]?.getD undef=.pointer (some ⟨b0,off0,none⟩):=by simpa using (show a.tmps.getD p0 undef=.pointer (some ⟨b0,off0,none⟩) by rw [ha.get,hp0])
 have k1:a.tmps[p1]?.getD undef=.pointer (some ⟨b1,off1,none⟩):=by simpa using (show a.tmps.getD p1 undef=.pointer (some ⟨b1,off1,none⟩) by rw [ha.get,hp1])
 simp [results,h,k0,dc (P:=P) (t:=ty0) hm0 hc0,k1,dc (P:=P) (t:=ty1) hm1 hc1,asAddr]
end
end Go.Proofs.Ytcpkiphiaebkmaa
namespace Go.Proofs.Ytcpkiphiaebkmaa
open Go.RowKit

def my:Rep Bool where
 sz:=1
 rd _ cs b:=cs=[.bool b]
 own _ cs b fp:=cs=[.bool b]∧fp=[]
 rd_len h:=by subst h;rfl
 rd_one h:=by subst h;simp [Value.oneCell']
 rd_ext h _:=h
 own_rd h:=h.1
 own_ext h _:=h
 own_lt h:=by rw [h.2];simp
def u8R:Rep Int where
 sz:=1
 rd _ cs n:=cs=[.int .u8 n]
 own _ cs n fp:=cs=[.int .u8 n]∧fp=[]
 rd_len h:=by subst h;rfl
 rd_one h:=by subst h;simp [Value.oneCell']
 rd_ext h _:=h
 own_rd h:=h.1
 own_ext h _:=h
 own_lt h:=by rw [h.2];simp

def lpS {R V S:Type} (s:Sum R V) (f:R→Option S) (g:V→Option S):Option S:=match s with | .inl r=>f r | .inr v=>g v
def lpB {V S:Type} (s:V) (g:V→Option S):Option S:=g s
theorem exA {R V S:Type} {s:Sum R V} {v:V} {f:R→Option S} {g:V→Option S} {r:S} (h:some (Sum.inr v)=some s) (hK:lpS s f g=some r):g v=some r:=by cases h;exact hK
theorem exL {R V S:Type} {s:Sum R V} {q:R} {f:R→Option S} {g:V→Option S} {r:S} (h:some (Sum.inl q)=some s) (hK:lpS s f g=some r):f q=some r:=by cases h;exact hK
theorem exB {V S:Type} {s v:V} {g:V→Option S} {r:S} (h:some v=some s) (hK:lpB s g=some r):g v=some r:=by cases h;exact hK
theorem ak {α β:Type} {f:α→β} {a:α} {b:β} {l:List α} {m:List β} (h:f a=b) (t:l.map f=m):(a :: l).map f=b :: m:=by rw [List.map_cons,h,t]
theorem av {x:Bool} (h:x=true):(!x)=false:=by rw [h];rfl
theorem ax {x:Bool} (h:x=false):(!x)=true:=by rw [h];rfl

theorem cu {P:Program} {n:Nat} {ops:Array Oper} {K:Env→World→Prop} {rest:List Oper} {e:Env} {w:World} {op:Op} {ty:TypeId} {pos:String} {af:Array Edge} {j:Nat} {b':Bool} {d:Nat} (h:(match (ops[j]?).bind (·.dst) with | some t=>e t | none=>undef)=undef) (hd:d<n) (hK:EL P n ops K rest (upd e d undef) w):EL P n ops K (⟨some d,op,ty,pos,af,some (j,b')⟩ :: rest) e w:=by
 intro a ha
 have hy:yielded ops a.tmps j=none:=gv ha h
 unfold wpList
 rw [if_neg (by simp [Region.wanted,hy])]
 exact hK _ (ha.put hd _)
theorem bt {P:Program} {n:Nat} {ops:Array Oper} {KQ:Env→Prop} {rest:List Oper} {e:Env} {w:World} {op:Op} {ty:TypeId} {pos:String} {af:Array Edge} {j:Nat} {b':Bool} {d:Nat} (h:(match (ops[j]?).bind (·.dst) with | some t=>e t | none=>undef)=undef) (hd:d<n) (hK:QL P n ops w KQ rest (upd e d undef)):QL P n ops w KQ (⟨some d,op,ty,pos,af,some (j,b')⟩ :: rest) e:=by
 intro a ha
 have hy:yielded ops a.tmps j=none:=gv ha h
 unfold wpQuiet
 rw [if_neg (by simp [Region.wanted,hy])]
 exact hK _ (ha.put hd _)
theorem oc {w:World} {α:Type} {R:Rep α} {E:TypeId} {v:Value} {xs:List α} (h:(aj R E).rd w [v] xs):v.oneCell'=true:=(aj R E).rd_one h v (List.mem_singleton.2 rfl)
theorem aG {e:Env} {x:Operand} {v:Value} (h:ev e x=v) (h1:v.oneCell'=true):(ev e x).cells=[v].toArray:=by rw [h];exact lw h1
theorem all_cons {α:Type} {p:α→Bool} {a:α} {l:List α} (h:p a=true) (t:l.all p=true):(a :: l).all p=true:=by simp [h,t]
section
variable {w w0 wA:World} {Γ rest:List Asn} {α:Type} {R:Rep α} {E:TypeId} {v:Value} {xs:List α}
theorem Sat.top (i:Nat) {A:Asn} (h:Sat w0 w Γ) (hi:Γ[i]? = some A):Sat w0 w (A :: Γ.eraseIdx i):=by
 refine h.perm ?_
 clear h
 induction Γ generalizing i with
 | nil=>simp at hi
 | cons B Γ ih =>
  cases i with
  | zero=>simp at hi;subst hi;exact .refl _
  | succ i =>
   simp at hi
   exact (List.Perm.cons B (ih i hi)).trans (.swap _ _ _)
theorem Sat.rdAt (i:Nat) {cs:List Value} {x:α} {R:Rep α} (h:Sat w0 w Γ) (hi:Γ[i]? = some (Own R cs x)):R.rd w cs x:=(h.top i hi).rd
theorem Sat.nil (R:Rep α) (E:TypeId) (h:Sat w0 w Γ):Sat w0 w (Own (aj R E) [.slice none 0 0] [] :: Γ):=h.add (.inl ⟨rfl,rfl,rfl⟩)
theorem Sat.bool (h:Sat w0 w Γ) (b:Bool):Sat w0 w (Own my [.bool b] b :: Γ):=h.add ⟨rfl,rfl⟩
theorem Sat.u8 (h:Sat w0 w Γ) (n:Int):Sat w0 w (Own u8R [.int .u8 n] n :: Γ):=h.add ⟨rfl,rfl⟩
theorem ar {cs:List Value} (h:(aj R E).rd w cs xs):∃ v,cs=[v]:=List.length_eq_one_iff.1 ((aj R E).rd_len h)
theorem bi {cs:List Value} {x:α} (h:R.rd w0 cs x) (hx:Ext w0 w):R.rd w cs x:=R.rd_ext h hx
theorem Sat.up {cs:List Value} {x:α} (hS:Sat w0 w Γ) (h:R.rd w0 cs x):R.rd w cs x:=R.rd_ext h hS.below
theorem Sat.boxAt (i:Nat) {b:Nat} {cs:List Value} (h:Sat w0 w Γ) (hi:Γ[i]? = some (Box b E cs)):∀ j c,cs[j]? = some c→w.cell? ⟨b,j,none⟩=some c:=by
 have h2:=h.top i hi
 exact h2.boxCell
theorem aH {b:Nat} {cs:List Value} (h:∀ j c,cs[j]? = some c→w.cell? ⟨b,j,none⟩=some c):∀ j c,cs[j]? = some c→w.cell? ⟨b,0+j,none⟩=some c:=by
 intro j c hj;rw [Nat.zero_add];exact h j c hj
theorem Sat.boxRow (i:Nat) {b:Nat} {cs:List Value} (h:Sat w0 w Γ) (hi:Γ[i]? = some (Box b E cs)):gQ w (some ⟨b,0,none⟩) cs :=
 .inr ⟨b,0,rfl,aH (h.boxAt i hi)⟩
theorem mc {ccs:List Value} {ys:List Int} (h:rdL cK w ccs ys):ccs=ys.map (Value.int .i64):=by
 induction ys generalizing ccs with
 | nil=>simpa [rdL] using h
 | cons y ys ih =>
  obtain ⟨ec,r,rfl,h1,h2⟩:=h
  obtain rfl:=ih h2
  have:ec=[.int .i64 y]:=h1
  rw [this];rfl
theorem jy {v:Value} {ys:List Int} (h:(aj cK E).rd w [v] ys):∃ ao c,v=.slice ao ys.length c∧(ao=none→c=0)∧gQ w ao (ys.map (Value.int .i64)):=by
 obtain ⟨ao,cap,ccs,hv,h1,h2,h3,h4,h5⟩:=h
 obtain rfl:=mc h4
 exact ⟨ao,cap,by simpa using hv,h3,h5⟩
end
section
variable {P:Program} {n:Nat} {ops:Array Oper} {K:Env→World→Prop} {rest:List Oper} {e:Env} {w w0 wA:World} {v:Value} {d:Nat} {ty:TypeId} {pos:String} {af:Array Edge} {Γ rΓ:List Asn} {x y:Operand} {α:Type} {R:Rep α} {E E':TypeId}
theorem eO {t:TypeId} {z:List Value} {m bytes:Nat} [ElemT P t z m bytes] (hn:R.sz=m) {ec:List Value} {yv:α} {xs ys:List α} {g ln cap:Nat} (hv:v=.slice (some ⟨g,0,none⟩) ln cap)
  (hS:Sat w0 w (Own R ec yv :: Own (aj R E) [v] xs :: Γ)) {i:Int} (h:sto xs i yv=some ys) (hx:ev e x=.pointer (some ⟨g,i.toNat*m,none⟩)) (hy:(ev e y).cells=ec.toArray)
  (hK:∀ w',Sat w0 w' (Own (aj R E) [v] ys :: Γ)→EL P n ops K rest e w'):EL P n ops K (⟨none,.store t x y,ty,pos,af,none⟩ :: rest) e w:=by
 subst hv
 have h0:0≤i:=by
  unfold sto at h;split at h
  ·rename_i h1;exact h1.1
  ·cases h
 exact lA hn hS i.toNat (i.toNat*m) (by omega) h rfl hx hy hK
end
class BldT (P:Program) (t:TypeId) (pl:outParam (Array (Nat × Nat))):Prop where
 h:∃ fs,P.underlying t=some (.struct fs)∧∀ w,(fs.mapM (fun f=>do pure (f.offset,← sizeOf f.type)):Sem (Array (Nat × Nat))).run P w=.ok pl w
def f5 (place:Nat→Option (Nat × Nat)) (cells:List Value):List (Nat × List Value)→Option (List Value)
  | []=>some cells
  | (i,v) :: rest=>match place i with
    | none=>none
    | some (off,size)=>bif Nat.beq v.length size&&Nat.ble (off+v.length) cells.length then f5 place (cells.take off++v++cells.drop (off+v.length)) rest else none
theorem i3:∀ (v:List Value) (off k:Nat) (cells:List Value),off+k+v.length≤cells.length →
  ((v.zipIdx k).foldl (fun (cs:Array Value) (c:Value × Nat)=>cs.setIfInBounds (off+c.2) c.1) cells.toArray)=(cells.take (off+k)++v++cells.drop (off+k+v.length)).toArray
 | [],off,k,cells,h=>by simp
 | x :: v,off,k,cells,h=>by
  simp only [List.length_cons] at h
  have hi:off+k<cells.length:=by omega
  simp only [List.zipIdx_cons,List.foldl_cons,List.setIfInBounds_toArray]
  rw [i3 v off (k+1) (cells.set (off+k) x) (by simp;omega)]
  have e1:(cells.set (off+k) x).take (off+(k+1))=cells.take (off+k)++[x]:=by
   rw [show off+(k+1)=(off+k)+1 by omega,List.take_set,List.take_succ_eq_append_getElem hi,List.set_append_right _ _ (by simp;omega)]
   simp [show min (off+k) cells.length=off+k by omega]
  have e2:(cells.set (off+k) x).drop (off+(k+1)+v.length)=cells.drop (off+k+(x :: v).length):=by
   rw [List.drop_set_of_lt (by omega)]
   congr 1
   simp only [List.length_cons];omega
  rw [e1,e2];simp
theorem iG (place:Nat→Option (Nat × Nat)):∀ (ps:List (Nat × Value)) (qs:List (Nat × List Value)) (cells:List Value) {r:List Value},ps.map (fun p=>(p.1,p.2.cells))=qs.map (fun q=>(q.1,q.2.toArray))→f5 place cells qs=some r→Instr.fill place cells.toArray ps=some r.toArray
  | [],[],cells,r,_,h=>by simp only [f5,Option.some.injEq] at h;subst h;rfl
  | [],_ :: _,_,_,h,_=>by simp at h
  | _ :: _,[],_,_,h,_=>by simp at h
  | (i,v) :: ps,(j,c) :: qs,cells,r,h,hf=>by
    simp only [List.map_cons,List.cons.injEq,Prod.mk.injEq] at h
    obtain ⟨⟨rfl,hc⟩,ht⟩:=h
    unfold f5 at hf
    unfold Instr.fill
    cases hp:place i with
    | none=>simp [hp] at hf
    | some os =>
      obtain ⟨off,size⟩:=os
      simp only [hp] at hf ⊢
      cases hb:(Nat.beq c.length size&&Nat.ble (off+c.length) cells.length) with
      | false=>rw [hb] at hf;cases hf
      | true =>
        rw [hb] at hf
        simp only [Bool.and_eq_true] at hb
        have h1:=Nat.eq_of_beq_eq_true hb.1
        have h2:=Nat.le_of_ble_eq_true hb.2
        rw [hc]
        have hn:(decide (c.toArray.size≠size)||decide (off+c.toArray.size > cells.toArray.size))=false:=by simp;omega
        rw [if_neg (by simp only [hn];simp)]
        have:=i3 c off 0 cells (by omega)
        simp only [Nat.add_zero] at this
        have e:c.toArray.zipIdx.foldl (fun cs (c,j)=>cs.setIfInBounds (off+j) c) cells.toArray=(cells.take off++c++cells.drop (off+c.length)).toArray:=by
          rw [← this]
          simp
        rw [e]
        exact iG place ps qs _ ht hf
theorem cB {P:Program} {e:Env} {w:World} {d:Option Nat} {ty:TypeId} {pos:String} {af:Array Edge} {t:TypeId} {z:List Value} {n bytes:Nat} {pl:Array (Nat × Nat)} [hz:ElemT P t z n bytes] [hb:BldT P t pl] {parts:Array (Nat × Operand)} (qs:List (Nat × List Value)) (r:List Value)
  (hp:parts.toList.map (fun p=>(p.1,(ev e p.2).cells))=qs.map (fun q=>(q.1,q.2.toArray))) (hf:f5 (pl[·]?) z qs=some r):PV P ⟨d,.build t parts,ty,pos,af,none⟩ e w (.agg r.toArray):=fun w' _=>by
 have hz:=hz.h
 obtain ⟨fs,h1,h2⟩:=hb.h
 cases hi:P.info? t with
 | none=>simp [hi] at hz
 | some i =>
 cases hzz:i.zero with
 | none=>simp [hi,hzz] at hz
 | some zv =>
 simp [hi,hzz] at hz
 have hzc:zv.cells=z.toArray:=by rw [← hz.1]
 have hff:=iG (pl[·]?) (parts.toList.map fun p=>(p.1,ev e p.2)) qs z (by rw [List.map_map];exact hp) hf
 unfold execOp
 simp only [Instr.build,zeroValue,typeInfo,hi,hzz,Sem.run_bind,Sem.run_pure,run_program,Result.andThen_ok,run_underlying h1,h2,hzc,Array.toList_map]
 rw [hff]
 simp
theorem d9 {e:Env} {i:Nat} {x:Operand} {c:List Value} {l:List (Nat × Operand)} {m:List (Nat × List Value)} (h:(ev e x).cells=c.toArray) (t:l.map (fun p=>(p.1,(ev e p.2).cells))=m.map (fun q=>(q.1,q.2.toArray))) :
  ((i,x) :: l).map (fun p=>(p.1,(ev e p.2).cells))=((i,c) :: m).map (fun q=>(q.1,q.2.toArray)):=by
 rw [List.map_cons,List.map_cons,t,h]
end Go.Proofs.Ytcpkiphiaebkmaa
namespace Go.Proofs.Ytcpkiphiaebkmaa
-- int64
instance:PlainT Try.prog 2:=⟨_,Try.underlying2,trivial⟩
instance:ElemT Try.prog 2 [.int .i64 0] 1 8:=⟨by kernel_rfl⟩
-- int
instance:PlainT Try.prog 3:=⟨_,Try.underlying3,trivial⟩
instance:ElemT Try.prog 3 [.int .i64 0] 1 8:=⟨by kernel_rfl⟩
-- bool
instance:PlainT Try.prog 4:=⟨_,Try.underlying4,trivial⟩
instance:ElemT Try.prog 4 [.bool false] 1 1:=⟨by kernel_rfl⟩
-- uint8
instance:PlainT Try.prog 5:=⟨_,Try.underlying5,trivial⟩
instance:ElemT Try.prog 5 [.int .u8 0] 1 1:=⟨by kernel_rfl⟩
-- string
instance:PlainT Try.prog 9:=⟨_,Try.underlying9,trivial⟩
instance:ElemT Try.prog 9 [.string ByteArray.empty] 1 16:=⟨by kernel_rfl⟩
-- uintptr
instance:PlainT Try.prog 12:=⟨_,Try.underlying12,trivial⟩
instance:ElemT Try.prog 12 [.int .u64 0] 1 8:=⟨by kernel_rfl⟩
-- int32
instance:PlainT Try.prog 21:=⟨_,Try.underlying21,trivial⟩
instance:ElemT Try.prog 21 [.int .i32 0] 1 4:=⟨by kernel_rfl⟩
-- []uint8
instance:PlainT Try.prog 22:=⟨_,Try.underlying22,trivial⟩
instance:SliceT Try.prog 22 5:=⟨Try.underlying22⟩
instance:ElemT Try.prog 22 [.slice none 0 0] 1 24:=⟨by kernel_rfl⟩
-- [][]int
instance:PlainT Try.prog 24:=⟨_,Try.underlying24,trivial⟩
instance:SliceT Try.prog 24 29:=⟨Try.underlying24⟩
instance:ElemT Try.prog 24 [.slice none 0 0] 1 24:=⟨by kernel_rfl⟩
-- struct { Arity int;Rows [][]int }
instance:AggT Try.prog 25 2:=⟨⟨_,Try.underlying25,trivial⟩,by kernel_rfl⟩
instance:FldT Try.prog 25 0 0:=⟨_,_,Try.underlying25,rfl,rfl,by kernel_rfl⟩
instance:FldT Try.prog 25 1 1:=⟨_,_,Try.underlying25,rfl,rfl,by kernel_rfl⟩
instance:BldT Try.prog 25 #[(0,1),(1,1)]:=⟨_,Try.underlying25,fun w=>by kernel_rfl⟩
instance:ElemT Try.prog 25 [.int .i64 0,.slice none 0 0] 2 32:=⟨by kernel_rfl⟩
-- impl.Relation
instance:AggT Try.prog 26 2:=⟨⟨_,Try.underlying26,trivial⟩,by kernel_rfl⟩
instance:FldT Try.prog 26 0 0:=⟨_,_,Try.underlying26,rfl,rfl,by kernel_rfl⟩
instance:FldT Try.prog 26 1 1:=⟨_,_,Try.underlying26,rfl,rfl,by kernel_rfl⟩
instance:BldT Try.prog 26 #[(0,1),(1,1)]:=⟨_,Try.underlying26,fun w=>by kernel_rfl⟩
instance:ElemT Try.prog 26 [.int .i64 0,.slice none 0 0] 2 32:=⟨by kernel_rfl⟩
-- []int
instance:PlainT Try.prog 29:=⟨_,Try.underlying29,trivial⟩
instance:SliceT Try.prog 29 3:=⟨Try.underlying29⟩
instance:ElemT Try.prog 29 [.slice none 0 0] 1 24:=⟨by kernel_rfl⟩
-- []impl.FactorNode
instance:PlainT Try.prog 30:=⟨_,Try.underlying30,trivial⟩
instance:SliceT Try.prog 30 56:=⟨Try.underlying30⟩
instance:ElemT Try.prog 30 [.slice none 0 0] 1 24:=⟨by kernel_rfl⟩
-- struct { Order []int;Nodes []impl.FactorNode }
instance:AggT Try.prog 31 2:=⟨⟨_,Try.underlying31,trivial⟩,by kernel_rfl⟩
instance:FldT Try.prog 31 0 0:=⟨_,_,Try.underlying31,rfl,rfl,by kernel_rfl⟩
instance:FldT Try.prog 31 1 1:=⟨_,_,Try.underlying31,rfl,rfl,by kernel_rfl⟩
instance:BldT Try.prog 31 #[(0,1),(1,1)]:=⟨_,Try.underlying31,fun w=>by kernel_rfl⟩
instance:ElemT Try.prog 31 [.slice none 0 0,.slice none 0 0] 2 48:=⟨by kernel_rfl⟩
-- impl.Factorization
instance:AggT Try.prog 32 2:=⟨⟨_,Try.underlying32,trivial⟩,by kernel_rfl⟩
instance:FldT Try.prog 32 0 0:=⟨_,_,Try.underlying32,rfl,rfl,by kernel_rfl⟩
instance:FldT Try.prog 32 1 1:=⟨_,_,Try.underlying32,rfl,rfl,by kernel_rfl⟩
instance:BldT Try.prog 32 #[(0,1),(1,1)]:=⟨_,Try.underlying32,fun w=>by kernel_rfl⟩
instance:ElemT Try.prog 32 [.slice none 0 0,.slice none 0 0] 2 48:=⟨by kernel_rfl⟩
-- struct { Values []int;Children []int }
instance:AggT Try.prog 55 2:=⟨⟨_,Try.underlying55,trivial⟩,by kernel_rfl⟩
instance:FldT Try.prog 55 0 0:=⟨_,_,Try.underlying55,rfl,rfl,by kernel_rfl⟩
instance:FldT Try.prog 55 1 1:=⟨_,_,Try.underlying55,rfl,rfl,by kernel_rfl⟩
instance:BldT Try.prog 55 #[(0,1),(1,1)]:=⟨_,Try.underlying55,fun w=>by kernel_rfl⟩
instance:ElemT Try.prog 55 [.slice none 0 0,.slice none 0 0] 2 48:=⟨by kernel_rfl⟩
-- impl.FactorNode
instance:AggT Try.prog 56 2:=⟨⟨_,Try.underlying56,trivial⟩,by kernel_rfl⟩
instance:FldT Try.prog 56 0 0:=⟨_,_,Try.underlying56,rfl,rfl,by kernel_rfl⟩
instance:FldT Try.prog 56 1 1:=⟨_,_,Try.underlying56,rfl,rfl,by kernel_rfl⟩
instance:BldT Try.prog 56 #[(0,1),(1,1)]:=⟨_,Try.underlying56,fun w=>by kernel_rfl⟩
instance:ElemT Try.prog 56 [.slice none 0 0,.slice none 0 0] 2 48:=⟨by kernel_rfl⟩
-- struct { b []uint8;i int;h int }
instance:AggT Try.prog 59 3:=⟨⟨_,Try.underlying59,trivial⟩,by kernel_rfl⟩
instance:FldT Try.prog 59 0 0:=⟨_,_,Try.underlying59,rfl,rfl,by kernel_rfl⟩
instance:FldT Try.prog 59 1 1:=⟨_,_,Try.underlying59,rfl,rfl,by kernel_rfl⟩
instance:FldT Try.prog 59 2 2:=⟨_,_,Try.underlying59,rfl,rfl,by kernel_rfl⟩
instance:BldT Try.prog 59 #[(0,1),(1,1),(2,1)]:=⟨_,Try.underlying59,fun w=>by kernel_rfl⟩
instance:ElemT Try.prog 59 [.slice none 0 0,.int .i64 0,.int .i64 0] 3 40:=⟨by kernel_rfl⟩
-- spec.l1Cur
instance:AggT Try.prog 60 3:=⟨⟨_,Try.underlying60,trivial⟩,by kernel_rfl⟩
instance:FldT Try.prog 60 0 0:=⟨_,_,Try.underlying60,rfl,rfl,by kernel_rfl⟩
instance:FldT Try.prog 60 1 1:=⟨_,_,Try.underlying60,rfl,rfl,by kernel_rfl⟩
instance:FldT Try.prog 60 2 2:=⟨_,_,Try.underlying60,rfl,rfl,by kernel_rfl⟩
instance:BldT Try.prog 60 #[(0,1),(1,1),(2,1)]:=⟨_,Try.underlying60,fun w=>by kernel_rfl⟩
instance:ElemT Try.prog 60 [.slice none 0 0,.int .i64 0,.int .i64 0] 3 40:=⟨by kernel_rfl⟩
-- struct { nodes []impl.FactorNode }
instance:AggT Try.prog 67 1:=⟨⟨_,Try.underlying67,trivial⟩,by kernel_rfl⟩
instance:FldT Try.prog 67 0 0:=⟨_,_,Try.underlying67,rfl,rfl,by kernel_rfl⟩
instance:BldT Try.prog 67 #[(0,1)]:=⟨_,Try.underlying67,fun w=>by kernel_rfl⟩
instance:ElemT Try.prog 67 [.slice none 0 0] 1 24:=⟨by kernel_rfl⟩
-- impl.builder
instance:AggT Try.prog 68 1:=⟨⟨_,Try.underlying68,trivial⟩,by kernel_rfl⟩
instance:FldT Try.prog 68 0 0:=⟨_,_,Try.underlying68,rfl,rfl,by kernel_rfl⟩
instance:BldT Try.prog 68 #[(0,1)]:=⟨_,Try.underlying68,fun w=>by kernel_rfl⟩
instance:ElemT Try.prog 68 [.slice none 0 0] 1 24:=⟨by kernel_rfl⟩
-- uint
instance:PlainT Try.prog 77:=⟨_,Try.underlying77,trivial⟩
instance:ElemT Try.prog 77 [.int .u64 0] 1 8:=⟨by kernel_rfl⟩
-- uint32
instance:PlainT Try.prog 87:=⟨_,Try.underlying87,trivial⟩
instance:ElemT Try.prog 87 [.int .u32 0] 1 4:=⟨by kernel_rfl⟩
end Go.Proofs.Ytcpkiphiaebkmaa
namespace Go.Proofs.Ytcpkiphiaebkmaa
open Go.RowKit

def AL (P:Program) (n:Nat) (ops:Array Oper) (X:List Nat) (C:World→Prop) (K:Env→World→Prop):Nat→Array Bool→Env→World→Prop
 | 0,L,e,w=>Region.ready .any ops L=[]∧K e w
 | f+1,L,e,w=>(Region.ready .any ops L=[]→K e w) ∧
  ∀ i∈Region.ready .any ops L,∃ o,ops[i]? = some o∧EL P n ops (fun e' w'=>(X.contains i=true→C w')∧AL P n ops X C K f (L.setIfInBounds i true) e' w') [o] e w

section
variable {P:Program} {n:Nat} {ops:Array Oper} {X:List Nat} {C:World→Prop} {K:Env→World→Prop}
theorem nB {o:Oper} {a:Act} {w:World} {N N2:Act→World→Prop} {K1 K2:Env→World→Prop} (h:∀ a w,N a w→N2 a w) (hh:o.wp P a w N (nrm n K1)):o.wp P a w N2 (nrm n K2):=by
  unfold Oper.wp at *
  generalize (execOp a.eval o).run P w=r at *
  cases r with
  | ok m w' =>
    cases m <;> simp only [Oper.upon] at hh ⊢ <;>
      first
        | exact h _ _ hh
        | exact Calls.mono hh (fun e w'' he=>by
            cases e with
            | returned v=>exact h _ _ he
            | panicked ch=>exact absurd he.1 (by simp)
            | outgrown=>obtain ⟨_,_,hx,_⟩:=he;exact absurd hx (by simp))
        | exact Rows.mono hh (fun _ _ he=>h _ _ he)
  | halt x w' =>
    cases x <;> simp only [Oper.upon] at hh ⊢
    exact absurd hh.1 (by simp)
theorem lQ {K:Env→World→Prop}:¬ LetsOut (nrm n K):=by
 rintro ⟨_,_,h,_⟩;exact absurd h (by simp)
theorem AL.any:∀ (f:Nat) (L:Array Bool) (e:Env) (a:Act) (w:World),Mt n e a→AL P n ops X C K f L e w→wpAny P .any ops (nrm n K) f L a w
 | 0,_,e,a,_,ha,h=>⟨h.1,rfl,e,ha,h.2⟩
 | f+1,L,e,a,w,ha,h=>by
  refine ⟨fun h0=>⟨rfl,e,ha,h.1 h0⟩,fun i hi=>?_⟩
  obtain ⟨o,ho,hE⟩:=h.2 i hi
  have:=hE a ha
  unfold wpOp
  simp only [ho]
  unfold wpList at this
  have key:∀ a w,wpList P ops (nrm n fun e' w'=>(X.contains i=true→C w')∧AL P n ops X C K f (L.setIfInBounds i true) e' w') [] a w→wpAny P .any ops (nrm n K) f (L.setIfInBounds i true) a w:=by
   rintro a w ⟨_,e',ha',_,h2⟩
   exact AL.any f _ e' a w ha' h2
  split
  ·rename_i hw
   rw [if_pos hw] at this
   rcases this with h1 | ⟨_,h1⟩
   ·exact .inl (nB key h1)
   ·exact absurd h1 lQ
  ·rename_i hw
   rw [if_neg hw] at this
   exact key _ _ this
theorem bR {id:Nat} {l:List Oper} {Q:Exit→Env→World→Prop} {e:Env} {w:World} (X:List Nat) (C:World→Prop) (hm:P.follows .mixedOrders=true)
  (hx:∀ w',Ext w w'→AL P n l.toArray X C (fun e w=>Q .normal e w) l.length (Array.replicate l.length false) e w'):CW P n (.region id l.toArray true) Q e w:=by
 intro a ha
 have h2:=hx { w with drawn:=w.drawn+1 } ⟨rfl,rfl,rfl,Nat.le_refl _,fun _ _=>rfl⟩
 have:=AL.any _ _ _ a _ ha h2
 refine wp_mono (wp_region_any (Q:=nrm n fun e w=>Q .normal e w) hm (by simpa using this)) ?_
 rintro x a w ⟨rfl,e,he,hk⟩
 exact ⟨e,he,hk⟩

def SV (P:Program) (n:Nat) (ops:Array Oper) (C:World→Prop) (o:Oper) (e:Env) (v:Value):Prop :=
 ∀ a,Mt n e a→(Region.wanted o (yielded ops a.tmps)=true∧∀ w',C w'→(execOp a.eval o).run P w'=.ok (.value v) w')∨(Region.wanted o (yielded ops a.tmps)=false∧v=undef)
def gg (ops:Array Oper) (X:List Nat) (L:Array Bool) (i:Nat) (o:Oper):Bool :=
 (List.range ops.size).all fun j=>Nat.beq j i||L.getD j true||(match ops[j]? with
  | some oj=>oj.after.any (fun e=>Region.binds .any e&&Nat.beq e.on i)||(o.apart ops oj&&X.contains j)
  | none=>true)
theorem fw {L:Array Bool} {i:Nat}:i∈Region.ready .any ops L↔L.getD i true=false∧∃ o,ops[i]? = some o∧∀ e∈o.after,Region.binds .any e=true→L.getD e.on false=true:=by
 unfold Region.ready
 simp only [List.mem_filter,List.mem_range,Bool.and_eq_true,Bool.not_eq_true']
 constructor
 ·rintro ⟨h1,h2,h3⟩
  refine ⟨h2,ops[i],Array.getElem?_eq_getElem h1,fun e he hb=>?_⟩
  rw [Array.getElem?_eq_getElem h1] at h3
  simp only [Option.map_some,Option.getD_some,Array.all_eq_true_iff_forall_mem] at h3
  have:=h3 e he
  simpa [hb] using this
 ·rintro ⟨h2,o,h1,h3⟩
  obtain ⟨hlt,rfl⟩:=Array.getElem?_eq_some_iff.1 h1
  refine ⟨hlt,h2,?_⟩
  rw [h1]
  simp only [Option.map_some,Option.getD_some,Array.all_eq_true_iff_forall_mem]
  intro e he
  by_cases hb:Region.binds .any e=true
  ·simp [h3 e he hb]
  ·simp [hb]
theorem fJ {L:Array Bool} {i j:Nat} {d:Bool} (h:j≠i):(L.setIfInBounds i true).getD j d=L.getD j d:=by
 simp [Array.getElem?_setIfInBounds_ne (Ne.symm h)]
theorem j5 {L:Array Bool} {i j:Nat} (h:L.getD j false=true):(L.setIfInBounds i true).getD j false=true:=by
 by_cases hj:j=i
 ·subst hj
  have:j<L.size:=by
   rcases Nat.lt_or_ge j L.size with h1 | h1
   ·exact h1
   ·simp [Array.getElem?_eq_none h1] at h
  simp [this]
 ·rw [fJ hj];exact h
theorem gN {L:Array Bool} {i j:Nat} (hij:j≠i) (h:j∈Region.ready .any ops L):j∈Region.ready .any ops (L.setIfInBounds i true):=by
 obtain ⟨h1,o,h2,h3⟩:=fw.1 h
 exact fw.2 ⟨by rw [fJ hij];exact h1,o,h2,fun e he hb=>j5 (h3 e he hb)⟩
theorem mm (L:Array Bool) (i j:Nat):(L.setIfInBounds i true).setIfInBounds j true=(L.setIfInBounds j true).setIfInBounds i true:=by
 by_cases h:i=j
 ·subst h;rfl
 ·exact Array.setIfInBounds_comm _ _ h
theorem mn {L:Array Bool} {i j:Nat} {o:Oper} (h:gg ops X L i o=true):gg ops X (L.setIfInBounds j true) i o=true:=by
 unfold gg at *
 rw [List.all_eq_true] at *
 intro k hk
 have:=h k hk
 by_cases hkj:k=j
 ·subst hkj
  have:k<ops.size:=by simpa using hk
  by_cases hkl:k<L.size
  ·simp [hkl]
  ·have hn:L[k]? = none:=Array.getElem?_eq_none (by omega)
   simp [hkl]
 ·rw [fJ hkj];exact this
def mz (a:Act):Env:=fun t=>a.tmps.getD t undef
theorem nY {a:Act} (h1:a.tmps.size=n) (h2:a.defers=[]):Mt n (mz a) a:=⟨h1,h2,fun _=>rfl⟩
theorem Mt.uniq {a:Act} {e e':Env} (h:Mt n e a) (h':Mt n e' a):e=e':=by funext t;rw [← h.get,← h'.get]
theorem ms (a:Act) (d:Option Nat) (v:Value):(a.put d v).tmps.size=a.tmps.size:=by cases d <;> simp [Act.put]
theorem mU (a:Act) (d:Option Nat) (v:Value):(a.put d v).defers=a.defers:=by cases d <;> rfl
theorem jH {a b:Act} (h:∀ t,a.tmps.getD t undef=b.tmps.getD t undef) (hs:a.tmps.size=b.tmps.size):a.tmps=b.tmps:=by
 apply Array.ext hs
 intro i h1 h2
 have:=h i
 simpa [Array.getD,h1,h2] using this
theorem l5 {o:Oper} {a a':Act} {N N2:Act→World→Prop} {K1 K2:Env→World→Prop} (h:∀ u w,N (a'.put o.dst u) w→N2 (a.put o.dst u) w) (hd:∀ d u w,¬ N (({ a' with defers:=d :: a'.defers }:Act).put o.dst u) w) {r:Result Next}
    (hh:o.upon P a' N (nrm n K1) r):o.upon P a N2 (nrm n K2) r:=by
  cases r with
  | ok m w' =>
    cases m <;> simp only [Oper.upon] at hh ⊢ <;>
      first
        | exact h _ _ hh
        | exact absurd hh (hd _ _ _)
        | exact Calls.mono hh (fun e w'' he=>by
            cases e with
            | returned v=>exact h _ _ he
            | panicked ch=>exact absurd he.1 (by simp)
            | outgrown=>obtain ⟨_,_,hx,_⟩:=he;exact absurd hx (by simp))
        | exact Rows.mono hh (fun _ _ he=>h _ _ he)
  | halt x w' =>
    cases x <;> simp only [Oper.upon] at hh ⊢
    exact absurd hh.1 (by simp)
def ge (ops:Array Oper):Bool:=ops.all fun o=>match o.op with | .select ..=>false | _=>true
theorem j0 (h:ge ops=true) {i:Nat} {o:Oper} (hi:ops[i]? = some o):∀ cs b,o.op≠.select cs b:=by
 intro cs b e
 unfold ge at h
 rw [Array.all_eq_true_iff_forall_mem] at h
 have:=h o (Array.mem_of_getElem? hi)
 simp [e] at this
theorem mQ (hsel:ge ops=true) (i:Nat) {o:Oper} {d:Nat} {v:Value} (hi:ops[i]? = some o) (hdst:o.dst=some d) (hdn:d<n) :
  ∀ (f:Nat) (L:Array Bool) (e:Env) (w:World),C w→gg ops X L i o=true→i∈Region.ready .any ops L→SV P n ops C o e v→AL P n ops X C K f (L.setIfInBounds i true) (upd e d v) w→AL P n ops X C K (f+1) L e w:=by
 intro f
 induction f with
 | zero =>
  intro L e w hC hf hr hy H
  refine ⟨fun h=>(by rw [h] at hr;cases hr),fun j hj=>?_⟩
  by_cases hji:j=i
  ·subst hji
   refine ⟨o,hi,fun a ha=>?_⟩
   unfold wpList
   rcases hy a ha with ⟨hw,hv⟩ | ⟨hw,rfl⟩
   ·rw [if_pos hw]
    refine .inl ?_
    unfold Oper.wp
    rw [hv w hC]
    simp only [Oper.upon,hdst]
    exact ⟨rfl,_,ha.put hdn v,fun _=>hC,H⟩
   ·rw [if_neg (by simp [hw])]
    rw [hdst]
    exact ⟨rfl,_,ha.put hdn _,fun _=>hC,H⟩
  ·have:=gN (i:=i) hji hj
   rw [H.1] at this;cases this
 | succ f ih =>
  intro L e w hC hf hr hy H
  refine ⟨fun h=>(by rw [h] at hr;cases hr),fun j hj=>?_⟩
  by_cases hji:j=i
  ·subst hji
   refine ⟨o,hi,fun a ha=>?_⟩
   unfold wpList
   rcases hy a ha with ⟨hw,hv⟩ | ⟨hw,rfl⟩
   ·rw [if_pos hw]
    refine .inl ?_
    unfold Oper.wp
    rw [hv w hC]
    simp only [Oper.upon,hdst]
    exact ⟨rfl,_,ha.put hdn v,fun _=>hC,H⟩
   ·rw [if_neg (by simp [hw])]
    rw [hdst]
    exact ⟨rfl,_,ha.put hdn _,fun _=>hC,H⟩
  ·obtain ⟨oj,hoj,hE⟩:=H.2 j (gN hji hj)
   have hjL:=(fw.1 hj)
   have hiL:=(fw.1 hr)
   have hap:o.apart ops oj=true∧X.contains j=true:=by
    have h1:=hf
    unfold gg at h1
    rw [List.all_eq_true] at h1
    have h2:=h1 j (by simp [(Array.getElem?_eq_some_iff.1 hoj).1])
    have hb:Nat.beq j i=false:=fM hji
    simp only [hb,hjL.1,hoj,Bool.false_or,Bool.or_eq_true,Bool.and_eq_true] at h2
    rcases h2 with h2 | h2
    ·exfalso
     obtain ⟨_,h3,h4⟩:=hjL.2
     rw [hoj] at h3;obtain rfl:=Option.some.inj h3
     rw [Array.any_eq_true'] at h2
     obtain ⟨ed,hm,h5⟩:=h2
     simp only [Bool.and_eq_true] at h5
     have h6:=h4 ed hm h5.1
     have h7:ed.on=i:=Nat.eq_of_beq_eq_true h5.2
     rw [h7] at h6
     have:=hiL.1
     cases hx:L[i]? with
     | none=>simp [Array.getD_eq_getD_getElem?,hx] at this
     | some b=>simp [Array.getD_eq_getD_getElem?,hx] at this h6;simp [this] at h6
    ·exact h2
   obtain ⟨h1,h2,h3⟩:=Oper.apart_spec hap.1
   have hso:=j0 hsel hi
   have hsj:=j0 hsel hoj
   refine ⟨oj,hoj,fun a ha=>?_⟩
   have h4:=hE _ (ha.put hdn v)
   have key:∀ u w',nrm n (fun e' w'=>(X.contains j=true→C w')∧AL P n ops X C K f ((L.setIfInBounds i true).setIfInBounds j true) e' w') .normal ((a.put (some d) v).put oj.dst u) w' →
     nrm n (fun e' w'=>(X.contains j=true→C w')∧AL P n ops X C K (f+1) (L.setIfInBounds j true) e' w') .normal (a.put oj.dst u) w':=by
    rintro u w' ⟨_,e1,he1,hc1,hA1⟩
    have hm2:Mt n (mz (a.put oj.dst u)) (a.put oj.dst u):=nY (by rw [ms,ha.size]) (by rw [mU,ha.defers])
    have hcm:(a.put (some d) v).put oj.dst u=(a.put oj.dst u).put (some d) v:=Act.put_comm a v u (fun x hx=>by
     have:=h2 d hdst
     simp only [Option.some.injEq] at hx;subst hx;exact this)
    rw [hcm] at he1
    obtain rfl:=he1.uniq (hm2.put hdn v)
    refine ⟨rfl,_,hm2,hc1,ih _ _ _ (hc1 hap.2) (mn hf) (gN (Ne.symm hji) hr) ?_ (by rw [← mm];exact hA1)⟩
    intro b hb
    have hbt:b.tmps=(a.put oj.dst u).tmps:=jH (fun t=>by rw [hb.get t];rfl) (by rw [hb.size,hm2.size])
    have hbe:b.eval=(a.put oj.dst u).eval:=by rw [hb.eval,hm2.eval]
    rw [hbt,hbe,execOp_put o hso a oj.dst u h3,wanted_put o a oj.dst u h3]
    exact hy a ha
   unfold wpList at h4 ⊢
   have hwe:=wanted_put (ops:=ops) oj a (some d) v (fun x hx=>by simp only [Option.some.injEq] at hx;subst hx;exact h1 d hdst)
   have hxe:=execOp_put oj hsj a (some d) v (fun x hx=>by simp only [Option.some.injEq] at hx;subst hx;exact h1 d hdst)
   rw [hwe] at h4
   split
   ·rename_i hw
    rw [if_pos hw] at h4
    rcases h4 with h5 | ⟨_,h5⟩
    ·refine .inl ?_
     unfold Oper.wp at h5 ⊢
     rw [hxe] at h5
     refine l5 key ?_ h5
     rintro dd u w' ⟨_,e1,he1,_⟩
     have:=he1.defers
     cases hdj:oj.dst <;> simp [Act.put,hdj] at this
    ·exact absurd h5 lQ
   ·rename_i hw
    rw [if_neg hw] at h4
    exact key _ _ h4
theorem cl {f:Nat} {L:Array Bool} {e:Env} {w:World} (h:Region.ready .any ops L=[]) (hK:K e w):AL P n ops X C K f L e w:=by
 cases f with
 | zero=>exact ⟨h,hK⟩
 | succ f=>exact ⟨fun _=>hK,fun i hi=>by rw [h] at hi;cases hi⟩
theorem nH (i:Nat) {f:Nat} {L:Array Bool} {e:Env} {w:World} {o:Oper} (hr:Region.ready .any ops L=[i]) (ho:ops[i]? = some o)
  (h:EL P n ops (fun e' w'=>(X.contains i=true→C w')∧AL P n ops X C K f (L.setIfInBounds i true) e' w') [o] e w):AL P n ops X C K (f+1) L e w :=
 ⟨fun h0=>(by rw [hr] at h0;cases h0),fun j hj=>by
  rw [hr] at hj
  have e:j=i:=by simpa using hj
  rw [e]
  exact ⟨o,ho,h⟩⟩
theorem ay {o:Oper} {e:Env} {v:Value} (hg:o.guard=none) (h:∀ w',C w'→PV P o e w' v):SV P n ops C o e v:=fun a ha=>.inl ⟨by simp [Region.wanted,hg],fun w' hw'=>by rw [ha.eval];exact h w' hw' w' (Ext.refl _)⟩
theorem lW (hsel:ge ops=true) (i:Nat) {o:Oper} {d:Nat} {v:Value} {f:Nat} {L:Array Bool} {e:Env} {w:World} (hi:ops[i]? = some o) (hdst:o.dst=some d) (hdn:d<n) (hC:C w) (hf:gg ops X L i o=true) (hr:(Region.ready .any ops L).contains i=true)
  (hy:SV P n ops C o e v) (hK:AL P n ops X C K f (L.setIfInBounds i true) (upd e d v) w):AL P n ops X C K (f+1) L e w :=
 mQ hsel i hi hdst hdn f L e w hC hf (by simpa using hr) hy hK
section
variable {wA:World} {v:Value} {d:Nat} {ty:TypeId} {pos:String} {af:Array Edge} {x y:Operand} {α:Type} {R:Rep α} {E E':TypeId} {f:Nat} {L:Array Bool} {e:Env} {w:World}
theorem ez (hsel:ge ops=true) (i:Nat) {t:TypeId} [SliceT P t E'] {zz:List Value} {m bytes:Nat} [ElemT P E' zz m bytes] {xs:List α} (hi':ops[i]? = some ⟨some d,.indexAddr t x y,ty,pos,af,none⟩) (hC:C w) (hf:gg ops X L i ⟨some d,.indexAddr t x y,ty,pos,af,none⟩=true) (hrd:(Region.ready .any ops L).contains i=true)
  (hs:ev e x=v) (hr:(aj R E).rd wA [v] xs) (hn:R.sz=m) (hpos:0<m) {k:IntKind} {j:Int} (hi:ev e y=.int k j) {u:α} (h:ix xs j=some u) (hd:d<n)
  (hK:∀ b off ec,R.rd wA ec u→(∀ j c,ec[j]? = some c→wA.cell? ⟨b,off+j,none⟩=some c)→AL P n ops X C K f (L.setIfInBounds i true) (upd e d (.pointer (some ⟨b,off,none⟩))) w):AL P n ops X C K (f+1) L e w:=by
 obtain ⟨b,off,ec,h1,h2,h3⟩:=hD (P:=P) (d:=some d) (ty:=ty) (pos:=pos) (af:=af) (t:=t) hs hr hn hpos hi h
 exact lW hsel i hi' rfl hd hC hf hrd (ay rfl fun w' _=>h3 w') (hK b off ec h1 h2)
theorem gi (hsel:ge ops=true) (i:Nat) {t:TypeId} {lo hi:Option Operand} [SliceT P t E'] {z:List Value} {m bytes:Nat} [ElemT P E' z m bytes] (hi':ops[i]? = some ⟨some d,.slice t x lo hi none,ty,pos,af,none⟩) (hC:C w) (hf:gg ops X L i ⟨some d,.slice t x lo hi none,ty,pos,af,none⟩=true) (hrd:(Region.ready .any ops L).contains i=true) (hn:R.sz=m)
  (hx:ev e x=v) {xs ys:List α} (hr:(aj R E).rd wA [v] xs) {l h:Int} (hlo:(lo.map (ev e)=some (.int .i64 l))∨(lo=none∧l=0)) (hhi:(hi.map (ev e)=some (.int .i64 h))∨(hi=none∧h=xs.length)) (hq:slc xs l h=some ys) (hd:d<n)
  (hK:∀ v',(aj R E).rd wA [v'] ys→AL P n ops X C K f (L.setIfInBounds i true) (upd e d v') w):AL P n ops X C K (f+1) L e w:=by
 obtain ⟨v',h1,h2⟩:=jO (P:=P) (d:=some d) (ty:=ty) (pos:=pos) (af:=af) (t:=t) hn hx hr hlo hhi hq
 exact lW hsel i hi' rfl hd hC hf hrd (ay rfl fun w' _=>h2 w') (hK v' h1)
end
end
class FlatR {α:Type} (R:Rep α) (f:outParam (α→Value)):Prop where
 h:∀ {w:World} {cs:List Value} {x:α},R.rd w cs x→cs=[f x]
instance:FlatR cK (Value.int .i64):=⟨fun h=>h⟩
instance:FlatR u8R (Value.int .u8):=⟨fun h=>h⟩
instance:FlatR my Value.bool:=⟨fun h=>h⟩
section
variable {P:Program} {n:Nat} {ops:Array Oper} {K:Env→World→Prop} {KQ:Env→Prop} {rest:List Oper} {e:Env} {w w0:World} {v:Value} {d:Nat} {ty:TypeId} {pos:String} {af:Array Edge} {Γ:List Asn} {x y:Operand} {α:Type} {R:Rep α} {E:TypeId} {f:α→Value}
theorem Sat.ownCell (i:Nat) [hf:FlatR R f] {xs:List α} (hS:Sat w0 w Γ) (hi:Γ[i]? = some (Own (aj R E) [v] xs)) {g cap ln:Nat} (hv:v=.slice (some ⟨g,0,none⟩) ln cap) {j:Int} {u:α} (h:ix xs j=some u):w.cell? ⟨g,j.toNat*1,none⟩=some (f u):=by
 obtain ⟨k,rfl,hk,rfl⟩:=fd h
 obtain ⟨fp,ho,_⟩:=(hS.top i hi).head
 rcases ho with ⟨_,h2,_⟩ | ⟨g',cap',cur,ccs,f2,hv',hg,h1,h2,h3,h4,h5,rfl⟩
 ·subst h2;simp at hk
 subst hv
 simp at hv'
 obtain ⟨rfl,rfl,rfl⟩:=hv'
 obtain ⟨ec,hec,hcc⟩:=iA (dI h5) k hk
 obtain rfl:=hf.h hec
 have hsz:R.sz=1:=by have:=R.rd_len hec;simpa using this.symm
 have h0:=hcc 0 _ rfl
 rw [cell_of_row w g _ cur E (0,0) hg,← Array.getElem?_toList]
 rw [← h4,List.getElem?_take] at h0
 simp only [Int.toNat_natCast]
 rw [hsz] at h0
 split at h0
 ·simpa using h0
 ·cases h0
theorem cR (i:Nat) {xs:List α} (hS:Sat w0 w Γ) (hi:Γ[i]? = some (Own (aj R E) [v] xs)) {j:Int} {u:α} (h:ix xs j=some u):∃ g cap,v=.slice (some ⟨g,0,none⟩) xs.length cap:=by
 obtain ⟨k,rfl,hk,rfl⟩:=fd h
 rcases (hS.top i hi).shape with ⟨_,h2⟩ | ⟨g,cap,h⟩
 ·subst h2;simp at hk
 ·exact ⟨g,cap,h⟩
theorem cv {d:Option Nat} {t:TypeId} [ht:SliceT P t E] {zz:List Value} {bytes:Nat} [hz:ElemT P E zz 1 bytes] {xs:List α} (hs:ev e x=v) {g cap:Nat} (hv:v=.slice (some ⟨g,0,none⟩) xs.length cap) {k:IntKind} {j:Int} (hi:ev e y=.int k j) {u:α} (h:ix xs j=some u) :
  PV P ⟨d,.indexAddr t x y,ty,pos,af,none⟩ e w (.pointer (some ⟨g,j.toNat*1,none⟩)):=fun w' _=>by
 obtain ⟨k',rfl,hk,rfl⟩:=fd h
 subst hv
 have hz:=hz.h
 cases hq:P.info? E with
 | none=>simp [hq] at hz
 | some inf =>
  simp [hq] at hz
  have hsz:inf.size=1:=hz.2.1
  unfold execOp
  simp [hs,hi,Instr.indexAt,asIntOf,run_underlying ht.h,sizeOf,typeInfo,hq,hk,Addr.add_lit,hsz]
end
end Go.Proofs.Ytcpkiphiaebkmaa
namespace Go.Proofs.Ytcpkiphiaebkmaa
theorem nV:Goes Try.prog 4:=⟨_,Try.func4,by kernel_rfl,by kernel_rfl⟩
theorem n6:Goes Try.prog 5:=⟨_,Try.func5,by kernel_rfl,by kernel_rfl⟩
theorem mx:Goes Try.prog 6:=⟨_,Try.func6,by kernel_rfl,by kernel_rfl⟩
theorem kK:Goes Try.prog 7:=⟨_,Try.func7,by kernel_rfl,by kernel_rfl⟩
theorem nP:Goes Try.prog 8:=⟨_,Try.func8,by kernel_rfl,by kernel_rfl⟩
theorem kR:Goes Try.prog 9:=⟨_,Try.func9,by kernel_rfl,by kernel_rfl⟩
theorem nl:Goes Try.prog 10:=⟨_,Try.func10,by kernel_rfl,by kernel_rfl⟩
theorem nn:Goes Try.prog 11:=⟨_,Try.func11,by kernel_rfl,by kernel_rfl⟩
theorem ju:Goes Try.prog 12:=⟨_,Try.func12,by kernel_rfl,by kernel_rfl⟩
theorem m8:Goes Try.prog 13:=⟨_,Try.func13,by kernel_rfl,by kernel_rfl⟩
theorem kY:Goes Try.prog 14:=⟨_,Try.func14,by kernel_rfl,by kernel_rfl⟩
theorem nc:Goes Try.prog 15:=⟨_,Try.func15,by kernel_rfl,by kernel_rfl⟩
theorem lh:Goes Try.prog 16:=⟨_,Try.func16,by kernel_rfl,by kernel_rfl⟩
theorem nF:Goes Try.prog 17:=⟨_,Try.func17,by kernel_rfl,by kernel_rfl⟩
theorem nm:Goes Try.prog 18:=⟨_,Try.func18,by kernel_rfl,by kernel_rfl⟩
theorem kX:Goes Try.prog 19:=⟨_,Try.func19,by kernel_rfl,by kernel_rfl⟩
theorem lG:Goes Try.prog 20:=⟨_,Try.func20,by kernel_rfl,by kernel_rfl⟩
theorem de:Goes Try.prog 21:=⟨_,Try.func21,by kernel_rfl,by kernel_rfl⟩
theorem nt:Goes Try.prog 22:=⟨_,Try.func22,by kernel_rfl,by kernel_rfl⟩
theorem nu:Goes Try.prog 23:=⟨_,Try.func23,by kernel_rfl,by kernel_rfl⟩
theorem jj:Goes Try.prog 24:=⟨_,Try.func24,by kernel_rfl,by kernel_rfl⟩
theorem ir:Goes Try.prog 25:=⟨_,Try.func25,by kernel_rfl,by kernel_rfl⟩
theorem jt:Goes Try.prog 26:=⟨_,Try.func26,by kernel_rfl,by kernel_rfl⟩
theorem nh:Goes Try.prog 27:=⟨_,Try.func27,by kernel_rfl,by kernel_rfl⟩
theorem gG:Goes Try.prog 28:=⟨_,Try.func28,by kernel_rfl,by kernel_rfl⟩
theorem m9:Goes Try.prog 29:=⟨_,Try.func29,by kernel_rfl,by kernel_rfl⟩
theorem nb:Goes Try.prog 30:=⟨_,Try.func30,by kernel_rfl,by kernel_rfl⟩
theorem fU:Goes Try.prog 31:=⟨_,Try.func31,by kernel_rfl,by kernel_rfl⟩
theorem lF:Goes Try.prog 32:=⟨_,Try.func32,by kernel_rfl,by kernel_rfl⟩
theorem lq:Goes Try.prog 33:=⟨_,Try.func33,by kernel_rfl,by kernel_rfl⟩
theorem ni:Goes Try.prog 34:=⟨_,Try.func34,by kernel_rfl,by kernel_rfl⟩
theorem gu:Goes Try.prog 35:=⟨_,Try.func35,by kernel_rfl,by kernel_rfl⟩
theorem ib:Goes Try.prog 36:=⟨_,Try.func36,by kernel_rfl,by kernel_rfl⟩
theorem nK:Goes Try.prog 37:=⟨_,Try.func37,by kernel_rfl,by kernel_rfl⟩
theorem nk:Goes Try.prog 38:=⟨_,Try.func38,by kernel_rfl,by kernel_rfl⟩
theorem lI:Goes Try.prog 39:=⟨_,Try.func39,by kernel_rfl,by kernel_rfl⟩
theorem nx:Goes Try.prog 40:=⟨_,Try.func40,by kernel_rfl,by kernel_rfl⟩
theorem nA:Goes Try.prog 41:=⟨_,Try.func41,by kernel_rfl,by kernel_rfl⟩
theorem gz:Goes Try.prog 42:=⟨_,Try.func42,by kernel_rfl,by kernel_rfl⟩
theorem np:Goes Try.prog 43:=⟨_,Try.func43,by kernel_rfl,by kernel_rfl⟩
theorem kZ:Goes Try.prog 44:=⟨_,Try.func44,by kernel_rfl,by kernel_rfl⟩
theorem nD:Goes Try.prog 45:=⟨_,Try.func45,by kernel_rfl,by kernel_rfl⟩
theorem jG:Goes Try.prog 46:=⟨_,Try.func46,by kernel_rfl,by kernel_rfl⟩
theorem jl:Goes Try.prog 47:=⟨_,Try.func47,by kernel_rfl,by kernel_rfl⟩
theorem nw:Goes Try.prog 48:=⟨_,Try.func48,by kernel_rfl,by kernel_rfl⟩
end Go.Proofs.Ytcpkiphiaebkmaa
namespace Go.Proofs.Ytcpkiphiaebkmaa
open Go.RowKit Go.ChangeShapes Go.WideShapes Go.ChangeAt

def jb {α:Type} (P:Program) (R:Rep α) (T:TypeId):Prop :=
 ∀ {H:Type} (enc:TypeId × Value→H) (w:World) (base:Nat) (spare:Nat→Bool) (held:Bool) (fuel:Nat) (cs:List Value) (x:DataW H × List MemPlace),DataW.trod enc P w base spare held fuel T cs=some x→∃ y,R.rd w cs y

theorem ka {α:Type} {P:Program} {R:Rep α} {T e E:TypeId} (ht:P.underlying T=some (.slice e)) (hs:P.cellsOf e=R.sz) (hpos:0<R.sz) (ho:jb P R e):jb P (aj R E) T:=by
 intro H enc w base spare held fuel cs x h
 rcases DataW.trod_slice ht h with ⟨rfl,_⟩ | ⟨a,len,cap,elems,rst,n,_,rfl,_,hb,hlc,hm,hel,hev,_⟩
 ·exact ⟨[],none,0,[],rfl,Nat.le_refl _,Nat.zero_le _,fun _=>rfl,rfl,.inl rfl⟩
 ·have hone:∀ i,i<len→∃ ec y,R.rd w ec y∧∀ j c,ec[j]? = some c→w.cell? (a.add (i*R.sz) |>.add j)=some c:=by
   intro i hi
   have h1:=hev i hi
   rw [List.getElem?_eq_getElem (by omega),hs] at h1
   obtain ⟨ec,h2,h3⟩:=Option.bind_eq_some_iff.1 h1
   obtain ⟨y,hy⟩:=ho enc w base spare held n ec _ h3
   obtain ⟨_,h4,h5⟩:=World.cells?_some h2
   exact ⟨ec,y,hy,fun j c hj=>by rw [h5 j (by have:=(List.getElem?_eq_some_iff.1 hj).1;omega)];exact hj⟩
  by_cases hl0:len=0
  ·subst hl0
   exact ⟨[],some a,cap,[],rfl,hlc,hm,by simp,rfl,.inl rfl⟩
  obtain ⟨b,off,spot⟩:=a
  have hspot:spot=none:=by
   obtain ⟨ec,y,hy,hc⟩:=hone 0 (by omega)
   have hl:=R.rd_len hy
   have h0:=hc 0 ec[0] (by simp)
   simp only [Nat.zero_mul,Addr.add,if_true] at h0
   cases spot with
   | none=>rfl
   | some s =>
    unfold World.cell? at h0
    split at h0 <;> simp at h0
  subst hspot
  have hall:∀ k,k≤len→∃ ys ccs,ys.length=k∧rdL R w ccs ys∧∀ j c,ccs[j]? = some c→w.cell? ⟨b,off+j,none⟩=some c:=by
   intro k
   induction k with
   | zero=>intro _;exact ⟨[],[],rfl,rfl,by simp⟩
   | succ k ih =>
    intro hk
    obtain ⟨ys,ccs,h1,h2,h3⟩:=ih (by omega)
    obtain ⟨ec,y,hy,hc⟩:=hone k (by omega)
    refine ⟨ys++[y],ccs++ec,by simp [h1],hZ (ys:=[y]) ⟨ec,[],by simp,hy,rfl⟩ h2,fun j c hj=>?_⟩
    have hcl:=ek h2
    by_cases hj1:j<ccs.length
    ·rw [List.getElem?_append_left hj1] at hj;exact h3 j c hj
    ·rw [List.getElem?_append_right (by omega)] at hj
     have:=hc (j-ccs.length) c hj
     rw [Addr.add_lit,Addr.add_lit] at this
     rw [show off+j=off+k*R.sz+(j-ccs.length) by rw [hcl,h1] at *;omega]
     exact this
  obtain ⟨ys,ccs,h1,h2,h3⟩:=hall len (Nat.le_refl _)
  exact ⟨ys,some ⟨b,off,none⟩,cap,ccs,by rw [h1],by omega,hm,by simp,h2,.inr ⟨b,off,rfl,h3⟩⟩
def jv (n:Int):Prop:=0≤n∧n≤255
def u8F:Rep Int where
 sz:=1
 rd _ cs n:=cs=[.int .u8 n]∧jv n
 own _ cs n fp:=(cs=[.int .u8 n]∧jv n)∧fp=[]
 rd_len h:=by rw [h.1];rfl
 rd_one h:=by rw [h.1];simp [Value.oneCell']
 rd_ext h _:=h
 own_rd h:=h.1
 own_ext h _:=h
 own_lt h:=by rw [h.2];simp
theorem wf8 {n:Int} (h:(Lit.int .u8 n).wf=true):jv n:=by
 unfold Lit.wf at h
 simp only [Bool.and_eq_true,decide_eq_true_eq] at h
 exact ⟨h.1,h.2⟩
theorem lv {P:Program} {T:TypeId} (ht:P.underlying T=some (.int .u8)):jb P u8F T:=by
 intro H enc w base spare held fuel cs x h
 obtain ⟨n,rfl,_,hw⟩:=DataW.trod_int ht h
 exact ⟨n,rfl,wf8 hw⟩
theorem lj {w:World}:∀ {xs:List Int} {ccs:List Value},rdL u8F w ccs xs→rdL u8R w ccs xs∧∀ v∈xs,jv v
 | [],_,h=>⟨h,by simp⟩
 | x :: xs,_,h=>by
  obtain ⟨ec,rest,rfl,h1,h2⟩:=h
  obtain ⟨g1,g2⟩:=lj h2
  refine ⟨⟨ec,rest,rfl,h1.1,g1⟩,fun v hv=>?_⟩
  rcases List.mem_cons.1 hv with rfl | hv
  ·exact h1.2
  ·exact g2 v hv
theorem mq {E:TypeId} {w:World} {cs:List Value} {xs:List Int} (h:(aj u8F E).rd w cs xs):(aj u8R E).rd w cs xs∧∀ v∈xs,jv v:=by
 obtain ⟨ao,cap,ccs,rfl,h1,h2,h3,h4,h5⟩:=h
 obtain ⟨g1,g2⟩:=lj h4
 exact ⟨⟨ao,cap,ccs,rfl,h1,h2,h3,g1,h5⟩,g2⟩
end Go.Proofs.Ytcpkiphiaebkmaa
namespace Go.Proofs.Ytcpkiphiaebkmaa
open Go.RowKit

theorem bs {α β:Type} (a:α) (f:α→Option β):(some a).bind f=f a:=rfl
theorem aU {α:Type} {xs:List α} {i:Nat} (h:i<xs.length):ix xs (i:Int)=some xs[i]:=by
 unfold ix;rw [if_pos (by omega)];simp [h]
theorem gw {α:Type} {xs:List α} {i:Int} (h0:0≤i) (h:i<xs.length):ix xs i=some (xs[i.toNat]'(by omega)):=by
 unfold ix;rw [if_pos h0];simp
theorem fX {n:Int} (h:-4611686018427387904≤n) (h2:n≤4611686018427387904):rng n=true:=by
 unfold rng;simp only [Bool.and_eq_true,decide_eq_true_eq];omega
theorem et {a b:Int} (h:-4611686018427387904≤a+b) (h2:a+b≤4611686018427387904):ad a b=some (a+b):=by unfold ad;rw [if_pos (fX h h2)]
theorem ea {a b:Int} (h:-4611686018427387904≤a-b) (h2:a-b≤4611686018427387904):sb a b=some (a-b):=by unfold sb;rw [if_pos (fX h h2)]
theorem jd {a b:Int} (h:-4611686018427387904≤a*b) (h2:a*b≤4611686018427387904):ml a b=some (a*b):=by unfold ml;rw [if_pos (fX h h2)]
theorem ad1 {i:Nat} (h:i<1099511627776):ad (i:Int) 1=some ((i+1:Nat):Int):=by rw [et (by omega) (by omega)];simp
theorem dlt {i n:Nat} (h:i<n):decide ((i:Int)<(n:Int))=true:=by simp;omega
theorem dge {i n:Nat} (h:¬ i<n):decide ((i:Int)<(n:Int))=false:=by simp;omega
theorem fR {α:Type} {xs:List α} {i:Nat} {y:α} (h:i<xs.length):sto xs (i:Int) y=some (xs.set i y):=by
 unfold sto;rw [if_pos ⟨by omega,by simpa using h⟩];simp
theorem ny {α:Type} {b:Nat} {xs ys:List α} (h:(xs.length+ys.length)*b≤140737488355328):apd b xs ys=some (xs++ys):=by unfold apd;rw [if_pos h]
theorem da {α:Type} {b:Nat} {xs ys:List α} (hb:b≤64) (h:xs.length+ys.length≤2199023255552):apd b xs ys=some (xs++ys):=by
 refine ny (Nat.le_trans (Nat.mul_le_mul h hb) (by omega))
theorem kQ {α:Type} {b:Nat} {z:α} {n:Nat} (hb:b≤64) (h:n≤2199023255552):mk b z (n:Int)=some (List.replicate n z):=by
 unfold mk;rw [if_pos ⟨by omega,by simpa using Nat.le_trans (Nat.mul_le_mul h hb) (by omega),by simp;omega⟩];simp
theorem fO {α:Type} {xs:List α} {lo hi:Nat} (h1:lo≤hi) (h2:hi≤xs.length):slc xs (lo:Int) (hi:Int)=some ((xs.take hi).drop lo):=by
 unfold slc;rw [if_pos ⟨by omega,by omega,by omega⟩];simp

def cM {σ R:Type} (st:Nat→σ→Sum R σ):Nat→Nat→σ→Sum R σ
 | 0,_,s=>.inr s
 | n+1,i,s=>match st i s with
  | .inl r=>.inl r
  | .inr s'=>cM st n (i+1) s'
theorem nS {σ R V:Type} (L:Nat→σ→Int→Option (Sum R V)) (n:Nat) (hn:n<1099511627776) (st:Nat→σ→Sum R σ) (fin:σ→V) (I:Nat→σ→Prop)
  (hstep:∀ k i s,i<n→I i s→L (k+1) s (i:Int)=(match st i s with | .inl r=>some (.inl r) | .inr s'=>L k s' ((i+1:Nat):Int))∧∀ s',st i s=.inr s'→I (i+1) s')
  (hend:∀ k s,I n s→L (k+1) s (n:Int)=some (.inr (fin s))) :
  ∀ k i s,i≤n→n-i<k→I i s→L k s (i:Int)=some (match cM st (n-i) i s with | .inl r=>.inl r | .inr s'=>.inr (fin s')):=by
 intro k
 induction k with
 | zero=>intro i s hi hk;omega
 | succ k ih =>
  intro i s hi hk hI
  by_cases h:i<n
  ·obtain ⟨h1,h2⟩:=hstep k i s h hI
   rw [h1,show n-i=(n-(i+1))+1 by omega,cM]
   cases hs:st i s with
   | inl r=>rfl
   | inr s'=>exact ih (i+1) s' (by omega) (by omega) (h2 s' hs)
  ·obtain rfl:i=n:=by omega
   rw [hend k s hI,Nat.sub_self,cM]
theorem n8 {σ V:Type} (L:Nat→σ→Int→Option V) (n:Nat) (hn:n<1099511627776) (st:Nat→σ→σ) (fin:σ→V) (I:Nat→σ→Prop)
  (hstep:∀ k i s,i<n→I i s→L (k+1) s (i:Int)=L k (st i s) ((i+1:Nat):Int)∧I (i+1) (st i s))
  (hend:∀ k s,I n s→L (k+1) s (n:Int)=some (fin s)) :
  ∀ k i s,i≤n→n-i<k→I i s→L k s (i:Int)=some (fin ((List.range' i (n-i)).foldl (fun s i=>st i s) s)):=by
 intro k
 induction k with
 | zero=>intro i s hi hk;omega
 | succ k ih =>
  intro i s hi hk hI
  by_cases h:i<n
  ·obtain ⟨h1,h2⟩:=hstep k i s h hI
   rw [h1,show n-i=(n-(i+1))+1 by omega,List.range'_succ,List.foldl_cons]
   exact ih (i+1) _ (by omega) (by omega) h2
  ·obtain rfl:i=n:=by omega
   rw [hend k s hI,Nat.sub_self];rfl
theorem fc {R V:Type} (L:Nat→Int→Option (Sum R V)) (n:Nat) (hn:n<1099511627776) (b:R) (p:Nat→Bool) (v:V)
  (hstep:∀ k i,i<n→L (k+1) (i:Int)=bif p i then L k ((i+1:Nat):Int) else some (.inl b))
  (hend:∀ k,L (k+1) (n:Int)=some (.inr v)) :
  ∀ k i,i≤n→n-i<k→L k (i:Int)=some (bif (List.range' i (n-i)).all p then .inr v else .inl b):=by
 intro k
 induction k with
 | zero=>intro i hi hk;omega
 | succ k ih =>
  intro i hi hk
  by_cases h:i<n
  ·rw [hstep k i h,show n-i=(n-(i+1))+1 by omega,List.range'_succ,List.all_cons]
   cases hp:p i with
   | true=>rw [cond_true,Bool.true_and];exact ih (i+1) (by omega) (by omega)
   | false=>rfl
  ·obtain rfl:i=n:=by omega
   rw [hend k,Nat.sub_self];rfl
theorem fx {α:Type} (xs:List α) (p:α→Bool) (q:Nat→Bool) (h:∀ i (hi:i<xs.length),q i=p xs[i]):(List.range' 0 xs.length).all q=xs.all p:=by
 rw [Bool.eq_iff_iff,List.all_eq_true,List.all_eq_true]
 constructor
 ·intro hq x hx
  obtain ⟨i,hi,rfl⟩:=List.getElem_of_mem hx
  rw [← h i hi];exact hq i (by simp;omega)
 ·intro hp i hi
  have hi':i<xs.length:=by simpa using hi
  rw [h i hi'];exact hp _ (List.getElem_mem hi')
theorem jw {α:Type} [DecidableEq α] {xs ys:List α} (hl:xs.length=ys.length) (q:Nat→Bool) (h:∀ i (hi:i<xs.length),q i=decide (xs[i]=ys[i]'(by omega))):(List.range' 0 xs.length).all q=decide (xs=ys):=by
 rw [Bool.eq_iff_iff,List.all_eq_true,decide_eq_true_iff]
 constructor
 ·intro hq
  refine List.ext_getElem hl fun i h1 h2=>?_
  have:=hq i (by simp;omega)
  rw [h i h1] at this
  exact of_decide_eq_true this
 ·rintro rfl i hi
  have hi':i<xs.length:=by simpa using hi
  rw [h i hi'];simp

section
variable {α:Type}
def gj (p:α→Prop) (m:Nat) (xs:List α):Prop:=xs.length≤m∧∀ x∈xs,p x

end
theorem hJ (x y:Int):(x != y)=!decide (x=y):=by by_cases h:x=y <;> simp [h]
theorem kD (x y:Int):(x == y)=decide (x=y):=by by_cases h:x=y <;> simp [h]
end Go.Proofs.Ytcpkiphiaebkmaa
namespace Go.Proofs.Ytcpkiphiaebkmaa
open Go.RowKit Go.ChangeShapes Go.WideShapes Go.ChangeAt
theorem ma:ownKnob Try.prog.godebug=none:=by kernel_rfl
theorem mr:laidOutB Try.prog=true:=by kernel_rfl
theorem lp {α:Type} {R:Rep α} {E:TypeId} {p:α→Prop} (h:∀ {w:World} {cs:List Value} {x:α},R.rd w cs x→p x) {w:World} {cs:List Value} {xs:List α} (hr:(aj R E).rd w cs xs):gj p 9223372036854775807 xs:=by
 obtain ⟨ao,cap,ccs,rfl,h1,h2,h3,h4,h5⟩:=hr
 refine ⟨by unfold maxLen at h2;omega,fun x hx=>?_⟩
 obtain ⟨j,hj,rfl⟩:=List.getElem_of_mem hx
 obtain ⟨ec,h6,_⟩:=iA h4 j hj
 exact h h6
theorem mg:jb Try.prog (aj u8F 5) 22:=ka Try.underlying22 (by kernel_rfl) (by decide) (lv Try.underlying5)
theorem nZ {w:World} {cs:List Value} {x:List Int} (h:((aj u8R 5)).rd w cs x):(gj (fun _=>True) 9223372036854775807) x:=lp (fun _=>trivial) h
end Go.Proofs.Ytcpkiphiaebkmaa
namespace Go.Proofs.Ytcpkiphiaebkmaa
open Go.RowKit

theorem Sat.splitp {w0 w:World} {A B C:Asn} {Γ:List Asn} (h:Sat w0 w (A :: Γ)) (k:∀ f,A.holds w f→∃ p q,(p++q).Perm f∧B.holds w p∧C.holds w q):Sat w0 w (B :: C :: Γ):=by
 obtain ⟨hb,_,⟨f1,f2,rfl,h1,h2⟩,hn,h3⟩:=h
 obtain ⟨p,q,hp,k1,k2⟩:=k f1 h1
 have hpp:(p++(q++f2)).Perm (f1++f2):=by rw [← List.append_assoc];exact List.Perm.append_right _ hp
 exact ⟨hb,p++(q++f2),⟨p,q++f2,rfl,k1,q,f2,rfl,k2,h2⟩,hpp.nodup_iff.2 hn,fun b hb'=>h3 b (hpp.mem_iff.1 hb')⟩
theorem Sat.joinp {w0 w:World} {A B C:Asn} {Γ:List Asn} (h:Sat w0 w (A :: B :: Γ)) (k:∀ f g,A.holds w f→B.holds w g→∃ p,p.Perm (f++g)∧C.holds w p):Sat w0 w (C :: Γ):=by
 obtain ⟨hb,_,⟨f1,_,rfl,h1,f2,f3,rfl,h2,h4⟩,hn,h3⟩:=h
 obtain ⟨p,hp,k1⟩:=k f1 f2 h1 h2
 have hpp:(p++f3).Perm (f1++(f2++f3)):=by rw [← List.append_assoc];exact List.Perm.append_right _ hp
 exact ⟨hb,p++f3,⟨p,f3,rfl,k1,h4⟩,hpp.nodup_iff.2 hn,fun b hb'=>h3 b (hpp.mem_iff.1 hb')⟩
section
variable {α β:Type} {R:Rep α} {S:Rep β} {w0 w:World} {Γ:List Asn} {E:TypeId} {v:Value}
def md (R:Rep α) (E:TypeId) (v:Value) (xs:List α) (i:Nat) (ec:List Value):Asn where
 holds w fp:=(∀ b∈fp,b<w.heap.size)∧∀ w' y f',(∀ b∈fp,w'.heap[b]? = w.heap[b]?)→R.own w' ec y f'→∃ p,p.Perm (f'++fp)∧(aj R E).own w' [v] (xs.set i y) p
 ext h he:=by
  refine ⟨fun b hb=>?_,fun w'' y f' he' ho=>h.2 w'' y f' (fun b hb=>(he' b hb).trans (he b hb)) ho⟩
  have h1:=h.1 b hb
  have h2:=he b hb
  rw [Array.getElem?_eq_getElem h1] at h2
  exact (Array.getElem?_eq_some_iff.1 h2).1
 lt h:=h.1
theorem iJ {w:World}:∀ {xs:List α} {ccs:List Value} {f:List Nat},dh R w ccs xs f→∀ (k:Nat) (hk:k<xs.length),
  ∃ ec f1 f2 f3,R.own w ec xs[k] f2∧f=f1++(f2++f3)∧(∀ j c,ec[j]? = some c→ccs[k*R.sz+j]? = some c) ∧
   ∀ w' y f',(∀ b∈f1++f3,w'.heap[b]? = w.heap[b]?)→R.own w' ec y f'→dh R w' ccs (xs.set k y) (f1++(f'++f3))
 | [],_,_,_,k,hk=>absurd hk (by simp)
 | x :: xs,_,_,h,k,hk=>by
  obtain ⟨ec,rest,f1,f2,rfl,rfl,h1,h2⟩:=h
  cases k with
  | zero =>
   refine ⟨ec,[],f1,f2,h1,rfl,fun j c hj=>?_,fun w' y f' he ho=>?_⟩
   ·have hlt:j<ec.length:=(List.getElem?_eq_some_iff.1 hj).1
    rw [Nat.zero_mul,Nat.zero_add,List.getElem?_append_left hlt];exact hj
   ·exact ⟨ec,rest,f',f2,rfl,rfl,ho,dM h2 fun b hb=>he b (by simpa using hb)⟩
  | succ k =>
   obtain ⟨ec',g1,g2,g3,k1,rfl,k3,k4⟩:=iJ h2 k (by simpa using hk)
   refine ⟨ec',f1++g1,g2,g3,by simpa using k1,by simp,fun j c hj=>?_,fun w' y f' he ho=>?_⟩
   ·have e:(k+1)*R.sz+j=ec.length+(k*R.sz+j):=by rw [R.rd_len (R.own_rd h1),Nat.add_mul];omega
    rw [e,List.getElem?_append_right (by omega),Nat.add_sub_cancel_left]
    exact k3 j c hj
   ·refine ⟨ec,rest,f1,g1++(f'++g3),rfl,by simp,R.own_ext h1 fun b hb=>he b (by simp [hb]),k4 w' y f' (fun b hb=>he b ?_) ho⟩
    rcases List.mem_append.1 hb with h | h
    ·simp [h]
    ·simp [h]
end
end Go.Proofs.Ytcpkiphiaebkmaa
namespace Go.Proofs.Ytcpkiphiaebkmaa
open Go.RowKit

theorem Sat.rebase {a b w:World} {Γ:List Asn} (h:Sat b w Γ) (hx:Ext a b):Sat a w Γ:=by
 obtain ⟨hb,fp,h1,h2,h3⟩:=h
 exact ⟨Ext.trans hx hb,fp,h1,h2,fun x hx'=>Nat.le_trans hx.size (h3 x hx')⟩
theorem Sat.drop {w0 w:World} {Γ Δ:List Asn} (h:Sat w0 w (Γ++Δ)):Sat w0 w Δ:=by
 induction Γ with
 | nil=>simpa using h
 | cons A Γ ih=>exact ih h.tail
def roR {α:Type} (W:World) (R:Rep α):Rep α where
 sz:=R.sz
 rd _ cs x:=R.rd W cs x
 own _ cs x fp:=R.rd W cs x∧fp=[]
 rd_len h:=R.rd_len h
 rd_one h:=R.rd_one h
 rd_ext h _:=h
 own_rd h:=h.1
 own_ext h _:=h
 own_lt h:=by rw [h.2];simp
section
variable {α:Type} {R:Rep α} {W w w0 w':World} {E:TypeId} {Γ:List Asn} {v:Value} {xs:List α}
theorem lf (hx:Ext W w):∀ {xs:List α} {ccs:List Value},rdL (roR W R) w ccs xs→rdL R w ccs xs
 | [],_,h=>h
 | x :: xs,_,h=>by
  obtain ⟨ec,rest,rfl,h1,h2⟩:=h
  exact ⟨ec,rest,rfl,R.rd_ext h1 hx,lf hx h2⟩
theorem n9 {cs:List Value} (hx:Ext W w) (h:(aj (roR W R) E).rd w cs xs):(aj R E).rd w cs xs:=by
 obtain ⟨ao,cap,ccs,h1,h2,h3,h4,h5,h6⟩:=h
 exact ⟨ao,cap,ccs,h1,h2,h3,h4,lf hx h5,h6⟩
theorem Sat.roOne {cs:List Value} {x:α} (hS:Sat w0 w Γ) (h:R.rd W cs x):Sat w0 w (Own (roR W R) cs x :: Γ):=hS.add ⟨h,rfl⟩
end

def cE (a b:Int):Int:=IntKind.i64.wrap ((BitVec.ofInt IntKind.i64.bits a &&& BitVec.ofInt IntKind.i64.bits b).toNat)
def dH (a b:Int):Int:=IntKind.i64.wrap ((BitVec.ofInt IntKind.i64.bits a ^^^ BitVec.ofInt IntKind.i64.bits b).toNat)
def sr (a b:Int):Option Int:=if 0≤b then some (a.fdiv (2 ^ (min b.toNat IntKind.i64.bits))) else none
section
variable {P:Program} {e:Env} {w:World} {d:Option Nat} {ty:TypeId} {pos:String} {af:Array Edge} {x y:Operand}
theorem jJ {t u:TypeId} {a b:Int} (hx:ev e x=.int .i64 a) (hy:ev e y=.int .i64 b):PV P ⟨d,.binOp .and t x y u,ty,pos,af,none⟩ e w (.int .i64 (cE a b)):=fun w' _=>by
 unfold execOp cE;simp [hx,hy,eqGuard,binOp,Op.intBits]
theorem nN {t u:TypeId} {a b:Int} (hx:ev e x=.int .i64 a) (hy:ev e y=.int .i64 b):PV P ⟨d,.binOp .xor t x y u,ty,pos,af,none⟩ e w (.int .i64 (dH a b)):=fun w' _=>by
 unfold execOp dH;simp [hx,hy,eqGuard,binOp,Op.intBits]
theorem lb {t u:TypeId} {k2:IntKind} {a b c:Int} (hx:ev e x=.int .i64 a) (hy:ev e y=.int k2 b) (h:sr a b=some c):PV P ⟨d,.binOp .shr t x y u,ty,pos,af,none⟩ e w (.int .i64 c):=fun w' _=>by
 unfold sr at h
 split at h
 ·rename_i h0
  obtain rfl:=Option.some.inj h
  have h1:¬ b<0:=by omega
  unfold execOp;simp [hx,hy,eqGuard,binOp,Op.shift,h1]
 ·cases h
instance flat_str:FlatR oa (fun s=>.string s):=⟨fun h=>h.1⟩
end
theorem iY:∀ (vs:List Value) (i:Nat) (cells:List Value),cells.length=i+vs.length→f5 (fun i=>some (i*1,1)) cells ((vs.zipIdx i).map fun p=>(p.2,[p.1]))=some (cells.take i++vs)
 | [],i,cells,h=>by
  simp only [List.length_nil,Nat.add_zero] at h
  show some cells=some (cells.take i++[])
  rw [List.append_nil,List.take_of_length_le (by omega)]
 | v :: vs,i,cells,h=>by
  simp only [List.length_cons] at h
  have e1:i*1=i:=Nat.mul_one i
  simp only [List.zipIdx_cons,List.map_cons,f5,List.length_singleton,e1]
  rw [show Nat.beq 1 1=true from rfl,Bool.true_and]
  have hb:Nat.ble (i+1) cells.length=true:=by rw [Nat.ble_eq];omega
  rw [hb,cond_true,iY vs (i+1) _ (by simp;omega)]
  congr 1
  rw [List.take_append_of_le_length (by simp;omega),List.take_of_length_le (by simp;omega)]
  simp
section
variable {P:Program} {n:Nat} {ops:Array Oper} {K:Env→World→Prop} {rest:List Oper} {e:Env} {w w0:World} {d:Nat} {ty:TypeId} {pos:String} {af:Array Edge} {Γ:List Asn} {E:TypeId} {α:Type} {R:Rep α}
theorem fZ {t:TypeId} [ht:SliceT P t E] {z:List Value} {bytes:Nat} [hz:ElemT P E z 1 bytes] {parts:Array (Nat × Operand)} {k:Nat} (vs:List Value) {xs:List α} (hsz:R.sz=1) (hk:vs.length=k) (hxl:xs.length=k) (hk1:Nat.ble k 16777216=true)
  (hp:parts.toList.map (fun p=>(p.1,(ev e p.2).cells))=((vs.zipIdx 0).map fun p=>(p.2,[p.1].toArray))) (hown:∀ w,dh R w vs xs []) (hS:Sat w0 w Γ) (hd:d<n)
  (hK:∀ w' v,Sat w0 w' (Own (aj R E) [v] xs :: Γ)→Ext w w'→EL P n ops K rest (upd e d v) w'):EL P n ops K (⟨some d,.buildSlice t k parts,ty,pos,af,none⟩ :: rest) e w:=by
 intro a ha
 refine wpList_plain rfl fun K' hK'=>?_
 have hz:=hz.h
 cases hi:P.info? E with
 | none=>simp [hi] at hz
 | some i =>
 cases hzz:i.zero with
 | none=>simp [hi,hzz] at hz
 | some zv =>
 simp [hi,hzz] at hz
 obtain ⟨hz1,hz2,hz3⟩:=hz
 have hk':¬ (k*1 > 2 ^ 24):=by have:=Nat.le_of_ble_eq_true hk1;omega
 have hfill:∀ A:Array Value,A.size=k→Instr.fill (fun i=>some (i*1,1)) A (parts.toList.map fun p=>(p.1,ev e p.2))=some vs.toArray:=by
  intro A hA
  have:=iG (fun i=>some (i*1,1)) (parts.toList.map fun p=>(p.1,ev e p.2)) ((vs.zipIdx 0).map fun p=>(p.2,[p.1])) A.toList (r:=vs) (by
   rw [List.map_map,List.map_map];exact hp) (by rw [iY vs 0 A.toList (by simp;omega)];simp)
  simpa using this
 have hr:(Instr.buildSlice t k (parts.map fun p=>(p.1,ev e p.2))).run P w=.ok (.slice (some ⟨w.heap.size,0,none⟩) k k) (w.alloc (.cells vs.toArray E)):=by
  unfold Instr.buildSlice
  simp only [run_underlying ht.h,sizeOf,typeInfo,hi,hz2,Sem.run_bind,Sem.run_pure,run_program,Result.andThen_ok,if_neg hk',Sem.run_ite,Array.toList_map]
  by_cases h0:k*1=0
  ·simp only [h0,if_true,Sem.run_pure,Result.andThen_ok]
   have hk0:k=0:=by omega
   rw [hfill _ (by simp;omega)]
   simp [newRow,hk0]
  ·simp only [h0,if_false,zeroValue,typeInfo,hi,hzz,Sem.run_bind,Sem.run_pure,run_program,Result.andThen_ok]
   rw [hfill _ (by simp)]
   simp [newRow]
 unfold Oper.wp execOp
 simp only [ha.eval,hr,Sem.run_bind,Sem.run_pure,Result.andThen_ok,Oper.upon_value]
 refine hK' _ _ (hK _ _ ?_ (dO _ _) _ (ha.put hd _))
 refine (hS.box E vs).conv fun f hf=>?_
 obtain ⟨rfl,hf⟩:=hf
 have h2:=Nat.le_of_ble_eq_true hk1
 exact .inr ⟨w.heap.size,k,vs.toArray,vs,[],by rw [hxl],hf,by omega,by unfold maxLen;omega,by simp [hsz,hk],by rw [hsz,hxl,Nat.mul_one];exact List.take_of_length_le (by simp;omega),hown _,by simp⟩
theorem jI (xs:List Int) (w:World):dh cK w (xs.map (Value.int .i64)) xs []:=by
 induction xs with
 | nil=>exact ⟨rfl,rfl⟩
 | cons x xs ih=>exact ⟨[.int .i64 x],_,[],[],rfl,rfl,⟨rfl,rfl⟩,ih⟩
end
theorem nM {P:Program} {n:Nat} {ops:Array Oper} {X:List Nat} {C:World→Prop} {K:Env→World→Prop} (i j:Nat) {f:Nat} {L:Array Bool} {e:Env} {w:World} {o o':Oper} (hr:Region.ready .any ops L=[i,j]) (ho:ops[i]? = some o) (ho':ops[j]? = some o')
  (h:EL P n ops (fun e' w'=>(X.contains i=true→C w')∧AL P n ops X C K f (L.setIfInBounds i true) e' w') [o] e w) (h':EL P n ops (fun e' w'=>(X.contains j=true→C w')∧AL P n ops X C K f (L.setIfInBounds j true) e' w') [o'] e w):AL P n ops X C K (f+1) L e w :=
 ⟨fun h0=>(by rw [h0] at hr;cases hr),fun k hk=>by
  rw [hr] at hk
  rcases List.mem_cons.1 hk with rfl | hk
  ·exact ⟨o,ho,h⟩
  ·obtain rfl:k=j:=by simpa using hk
   exact ⟨o',ho',h'⟩⟩
theorem nG {P:Program} {n:Nat} {c:Code} {Q:Exit→Env→World→Prop} {e:Env} {w:World} (I:Env→World→Prop) (h1:CW P n c (fun x e w=>x=.normal∧I e w) e w) (h2:∀ e w,I e w→Q .normal e w):CW P n c Q e w:=by
 intro a ha
 refine wp_mono (h1 a ha) ?_
 rintro x' a' w' ⟨e',he',rfl,hI⟩
 exact ⟨e',he',h2 _ _ hI⟩
def fI (k:Nat):List Nat→Bool
 | []=>false
 | a :: l=>bif Nat.beq a k then true else fI k l
def cY (idx:List Nat):Nat→Nat→List Asn→List Asn
 | 0,_,Γ=>Γ
 | _+1,_,[]=>[]
 | n+1,k,A :: Γ=>bif fI k idx then cY idx n (k+1) Γ else A :: cY idx n (k+1) Γ
def dQ (Γ:List Asn):List Nat→List Asn
 | []=>[]
 | i :: l=>match Γ[i]? with | some A=>A :: dQ Γ l | none=>dQ Γ l
def jT (n:Nat):List Nat→Bool
 | []=>true
 | a :: l=>Nat.blt a n&&(!fI a l&&jT n l)
theorem gD {k a:Nat} {l:List Nat} (h:a≠k):fI k (a :: l)=fI k l:=by
 show (bif Nat.beq a k then true else fI k l)=_
 rw [fM h];rfl
theorem hY (i:Nat) (idx:List Nat):∀ (n k:Nat) (Γ:List Asn),i<k→cY (i :: idx) n k Γ=cY idx n k Γ
 | 0,_,_,_=>rfl
 | _+1,_,[],_=>rfl
 | n+1,k,A :: Γ,h=>by
  unfold cY
  rw [gD (by omega),hY i idx n (k+1) Γ (by omega)]
theorem hX {i:Nat} {idx:List Nat} (hi:fI i idx=false) {A:Asn}:∀ (n k:Nat) (Γ:List Asn),k≤i→i<k+n→Γ[i-k]? = some A→(cY idx n k Γ).Perm (A :: cY (i :: idx) n k Γ)
 | 0,k,Γ,h1,h2,_=>by omega
 | n+1,k,[],h1,h2,h3=>by simp at h3
 | n+1,k,B :: Γ,h1,h2,h3=>by
  unfold cY
  by_cases e:i=k
  ·subst e
   rw [Nat.sub_self] at h3
   have:B=A:=by simpa using h3
   subst this
   have hm:fI i (i :: idx)=true:=by unfold fI;simp
   rw [hi,hm,cond_false,cond_true,hY i idx n (i+1) Γ (by omega)]
  ·have h4:Γ[i-(k+1)]? = some A:=by
    rw [show i-k=(i-(k+1))+1 by omega] at h3;simpa using h3
   have ih:=hX hi n (k+1) Γ (by omega) (by omega) h4
   rw [gD e]
   cases fI k idx
   ·exact (List.Perm.cons B ih).trans (.swap _ _ _)
   ·exact ih
theorem jz (Γ:List Asn) (n:Nat):∀ (idx:List Nat),jT n idx=true→∃ Θ,Γ.Perm ((dQ Γ idx++cY idx n 0 Γ)++Θ)
 | [],_=>⟨[],by
  have:∀ (n k:Nat) (Γ:List Asn),cY [] n k Γ=Γ:=by
   intro n
   induction n with
   | zero=>intro k Γ;rfl
   | succ n ih=>intro k Γ;cases Γ with
    | nil=>rfl
    | cons A Γ=>show A :: cY [] n (k+1) Γ=_;rw [ih]
  simp [dQ,this]⟩
 | i :: idx,h=>by
  simp only [jT,Bool.and_eq_true,Bool.not_eq_true'] at h
  obtain ⟨h1,h2,h3⟩:=h
  obtain ⟨Θ,hp⟩:=jz Γ n idx h3
  have hin:i<n:=by simp [Nat.blt] at h1;omega
  cases hi:Γ[i]? with
  | none =>
   refine ⟨Θ,?_⟩
   have:cY (i :: idx) n 0 Γ=cY idx n 0 Γ:=by
    have:∀ (n k:Nat) (Γ:List Asn),Γ.length+k≤i→cY (i :: idx) n k Γ=cY idx n k Γ:=by
     intro n
     induction n with
     | zero=>intro k Γ h;rfl
     | succ n ih=>intro k Γ h;cases Γ with
      | nil=>rfl
      | cons A Γ =>
       simp only [List.length_cons] at h
       unfold cY
       rw [gD (by omega),ih (k+1) Γ (by omega)]
    exact this n 0 Γ (by have:=List.getElem?_eq_none_iff.1 hi;omega)
   have e:dQ Γ (i :: idx)=dQ Γ idx:=by show (match Γ[i]? with | some A=>A :: dQ Γ idx | none=>dQ Γ idx)=_;rw [hi]
   rw [e,this];exact hp
  | some A =>
   refine ⟨Θ,hp.trans (List.Perm.append_right Θ ?_)⟩
   have e:dQ Γ (i :: idx)=A :: dQ Γ idx:=by show (match Γ[i]? with | some A=>A :: dQ Γ idx | none=>dQ Γ idx)=_;rw [hi]
   rw [e]
   refine (List.Perm.append_left _ (hX h2 n 0 Γ (Nat.zero_le _) (by omega) hi)).trans ?_
   exact List.perm_middle
theorem Sat.tops {w0 w:World} {Γ:List Asn} (n:Nat) (idx:List Nat) (h:Sat w0 w Γ) (hk:jT n idx=true):Sat w0 w (dQ Γ idx++cY idx n 0 Γ):=by
 obtain ⟨Θ,hp⟩:=jz Γ n idx hk
 exact h.take _ Θ hp
theorem Sat.rems {w0 w:World} {Γ:List Asn} (n:Nat) (idx:List Nat) (h:Sat w0 w Γ) (hk:jT n idx=true):Sat w0 w (cY idx n 0 Γ) :=
 Sat.drop (h.tops n idx hk)
theorem kF {w W:World} {b o:Nat} (h:w.heap[b]? = W.heap[b]?):w.cell? ⟨b,o,none⟩=W.cell? ⟨b,o,none⟩:=by
 unfold World.cell?;simp [h]
section
variable {α:Type} {R:Rep α} {w0 w:World} {Γ:List Asn} {E:TypeId} {v:Value}
def dT (R:Rep α) (E:TypeId) (v:Value) (xs:List α) (i:Nat) (ec:List Value) (g m:Nat):Asn where
 holds w fp:=(md R E v xs i ec).holds w fp∧g∈fp∧∀ j c,ec[j]? = some c→w.cell? ⟨g,i*m+j,none⟩=some c
 ext h he:=⟨(md R E v xs i ec).ext h.1 he,h.2.1,fun j c hj=>by rw [kF (he g h.2.1)];exact h.2.2 j c hj⟩
 lt h:=(md R E v xs i ec).lt h.1
theorem Sat.takeOutC {xs:List α} {m:Nat} {i:Int} {u:α} (hS:Sat w0 w (Own (aj R E) [v] xs :: Γ)) (h:ix xs i=some u) (hn:R.sz=m) :
  ∃ g cap ec,v=.slice (some ⟨g,0,none⟩) xs.length cap∧R.rd w ec u∧Sat w0 w (Own R ec u :: dT R E v xs i.toNat ec g m :: Γ):=by
 obtain ⟨k,rfl,hk,rfl⟩:=fd h
 subst hn
 obtain ⟨fp,ho,_⟩:=hS.head
 rcases ho with ⟨_,h2,_⟩ | ⟨g,cap,cur,ccs,fe,hv,hg,h1,h2,h3,h4,h5,rfl⟩
 ·subst h2;simp at hk
 obtain ⟨ec,f1,f2,f3,k1,rfl,k3,k4⟩:=iJ h5 k hk
 have hv:v=.slice (some ⟨g,0,none⟩) xs.length cap:=by simpa using hv
 have hm:∀ j c,ec[j]? = some c→w.cell? ⟨g,(k:Int).toNat*R.sz+j,none⟩=some c:=fun j c hj=>by
  have e2:=k3 j c hj
  simp only [Int.toNat_natCast]
  rw [cell_of_row w g _ cur E (0,0) hg,← Array.getElem?_toList]
  rw [← h4,List.getElem?_take] at e2
  split at e2
  ·exact e2
  ·cases e2
 refine ⟨g,cap,ec,hv,R.own_rd k1,?_⟩
 have hrl:=R.rd_len (R.own_rd k1)
 clear k1 k3 k4 h5 h4 h3 h2 h1 hg
 subst hv
 refine hS.splitp fun f hf=>?_
 rcases hf with ⟨_,h2,_⟩ | ⟨g',cap',cur,ccs,fe,hv,hg,h1,h2,h3,h4,h5,rfl⟩
 ·subst h2;simp at hk
 obtain ⟨rfl,rfl⟩:g=g'∧cap=cap':=by simpa using hv
 obtain ⟨ec',f1,f2,f3,k1,rfl,k3,k4⟩:=iJ h5 k hk
 have hec:ec=ec':=by
  refine List.ext_getElem (by rw [hrl,R.rd_len (R.own_rd k1)]) fun j hj1 hj2=>?_
  have e1:=hm j ec[j] (List.getElem?_eq_getElem hj1)
  have e2:=k3 j ec'[j] (List.getElem?_eq_getElem hj2)
  simp only [Int.toNat_natCast] at e1
  rw [cell_of_row w g _ cur E (0,0) hg,← Array.getElem?_toList] at e1
  rw [← h4,List.getElem?_take] at e2
  split at e2
  ·rw [e1] at e2;exact Option.some.inj e2
  ·cases e2
 subst hec
 refine ⟨f2,g :: (f1++f3),?_,k1,⟨⟨fun b hb=>?_,fun w' y f' he ho=>⟨g :: (f1++(f'++f3)),?_,.inr ⟨g,cap,cur,ccs,_,by simp,by rw [he g (by simp)];exact hg,by simpa using h1,h2,h3,by simpa using h4,by
  simp only [Int.toNat_natCast]
  exact k4 w' y f' (fun b hb=>he b (List.mem_cons_of_mem _ hb)) ho,rfl⟩⟩⟩,List.mem_cons_self,hm⟩⟩
 ·refine List.perm_middle.trans (.cons _ ?_)
  rw [← List.append_assoc,← List.append_assoc]
  exact List.Perm.append_right _ List.perm_append_comm
 ·rcases List.mem_cons.1 hb with rfl | hb
  ·exact (Array.getElem?_eq_some_iff.1 hg).1
  ·refine eC h5 b ?_
   rcases List.mem_append.1 hb with h | h <;> simp [h]
 ·refine .trans (.cons _ ?_) List.perm_middle.symm
  rw [← List.append_assoc,← List.append_assoc]
  exact List.Perm.append_right _ List.perm_append_comm
theorem Sat.putBackC {xs ys:List α} {i:Int} {y:α} {ec:List Value} {g m:Nat} (hS:Sat w0 w (Own R ec y :: dT R E v xs i.toNat ec g m :: Γ)) (h:sto xs i y=some ys):Sat w0 w (Own (aj R E) [v] ys :: Γ):=by
 have e:ys=xs.set i.toNat y:=by
  unfold sto at h;split at h
  ·exact (Option.some.inj h).symm
  ·cases h
 subst e
 exact hS.joinp fun f g h1 h2=>h2.1.2 w y f (fun _ _=>rfl) h1
theorem Sat.holeCells (a:Nat) {xs:List α} {i g m:Nat} {ec:List Value} (hS:Sat w0 w Γ) (hi:Γ[a]? = some (dT R E v xs i ec g m)):∀ j c,ec[j]? = some c→w.cell? ⟨g,i*m+j,none⟩=some c:=by
 obtain ⟨fp,ho,_⟩:=(hS.top a hi).head
 exact ho.2.2
end
theorem lJ {P:Program} {e:Env} {w:World} {v:Value} {ty:TypeId} {pos:String} {af:Array Edge} {x y:Operand} {α:Type} {E:TypeId} {d:Option Nat} {t:TypeId} [ht:SliceT P t E] {zz:List Value} {m bytes:Nat} [hz:ElemT P E zz m bytes] {xs:List α} (hs:ev e x=v) {g cap:Nat} (hv:v=.slice (some ⟨g,0,none⟩) xs.length cap) {k:IntKind} {j:Int} (hi:ev e y=.int k j) {u:α} (h:ix xs j=some u) :
  PV P ⟨d,.indexAddr t x y,ty,pos,af,none⟩ e w (.pointer (some ⟨g,j.toNat*m,none⟩)):=fun w' _=>by
 obtain ⟨k',rfl,hk,rfl⟩:=fd h
 subst hv
 have hz:=hz.h
 cases hq:P.info? E with
 | none=>simp [hq] at hz
 | some inf =>
  simp [hq] at hz
  have hsz:inf.size=m:=hz.2.1
  unfold execOp
  simp [hs,hi,Instr.indexAt,asIntOf,run_underlying ht.h,sizeOf,typeInfo,hq,hk,Addr.add_lit,hsz]
theorem jY {e:Env} {i:Nat} {x:Operand} {v:Value} {l:List (Nat × Operand)} {vs:List Value} (h:(ev e x).cells=[v].toArray) (t:l.map (fun p=>(p.1,(ev e p.2).cells))=((vs.zipIdx (i+1)).map fun p=>(p.2,[p.1].toArray))) :
  ((i,x) :: l).map (fun p=>(p.1,(ev e p.2).cells))=(((v :: vs).zipIdx i).map fun p=>(p.2,[p.1].toArray)):=by rw [List.map_cons,List.zipIdx_cons,List.map_cons,h,t]
end Go.Proofs.Ytcpkiphiaebkmaa
namespace Go.Proofs.Ytcpkiphiaebkmaa
open Go.RowKit
def f8 (N:Nat) (a0:List Int):Option Bool :=
  some (decide (1048576<(a0.length:Int)))
def cP (N:Nat):Nat→(List Int)→Int→Int→Option (Int × Int)
 | 0,_,_,_=>none
 | k+1,J,U,D =>
  (bif decide (D<(J.length:Int)) then
  (bif decide (D<4000) then
  (ml U 131).bind fun Y =>
  (ix J D).bind fun Z =>
  (ad Y (IntKind.i64.wrap Z)).bind fun ot =>
  (ad ot 7).bind fun ou =>
  (ad D 1).bind fun ov =>
  cP N k J (cE ou 1073741823) ov
  else
  some (U,D))
  else
  some (U,D))
def eq (N:Nat) (a0:List Int):Option (Int × Int) :=
  (ad 10101 (a0.length:Int)).bind fun D =>
  (cP N N a0 D 0).bind fun J =>
  lpB J fun (U,Y) =>
  some (0,U)
def cH (N:Nat) (a0:List Int) (a1:Int) (a2:Int):Option (Int × Int × Int) :=
  (sr (IntKind.i64.wrap ((IntKind.i64.wrap (a2*6364136223846793005))+1442695040888963407)) 33).bind fun D =>
  (sr (IntKind.i64.wrap ((IntKind.i64.wrap (a2*6364136223846793005))+1442695040888963407)) 45).bind fun J =>
  (bif decide (a1<(a0.length:Int)) then
  (ix a0 a1).bind fun U =>
  some ((cE (IntKind.i64.wrap ((cE (dH D J) 255)+(IntKind.i64.wrap U))) 255),(IntKind.i64.wrap (a1+1)),(IntKind.i64.wrap ((IntKind.i64.wrap (a2*6364136223846793005))+1442695040888963407)))
  else
  some ((cE (dH D J) 255),a1,(IntKind.i64.wrap ((IntKind.i64.wrap (a2*6364136223846793005))+1442695040888963407))))
def cb (N:Nat) (a0:List Int) (a1:Int) (a2:Int) (a3:Int):Option (Int × Int × Int) :=
  (bif decide (a3≤0) then
  some (0,a1,a2)
  else
  (bif decide (a3≤256) then
  (cH N a0 a1 a2).bind fun D =>
  (rm D.1 a3).bind fun ot =>
  some (ot,D.2.1,D.2.2)
  else
  (cH N a0 a1 a2).bind fun J =>
  (cH N a0 J.2.1 J.2.2).bind fun U =>
  (cH N a0 U.2.1 U.2.2).bind fun Y =>
  (cH N a0 Y.2.1 Y.2.2).bind fun Z =>
  (ml J.1 16777216).bind fun ou =>
  (ml U.1 65536).bind fun ov =>
  (ad ou ov).bind fun ow =>
  (ml Y.1 256).bind fun ox =>
  (ad ow ox).bind fun oy =>
  (ad oy Z.1).bind fun oz =>
  (rm oz a3).bind fun oA =>
  some (oA,Z.2.1,Z.2.2)))
def c8 (N:Nat):Nat→(List Int)→Int→Int→Int→Int→(List Int)→Option (Int × Int × (List Int))
 | 0,_,_,_,_,_,_=>none
 | k+1,U,Y,Z,ot,ou,D =>
  (bif decide ((D.length:Int)<ot) then
  (cb N U Y Z ou).bind fun J =>
  (apd 8 D [J.1]).bind fun ov =>
  c8 N k U J.2.1 J.2.2 ot ou ov
  else
  some (Y,Z,D))
def dU (N:Nat) (a0:List Int) (a1:Int) (a2:Int) (a3:Int) (a4:Int):Option ((List Int) × Int × Int) :=
  (c8 N N a0 a1 a2 a3 a4 []).bind fun D =>
  lpB D fun (J,U,Y) =>
  some (Y,J,U)
def el (N:Nat) (a0:Int) (a1:Int) (a2:Int):Option Bool :=
  (bif decide (a1≤a0) then
  some (decide (a0≤a2))
  else
  some false)
def bm (N:Nat):Nat→(List Int)→Int→Option (Sum Bool Int)
 | 0,_,_=>none
 | k+1,J,D =>
  (bif decide (D<(J.length:Int)) then
  (ix J D).bind fun U =>
  (el N U 0 99).bind fun Y =>
  (bif Y then
  (ad D 1).bind fun Z =>
  bm N k J Z
  else
  some (.inl false))
  else
  some (.inr D))
def b8 (N:Nat) (a0:List Int):Option Bool :=
  (bm N N a0 0).bind fun D =>
  lpS D (fun q=>some q) fun J =>
  some true
def cx (N:Nat):Nat→(List Int)→(List Int)→Int→Option (Sum Int Int)
 | 0,_,_,_=>none
 | k+1,J,U,D =>
  (bif decide (D<(J.length:Int)) then
  (bif decide (D<(U.length:Int)) then
  (ix J D).bind fun Y =>
  (ix U D).bind fun Z =>
  (bif decide (Y<Z) then
  some (.inl (-1))
  else
  (ix J D).bind fun ot =>
  (ix U D).bind fun ou =>
  (bif decide (ou<ot) then
  some (.inl 1)
  else
  (ad D 1).bind fun ov =>
  cx N k J U ov))
  else
  some (.inr D))
  else
  some (.inr D))
def aK (N:Nat) (a0:List Int) (a1:List Int):Option Int :=
  (cx N N a0 a1 0).bind fun D =>
  lpS D (fun q=>some q) fun J =>
  (bif decide ((a0.length:Int)<(a1.length:Int)) then
  some (-1)
  else
  (bif decide ((a1.length:Int)<(a0.length:Int)) then
  some 1
  else
  some 0))
def bb (N:Nat):Nat→Int→(List (List Int))→Int→Option (Sum Bool Int)
 | 0,_,_,_=>none
 | k+1,U,J,D =>
  (bif decide (D<(J.length:Int)) then
  (ix J D).bind fun Y =>
  (bif ((Y.length:Int) != U) then
  some (.inl false)
  else
  (ix J D).bind fun Z =>
  (b8 N Z).bind fun ot =>
  (bif ot then
  (bif decide (0<D) then
  (sb D 1).bind fun ou =>
  (ix J ou).bind fun ov =>
  (ix J D).bind fun ow =>
  (aK N ov ow).bind fun ox =>
  (bif decide (0≤ox) then
  some (.inl false)
  else
  (ad D 1).bind fun oy =>
  bb N k U J oy)
  else
  (ad D 1).bind fun oz =>
  bb N k U J oz)
  else
  some (.inl false)))
  else
  some (.inr D))
def bC (N:Nat) (a0:Int) (a1:List (List Int)):Option Bool :=
  (el N a0 0 5).bind fun D =>
  (bif D then
  (bif decide (4000<(a1.length:Int)) then
  some false
  else
  (bb N N a0 a1 0).bind fun J =>
  lpS J (fun q=>some q) fun U =>
  some true)
  else
  some false)
def bU (N:Nat):Nat→Int→(List (List Int))→Int→(List (List Int))→Int→(List (List Int))→Int→Option ((List (List Int)) × Int)
 | 0,_,_,_,_,_,_,_=>none
 | k+1,Y,J,Z,ot,ou,U,D =>
  (bif decide (D<(J.length:Int)) then
  (ix J D).bind fun ov =>
  (apd 8 [] ov).bind fun ow =>
  (apd 24 U [ow]).bind fun ox =>
  (ad D 1).bind fun oy =>
  bU N k Y J Z ot ou ox oy
  else
  some (U,D))
def dB (N:Nat) (a0:Int) (a1:List (List Int)):Option (Int × List (List Int)) :=
  (bU N N a0 a1 0 [] a0 [] 0).bind fun D =>
  lpB D fun (J,U) =>
  some (a0,J)
def an (rec:(List (List Int))→Option (List (List Int))) (N:Nat):Nat→(List (List Int))→(List (List Int))→(List (List Int))→Option ((List (List Int)) × (List (List Int)) × (List (List Int)))
 | 0,_,_,_=>none
 | k+1,J,U,D =>
  (bif decide (0<(J.length:Int)) then
  (bif ((J.length:Int) == 0) then
  (bif decide (0<(1:Int)) then
  (ix U 0).bind fun Y =>
  (slc U 1 (U.length:Int)).bind fun Z =>
  (bif ((D.length:Int) == 0) then
  (apd 24 D [Y]).bind fun oL =>
  an rec N k J Z oL
  else
  (sb (D.length:Int) 1).bind fun oM =>
  (ix D oM).bind fun oN =>
  (aK N oN Y).bind fun oO =>
  (bif (oO != 0) then
  (apd 24 D [Y]).bind fun oP =>
  an rec N k J Z oP
  else
  an rec N k J Z D))
  else
  (ix J 0).bind fun ot =>
  (slc J 1 (J.length:Int)).bind fun ou =>
  (bif ((D.length:Int) == 0) then
  (apd 24 D [ot]).bind fun oQ =>
  an rec N k ou U oQ
  else
  (sb (D.length:Int) 1).bind fun oR =>
  (ix D oR).bind fun oS =>
  (aK N oS ot).bind fun oT =>
  (bif (oT != 0) then
  (apd 24 D [ot]).bind fun oU =>
  an rec N k ou U oU
  else
  an rec N k ou U D)))
  else
  (bif decide (0<(U.length:Int)) then
  (ix J 0).bind fun oV =>
  (ix U 0).bind fun oW =>
  (aK N oV oW).bind fun oX =>
  (bif decide (0<oX) then
  (ix U 0).bind fun ov =>
  (slc U 1 (U.length:Int)).bind fun ow =>
  (bif ((D.length:Int) == 0) then
  (apd 24 D [ov]).bind fun oY =>
  an rec N k J ow oY
  else
  (sb (D.length:Int) 1).bind fun oZ =>
  (ix D oZ).bind fun o0 =>
  (aK N o0 ov).bind fun o3 =>
  (bif (o3 != 0) then
  (apd 24 D [ov]).bind fun o4 =>
  an rec N k J ow o4
  else
  an rec N k J ow D))
  else
  (ix J 0).bind fun ox =>
  (slc J 1 (J.length:Int)).bind fun oy =>
  (bif ((D.length:Int) == 0) then
  (apd 24 D [ox]).bind fun o5 =>
  an rec N k oy U o5
  else
  (sb (D.length:Int) 1).bind fun o6 =>
  (ix D o6).bind fun o7 =>
  (aK N o7 ox).bind fun o8 =>
  (bif (o8 != 0) then
  (apd 24 D [ox]).bind fun o9 =>
  an rec N k oy U o9
  else
  an rec N k oy U D)))
  else
  (bif decide (0<((-1):Int)) then
  (ix U 0).bind fun oz =>
  (slc U 1 (U.length:Int)).bind fun oA =>
  (bif ((D.length:Int) == 0) then
  (apd 24 D [oz]).bind fun pb =>
  an rec N k J oA pb
  else
  (sb (D.length:Int) 1).bind fun pc =>
  (ix D pc).bind fun pd =>
  (aK N pd oz).bind fun pf =>
  (bif (pf != 0) then
  (apd 24 D [oz]).bind fun pg =>
  an rec N k J oA pg
  else
  an rec N k J oA D))
  else
  (ix J 0).bind fun oB =>
  (slc J 1 (J.length:Int)).bind fun oC =>
  (bif ((D.length:Int) == 0) then
  (apd 24 D [oB]).bind fun ph =>
  an rec N k oC U ph
  else
  (sb (D.length:Int) 1).bind fun pi =>
  (ix D pi).bind fun pj =>
  (aK N pj oB).bind fun pk =>
  (bif (pk != 0) then
  (apd 24 D [oB]).bind fun pn =>
  an rec N k oC U pn
  else
  an rec N k oC U D)))))
  else
  (bif decide (0<(U.length:Int)) then
  (bif ((J.length:Int) == 0) then
  (bif decide (0<(1:Int)) then
  (ix U 0).bind fun oD =>
  (slc U 1 (U.length:Int)).bind fun oE =>
  (bif ((D.length:Int) == 0) then
  (apd 24 D [oD]).bind fun po =>
  an rec N k J oE po
  else
  (sb (D.length:Int) 1).bind fun pp =>
  (ix D pp).bind fun pq =>
  (aK N pq oD).bind fun pr =>
  (bif (pr != 0) then
  (apd 24 D [oD]).bind fun pt =>
  an rec N k J oE pt
  else
  an rec N k J oE D))
  else
  (ix J 0).bind fun oF =>
  (slc J 1 (J.length:Int)).bind fun oG =>
  (bif ((D.length:Int) == 0) then
  (apd 24 D [oF]).bind fun pu =>
  an rec N k oG U pu
  else
  (sb (D.length:Int) 1).bind fun pv =>
  (ix D pv).bind fun pw =>
  (aK N pw oF).bind fun px =>
  (bif (px != 0) then
  (apd 24 D [oF]).bind fun py =>
  an rec N k oG U py
  else
  an rec N k oG U D)))
  else
  (ix J 0).bind fun pz =>
  (ix U 0).bind fun pA =>
  (aK N pz pA).bind fun pB =>
  (bif decide (0<pB) then
  (ix U 0).bind fun oH =>
  (slc U 1 (U.length:Int)).bind fun oI =>
  (bif ((D.length:Int) == 0) then
  (apd 24 D [oH]).bind fun pC =>
  an rec N k J oI pC
  else
  (sb (D.length:Int) 1).bind fun pD =>
  (ix D pD).bind fun pE =>
  (aK N pE oH).bind fun pF =>
  (bif (pF != 0) then
  (apd 24 D [oH]).bind fun pG =>
  an rec N k J oI pG
  else
  an rec N k J oI D))
  else
  (ix J 0).bind fun oJ =>
  (slc J 1 (J.length:Int)).bind fun oK =>
  (bif ((D.length:Int) == 0) then
  (apd 24 D [oJ]).bind fun pH =>
  an rec N k oK U pH
  else
  (sb (D.length:Int) 1).bind fun pI =>
  (ix D pI).bind fun pJ =>
  (aK N pJ oJ).bind fun pK =>
  (bif (pK != 0) then
  (apd 24 D [oJ]).bind fun pL =>
  an rec N k oK U pL
  else
  an rec N k oK U D))))
  else
  some (J,U,D)))
def co:Nat→(List (List Int))→Option (List (List Int))
 | 0,_=>none
 | N+1,a0 =>
  (bif decide ((a0.length:Int)<2) then
  some a0
  else
  (qt (a0.length:Int) 2).bind fun D =>
  (slc a0 0 D).bind fun Y =>
  (co N Y).bind fun Z =>
  (slc a0 D (a0.length:Int)).bind fun ot =>
  (co N ot).bind fun ou =>
  (an (co N) N N Z ou []).bind fun J =>
  lpB J fun (ov,ow,U) =>
  some U)
def bq (N:Nat):Nat→Int→(List (List Int))→Int→(List (List Int))→Int→Option (Sum ((Int × List (List Int)) × Bool) Int)
 | 0,_,_,_,_,_=>none
 | k+1,U,J,Y,Z,D =>
  (bif decide (D<(J.length:Int)) then
  (ix J D).bind fun ot =>
  (bif ((ot.length:Int) != U) then
  some (.inl ((0,[]),false))
  else
  (ix J D).bind fun ou =>
  (b8 N ou).bind fun ov =>
  (bif ov then
  (ad D 1).bind fun ow =>
  bq N k U J Y Z ow
  else
  some (.inl ((0,[]),false))))
  else
  some (.inr D))
def cT (N:Nat) (a0:Int) (a1:List (List Int)):Option ((Int × List (List Int)) × Bool) :=
  (bq N N a0 a1 0 [] 0).bind fun J =>
  lpS J (fun q=>some q) fun Z =>
  (co N a1).bind fun U =>
  (dB N a0 U).bind fun D =>
  (bC N D.1 D.2).bind fun Y =>
  (bif Y then
  some ((D.1,D.2),true)
  else
  some ((0,[]),false))
end Go.Proofs.Ytcpkiphiaebkmaa
namespace Go.Proofs.Ytcpkiphiaebkmaa
open Go.RowKit
def c9 (N:Nat):Nat→(List Int)→Int→Int→Int→Int→Int→(List (List Int))→(List (List Int))→Int→Option (Int × Int × (List (List Int)) × Int)
 | 0,_,_,_,_,_,_,_,_,_=>none
 | k+1,U,Y,Z,ot,ou,ow,ox,ov,D =>
  (bif decide (0<D) then
  (dU N U Y Z ot ou).bind fun J =>
  (apd 24 ov [J.1]).bind fun oy =>
  (sb D 1).bind fun oz =>
  c9 N k U J.2.1 J.2.2 ot ou ow ox oy oz
  else
  some (Y,Z,ov,D))
def ep (N:Nat) (a0:List Int) (a1:Int) (a2:Int) (a3:Int) (a4:Int) (a5:Int):Option ((Int × List (List Int)) × Int × Int) :=
  (ad a4 1).bind fun U =>
  (cb N a0 a1 a2 U).bind fun D =>
  (c9 N N a0 D.2.1 D.2.2 a3 a5 0 [] [] D.1).bind fun Y =>
  lpB Y fun (Z,ot,ou,ov) =>
  (cT N a3 ou).bind fun J =>
  some ((J.1.1,J.1.2),Z,ot)
def cS (N:Nat) (a0:List Int) (a1:Int) (a2:Int) (a3:List Int):Option (Int × Int × Int) :=
  (cb N a0 a1 a2 (a3.length:Int)).bind fun D =>
  (ix a3 D.1).bind fun J =>
  some (J,D.2.1,D.2.2)
def dR (N:Nat) (a0:List Int) (a1:Int) (a2:Int):Option ((Int × List (List Int)) × Int × Int) :=
  (cb N a0 a1 a2 4).bind fun U =>
  (ep N a0 U.2.1 U.2.2 U.1 6 4).bind fun D =>
  (cb N a0 D.2.1 D.2.2 14).bind fun J =>
  (bif (J.1 == 0) then
  (ad D.1.1 1).bind fun ov =>
  (cS N a0 J.2.1 J.2.2 ([(-1),6,ov]:List Int)).bind fun Y =>
  some ((Y.1,D.1.2),Y.2.1,Y.2.2)
  else
  (bif (J.1 == 1) then
  (dU N a0 J.2.1 J.2.2 (imx 0 D.1.1) 4).bind fun Z =>
  (apd 24 D.1.2 [Z.1]).bind fun ow =>
  some ((D.1.1,ow),Z.2.1,Z.2.2)
  else
  (bif (J.1 == 2) then
  (bif decide (0<(D.1.2.length:Int)) then
  (bif decide (0<D.1.1) then
  (ix D.1.2 0).bind fun ou =>
  (cS N a0 J.2.1 J.2.2 ([(-1),100,99]:List Int)).bind fun ot =>
  (ix ou 0).bind fun oz =>
  (sto ou 0 ot.1).bind fun ox =>
  (sto D.1.2 0 ox).bind fun oy =>
  some ((D.1.1,oy),ot.2.1,ot.2.2)
  else
  some ((D.1.1,D.1.2),J.2.1,J.2.2))
  else
  some ((D.1.1,D.1.2),J.2.1,J.2.2))
  else
  some ((D.1.1,D.1.2),J.2.1,J.2.2))))
def eG (N:Nat) (a0:List Int) (a1:Int) (a2:Int) (a3:Int):Option (Bool × Int × Int) :=
  (cb N a0 a1 a2 a3).bind fun D =>
  some ((D.1 == 0),D.2.1,D.2.2)
def bW (N:Nat) (a0:List Int):Option ((Int × List (List Int)) × Int × List (List Int)) :=
  (eq N a0).bind fun U =>
  (dR N a0 U.1 U.2).bind fun D =>
  (eG N a0 D.2.1 D.2.2 2).bind fun J =>
  (bif J.1 then
  (dR N a0 J.2.1 J.2.2).bind fun Y =>
  some ((D.1.1,D.1.2),(Y.1.1,Y.1.2))
  else
  (dB N D.1.1 D.1.2).bind fun Z =>
  some ((D.1.1,D.1.2),(Z.1,Z.2)))
def cF (N:Nat) (a0:Int) (a1:Int) (a2:Int):Option Bool :=
  (bif decide (a1≤a0) then
  some (decide (a0≤a2))
  else
  some false)
def bp (N:Nat):Nat→(List Int)→Int→Int→Option (Sum Bool Int)
 | 0,_,_,_=>none
 | k+1,J,U,D =>
  (bif decide (D<U) then
  (ix J D).bind fun Y =>
  (cF N Y 0 99).bind fun Z =>
  (bif Z then
  (ad D 1).bind fun ot =>
  bp N k J U ot
  else
  some (.inl false))
  else
  some (.inr D))
def b7 (N:Nat) (a0:List Int):Option Bool :=
  (bp N N a0 (a0.length:Int) 0).bind fun D =>
  lpS D (fun q=>some q) fun J =>
  some true
def cj (N:Nat) (a0:Int) (a1:Int):Option Int :=
  (bif decide (a0<a1) then
  some (-1)
  else
  (bif decide (a1<a0) then
  some 1
  else
  some 0))
def cz (N:Nat):Nat→(List Int)→(List Int)→Int→Option (Sum Int Int)
 | 0,_,_,_=>none
 | k+1,J,U,D =>
  (bif decide (D<(J.length:Int)) then
  (bif decide (D<(U.length:Int)) then
  (ix J D).bind fun Y =>
  (ix U D).bind fun Z =>
  (bif (Y != Z) then
  (ix J D).bind fun ot =>
  (ix U D).bind fun ou =>
  (cj N ot ou).bind fun ov =>
  some (.inl ov)
  else
  (ad D 1).bind fun ow =>
  cz N k J U ow)
  else
  some (.inr D))
  else
  some (.inr D))
def cV (N:Nat) (a0:List Int) (a1:List Int):Option Int :=
  (cz N N a0 a1 0).bind fun D =>
  lpS D (fun q=>some q) fun U =>
  (cj N (a0.length:Int) (a1.length:Int)).bind fun J =>
  some J
def bx (N:Nat):Nat→Int→(List (List Int))→(List (List Int))→Int→Int→Option (Sum Bool Int)
 | 0,_,_,_,_,_=>none
 | k+1,J,U,Y,Z,D =>
  (bif decide (D<Z) then
  (ix Y D).bind fun ot =>
  (bif ((ot.length:Int) != J) then
  some (.inl false)
  else
  (b7 N ot).bind fun ou =>
  (bif ou then
  (bif decide (0<D) then
  (sb D 1).bind fun ov =>
  (ix U ov).bind fun ow =>
  (cV N ow ot).bind fun ox =>
  (bif decide (0≤ox) then
  some (.inl false)
  else
  (ad D 1).bind fun oy =>
  bx N k J U Y Z oy)
  else
  (ad D 1).bind fun oz =>
  bx N k J U Y Z oz)
  else
  some (.inl false)))
  else
  some (.inr D))
def dp (N:Nat) (a0:Int) (a1:List (List Int)):Option Bool :=
  (cF N a0 0 5).bind fun D =>
  (bif D then
  (bif decide (4000<(a1.length:Int)) then
  some false
  else
  (bx N N a0 a1 a1 (a1.length:Int) 0).bind fun J =>
  lpS J (fun q=>some q) fun U =>
  some true)
  else
  some false)
def cr (N:Nat) (a0:Int) (a1:List (List Int)):Option Bool :=
  (dp N a0 a1).bind fun D =>
  some D
def bM (N:Nat):Nat→(List Int)→(List Int)→Int→Int→Option (Sum Bool Int)
 | 0,_,_,_,_=>none
 | k+1,J,U,Y,D =>
  (bif decide (D<Y) then
  (ix J D).bind fun Z =>
  (ix U D).bind fun ot =>
  (bif (Z != ot) then
  some (.inl false)
  else
  (ad D 1).bind fun ou =>
  bM N k J U Y ou)
  else
  some (.inr D))
def cw (N:Nat) (a0:List Int) (a1:List Int):Option Bool :=
  (bif ((a0.length:Int) != (a1.length:Int)) then
  some false
  else
  (bM N N a0 a1 (a0.length:Int) 0).bind fun D =>
  lpS D (fun q=>some q) fun J =>
  some true)
end Go.Proofs.Ytcpkiphiaebkmaa
namespace Go.Proofs.Ytcpkiphiaebkmaa
open Go.RowKit
def cQ (N:Nat) (a0:List Int) (a1:List Int) (a2:List Int) (a3:List Int):Option Bool :=
  (cw N a0 a2).bind fun D =>
  (bif D then
  (cw N a1 a3).bind fun J =>
  some J
  else
  some false)
def b5 (N:Nat):Nat→(List (List Int × List Int))→(List Int)→(List Int)→Int→Option (Sum (Int × (List (List Int × List Int))) Int)
 | 0,_,_,_,_=>none
 | k+1,J,U,Y,D =>
  (bif decide (D<(J.length:Int)) then
  (ix J D).bind fun Z =>
  (cQ N Z.1 Z.2 U Y).bind fun ot =>
  (bif ot then
  some (.inl (D,J))
  else
  (ad D 1).bind fun ou =>
  b5 N k J U Y ou)
  else
  some (.inr D))
def ck (N:Nat) (a0:List (List Int × List Int)) (a1:List Int) (a2:List Int):Option (Int × (List (List Int × List Int))) :=
  (b5 N N a0 a1 a2 1).bind fun J =>
  lpS J (fun q=>some q) fun Y =>
  (apd 48 a0 [(a1,a2)]).bind fun D =>
  (sb (D.length:Int) 1).bind fun U =>
  some (U,D)
def bz (rec:(List (List Int × List Int))→(List (List Int))→Int→Option (Int × (List (List Int × List Int)))) (N:Nat):Nat→(List (List Int × List Int))→(List (List Int))→Int→(List Int)→(List Int)→Int→Int→Option Int
 | 0,_,_,_,_,_,_,_=>none
 | k+1,Z,J,U,ot,ou,Y,D =>
  (bif decide (D<(J.length:Int)) then
  (ix J D).bind fun ov =>
  (ix ov U).bind fun ow =>
  (ix J Y).bind fun ox =>
  (ix ox U).bind fun oy =>
  (bif (ow == oy) then
  (ad D 1).bind fun oz =>
  bz rec N k Z J U ot ou Y oz
  else
  some D)
  else
  some D)
def ba (rec:(List (List Int × List Int))→(List (List Int))→Int→Option (Int × (List (List Int × List Int)))) (N:Nat):Nat→(List (List Int × List Int))→(List (List Int))→Int→(List Int)→(List Int)→Int→Option ((List (List Int × List Int)) × (List Int) × (List Int) × Int)
 | 0,_,_,_,_,_,_=>none
 | k+1,Y,J,U,Z,ot,D =>
  (bif decide (D<(J.length:Int)) then
  (bz rec N N Y J U Z ot D D).bind fun ow =>
  lpB ow fun ou =>
  (ix J D).bind fun ox =>
  (ix ox U).bind fun oy =>
  (apd 8 Z [oy]).bind fun oz =>
  (slc J D ou).bind fun oA =>
  (ad U 1).bind fun oB =>
  (rec Y oA oB).bind fun ov =>
  (apd 8 ot [ov.1]).bind fun oC =>
  ba rec N k ov.2 J U oz oC ou
  else
  some (Y,Z,ot,D))
def aL:Nat→(List (List Int × List Int))→(List (List Int))→Int→Option (Int × (List (List Int × List Int)))
 | 0,_,_,_=>none
 | N+1,a0,a1,a2 =>
  (bif decide (0<(a1.length:Int)) then
  (ix a1 0).bind fun U =>
  (bif (a2 == (U.length:Int)) then
  some (0,a0)
  else
  (ba (aL N) N N a0 a1 a2 [] [] 0).bind fun Y =>
  lpB Y fun (Z,ot,ou,oz) =>
  (ck N Z ot ou).bind fun D =>
  some (D.1,D.2))
  else
  (ba (aL N) N N a0 a1 a2 [] [] 0).bind fun ov =>
  lpB ov fun (ow,ox,oy,oA) =>
  (ck N ow ox oy).bind fun J =>
  some (J.1,J.2))
def ci (N:Nat) (a0:List Int):Option (List Int) :=
  (apd 8 [] a0).bind fun D =>
  some D
def cO (N:Nat) (a0:List Int) (a1:List (List Int)):Option (List Int × List (List Int × List Int)) :=
  (mk 48 (([],[]):List Int × List Int) 1).bind fun D =>
  (aL N D a1 0).bind fun J =>
  (ci N a0).bind fun U =>
  some (U,J.2)
def aX (N:Nat):Nat→Int→(List (List Int))→(List Int)→(List (List Int × List Int))→(List Int)→Int→Option ((List Int) × Int)
 | 0,_,_,_,_,_,_=>none
 | k+1,J,Y,Z,ot,U,D =>
  (bif decide (D<J) then
  (apd 8 U [D]).bind fun ou =>
  (ad D 1).bind fun ov =>
  aX N k J Y Z ot ou ov
  else
  some (U,D))
def bG (N:Nat) (a0:Int) (a1:List (List Int)):Option ((List Int × List (List Int × List Int)) × Bool) :=
  (cr N a0 a1).bind fun J =>
  (bif J then
  (aX N N a0 a1 [] [] [] 0).bind fun U =>
  lpB U fun (Y,Z) =>
  (cO N Y a1).bind fun D =>
  some ((D.1,D.2),true)
  else
  some (([],[]),false))
def bL (N:Nat):Nat→(List (List Int))→(List (List Int))→Int→Int→Option (Sum Bool Int)
 | 0,_,_,_,_=>none
 | k+1,J,U,Y,D =>
  (bif decide (D<Y) then
  (ix J D).bind fun Z =>
  (ix U D).bind fun ot =>
  (cw N Z ot).bind fun ou =>
  (bif ou then
  (ad D 1).bind fun ov =>
  bL N k J U Y ov
  else
  some (.inl false))
  else
  some (.inr D))
def dA (N:Nat) (a0:List (List Int)) (a1:List (List Int)):Option Bool :=
  (bif ((a0.length:Int) != (a1.length:Int)) then
  some false
  else
  (bL N N a0 a1 (a0.length:Int) 0).bind fun D =>
  lpS D (fun q=>some q) fun J =>
  some true)
def cy (N:Nat) (a0:Int) (a1:List (List Int)) (a2:Int) (a3:List (List Int)):Option Bool :=
  (bif (a0 == a2) then
  (dA N a1 a3).bind fun D =>
  some D
  else
  some false)
def bo (N:Nat):Nat→Int→(List (List Int))→Int→(List (List Int))→Int→Option (Sum Bool Int)
 | 0,_,_,_,_,_=>none
 | k+1,Y,J,Z,U,D =>
  (bif decide (D<(J.length:Int)) then
  (ix J D).bind fun ot =>
  (ix U D).bind fun ou =>
  (aK N ot ou).bind fun ov =>
  (bif (ov != 0) then
  some (.inl false)
  else
  (ad D 1).bind fun ow =>
  bo N k Y J Z U ow)
  else
  some (.inr D))
def bH (N:Nat) (a0:Int) (a1:List (List Int)) (a2:Int) (a3:List (List Int)):Option Bool :=
  (bif (a0 != a2) then
  some false
  else
  (bif ((a1.length:Int) != (a3.length:Int)) then
  some false
  else
  (bo N N a0 a1 a2 a3 0).bind fun D =>
  lpS D (fun q=>some q) fun J =>
  some true))
def dg (N:Nat):Nat→Int→(List Int)→Int→Int→Option (Sum Int Int)
 | 0,_,_,_,_=>none
 | k+1,J,U,Y,D =>
  (bif decide (D<Y) then
  (ix U D).bind fun Z =>
  (bif (Z == J) then
  some (.inl D)
  else
  (ad D 1).bind fun ot =>
  dg N k J U Y ot)
  else
  some (.inr D))
def dG (N:Nat) (a0:List Int) (a1:Int):Option Int :=
  (dg N N a1 a0 (a0.length:Int) 0).bind fun D =>
  lpS D (fun q=>some q) fun J =>
  some (-1)
def d6 (N:Nat) (a0:List Int) (a1:Int):Option Bool :=
  (dG N a0 a1).bind fun D =>
  some (decide (0≤D))
def bZ (N:Nat):Nat→(List Int)→Int→(List Int)→Int→Int→Option (Sum Bool Int)
 | 0,_,_,_,_,_=>none
 | k+1,J,U,Y,Z,D =>
  (bif decide (D<Z) then
  (ix Y D).bind fun ot =>
  (sb U 1).bind fun ou =>
  (cF N ot 0 ou).bind fun ov =>
  (bif ov then
  (slc J 0 D).bind fun ow =>
  (d6 N ow ot).bind fun ox =>
  (bif ox then
  some (.inl false)
  else
  (ad D 1).bind fun oy =>
  bZ N k J U Y Z oy)
  else
  some (.inl false))
  else
  some (.inr D))
def dJ (N:Nat) (a0:List Int) (a1:Int):Option Bool :=
  (bZ N N a0 a1 a0 (a0.length:Int) 0).bind fun D =>
  lpS D (fun q=>some q) fun J =>
  some true
end Go.Proofs.Ytcpkiphiaebkmaa
namespace Go.Proofs.Ytcpkiphiaebkmaa
open Go.RowKit
def cI (N:Nat) (a0:List Int):Option Bool :=
  (bif decide ((a0.length:Int)≤5) then
  (dJ N a0 (a0.length:Int)).bind fun D =>
  some D
  else
  some false)
def a7 (N:Nat):Nat→(List Int)→Int→Option (Sum Bool Int)
 | 0,_,_=>none
 | k+1,J,D =>
  (bif decide (D<(J.length:Int)) then
  (sb D 1).bind fun U =>
  (ix J U).bind fun Y =>
  (ix J D).bind fun Z =>
  (bif decide (Z≤Y) then
  some (.inl false)
  else
  (ad D 1).bind fun ot =>
  a7 N k J ot)
  else
  some (.inr D))
def bJ (N:Nat) (a0:List Int):Option Bool :=
  (a7 N N a0 1).bind fun D =>
  lpS D (fun q=>some q) fun J =>
  some true
def bQ (N:Nat):Nat→(List Int)→Int→(List Int)→(List (List Int × List Int))→(List Int)→(List Int)→(List Int)→Int→Int→Option (Sum (Int × Bool) Int)
 | 0,_,_,_,_,_,_,_,_,_=>none
 | k+1,J,U,ov,ow,ox,Y,Z,ot,D =>
  (bif decide (D<ot) then
  (ix Z D).bind fun ou =>
  (sb U 1).bind fun oy =>
  (cF N ou 0 oy).bind fun oz =>
  (bif oz then
  (ix J ou).bind fun oA =>
  (ix Y 0).bind fun oB =>
  (ix J oB).bind fun oC =>
  (bif (oA != oC) then
  some (.inl (0,false))
  else
  (ad D 1).bind fun oD =>
  bQ N k J U ov ow ox Y Z ot oD)
  else
  some (.inl (0,false)))
  else
  some (.inr D))
def bT (N:Nat):Nat→(List Int)→(List Int)→(List Int)→(List (List Int × List Int))→Int→Int→Option (Sum (Int × Bool) Int)
 | 0,_,_,_,_,_,_=>none
 | k+1,ou,J,U,Y,Z,D =>
  (bif decide (D<Z) then
  (ix Y D).bind fun ot =>
  (cQ N ot.1 ot.2 J U).bind fun ov =>
  (bif ov then
  some (.inl (0,false))
  else
  (ad D 1).bind fun ow =>
  bT N k ou J U Y Z ow)
  else
  some (.inr D))
def d8 (N:Nat) (a0:List Int) (a1:List (List Int × List Int)) (a2:List Int) (a3:Int):Option (Int × Bool) :=
  (ix a1 a3).bind fun D =>
  (bif ((D.1.length:Int) != (D.2.length:Int)) then
  some (0,false)
  else
  (b7 N D.1).bind fun U =>
  (bif U then
  (bJ N D.1).bind fun Y =>
  (bif Y then
  (bif ((D.1.length:Int) == 0) then
  (sb (a1.length:Int) 1).bind fun Z =>
  some ((a0.length:Int),(a3 == Z))
  else
  (bQ N N a2 a3 a0 a1 D.1 D.2 D.2 (D.2.length:Int) 0).bind fun ot =>
  lpS ot (fun q=>some q) fun oy =>
  (slc a1 1 a3).bind fun J =>
  (bT N N a2 D.1 D.2 J (J.length:Int) 0).bind fun ou =>
  lpS ou (fun q=>some q) fun oz =>
  (ix D.2 0).bind fun ov =>
  (ix a2 ov).bind fun ow =>
  (ad ow 1).bind fun ox =>
  some (ox,true))
  else
  some (0,false))
  else
  some (0,false)))
def aQ (N:Nat):Nat→(List Int)→(List (List Int × List Int))→(List Int)→Int→Option (Sum Bool ((List Int) × Int))
 | 0,_,_,_,_=>none
 | k+1,Y,U,J,D =>
  (bif decide (D<(U.length:Int)) then
  (d8 N Y U J D).bind fun Z =>
  (bif Z.2 then
  (ix J D).bind fun ov =>
  (sto J D Z.1).bind fun ot =>
  (ad D 1).bind fun ou =>
  aQ N k Y U ot ou
  else
  some (.inl false))
  else
  some (.inr (J,D)))
def bk (N:Nat) (a0:List Int) (a1:List (List Int × List Int)):Option Bool :=
  (cI N a0).bind fun J =>
  (bif J then
  (cF N (a1.length:Int) 1 4000).bind fun U =>
  (bif U then
  (ix a1 0).bind fun Y =>
  (bif decide (0<(Y.1.length:Int)) then
  some false
  else
  (ix a1 0).bind fun Z =>
  (bif decide (0<(Z.2.length:Int)) then
  some false
  else
  (mk 8 (0:Int) (a1.length:Int)).bind fun ot =>
  (aQ N N a0 a1 ot 1).bind fun ou =>
  lpS ou (fun q=>some q) fun (D,ox) =>
  (sb (D.length:Int) 1).bind fun ov =>
  (ix D ov).bind fun ow =>
  some (ow == (a0.length:Int))))
  else
  some false)
  else
  some false)
def bv (N:Nat):Nat→(List Int)→Int→(List (List Int × List Int))→Int→Int→(List Int)→Int→Int→Option ((List Int) × Int)
 | 0,_,_,_,_,_,_,_,_=>none
 | k+1,D,J,ot,ou,ov,Y,Z,U =>
  (bif decide (U<Z) then
  (ix Y U).bind fun ow =>
  (ix D J).bind fun ox =>
  (ix D ow).bind fun oy =>
  (ad ox oy).bind fun oz =>
  (ix D J).bind fun oC =>
  (sto D J (imn 1000000000 oz)).bind fun oA =>
  (ad U 1).bind fun oB =>
  bv N k oA J ot ou ov Y Z oB
  else
  some (D,U))
def bE (N:Nat):Nat→(List Int)→(List (List Int × List Int))→Int→Int→Option ((List Int) × Int)
 | 0,_,_,_,_=>none
 | k+1,Y,J,U,D =>
  (bif decide (D<U) then
  (ix J D).bind fun Z =>
  (bif (D == 0) then
  (ix Y 0).bind fun oA =>
  (sto Y 0 1).bind fun ot =>
  (bv N N ot D J U D Z.2 (Z.2.length:Int) 0).bind fun ou =>
  lpB ou fun (ov,oB) =>
  (ad D 1).bind fun ow =>
  bE N k ov J U ow
  else
  (bv N N Y D J U D Z.2 (Z.2.length:Int) 0).bind fun ox =>
  lpB ox fun (oy,oC) =>
  (ad D 1).bind fun oz =>
  bE N k oy J U oz)
  else
  some (Y,D))
def d2 (N:Nat) (a0:List Int) (a1:List (List Int × List Int)):Option (List Int) :=
  (mk 8 (0:Int) (a1.length:Int)).bind fun D =>
  (bE N N D a1 (a1.length:Int) 0).bind fun J =>
  lpB J fun (U,Y) =>
  some U
def bX (N:Nat) (a0:List Int) (a1:List (List Int × List Int)):Option Int :=
  (bk N a0 a1).bind fun J =>
  (bif J then
  (d2 N a0 a1).bind fun D =>
  (sb (D.length:Int) 1).bind fun U =>
  (ix D U).bind fun Y =>
  some Y
  else
  some 0)
def bV (rec:(List Int)→(List (List Int × List Int))→Int→(List Int)→(List (List Int))→Option (List (List Int))) (N:Nat):Nat→(List Int)→(List (List Int))→(List Int)→(List (List Int × List Int))→(List Int)→(List Int)→(List Int)→Int→Int→Option ((List (List Int)) × Int)
 | 0,_,_,_,_,_,_,_,_,_=>none
 | k+1,J,U,Y,Z,ow,ot,ou,ov,D =>
  (bif decide (D<ov) then
  (ix ou D).bind fun ox =>
  (ix ot D).bind fun oy =>
  (ci N J).bind fun oz =>
  (apd 8 oz [ox]).bind fun oA =>
  (rec Y Z oy oA U).bind fun oB =>
  (ad D 1).bind fun oC =>
  bV rec N k J oB Y Z ow ot ou ov oC
  else
  some (U,D))
def b9:Nat→(List Int)→(List (List Int × List Int))→Int→(List Int)→(List (List Int))→Option (List (List Int))
 | 0,_,_,_,_,_=>none
 | N+1,a0,a1,a2,a3,a4 =>
  (bif (a2 == 0) then
  (ci N a3).bind fun J =>
  (apd 24 a4 [J]).bind fun U =>
  some U
  else
  (ix a1 a2).bind fun D =>
  (bV (b9 N) N N a3 a4 a0 a1 D.1 D.2 D.1 (D.1.length:Int) 0).bind fun Y =>
  lpB Y fun (Z,ot) =>
  some Z)
def bN (N:Nat) (a0:List Int) (a1:List (List Int × List Int)):Option ((Int × List (List Int)) × Bool) :=
  (bk N a0 a1).bind fun D =>
  (bif D then
  (bX N a0 a1).bind fun J =>
  (bif decide (4000<J) then
  some ((0,[]),false)
  else
  (sb (a1.length:Int) 1).bind fun U =>
  (b9 N a0 a1 U [] []).bind fun Y =>
  some (((a0.length:Int),Y),true))
  else
  some ((0,[]),false))
def a6 (N:Nat):Nat→(List Int)→(List (List Int × List Int))→(List Int)→(List (List Int × List Int))→Int→Int→Option (Sum Bool Int)
 | 0,_,_,_,_,_,_=>none
 | k+1,ou,J,ov,U,Y,D =>
  (bif decide (D<Y) then
  (ix J D).bind fun Z =>
  (ix U D).bind fun ot =>
  (cQ N Z.1 Z.2 ot.1 ot.2).bind fun ow =>
  (bif ow then
  (ad D 1).bind fun ox =>
  a6 N k ou J ov U Y ox
  else
  some (.inl false))
  else
  some (.inr D))
def bK (N:Nat) (a0:List Int) (a1:List (List Int × List Int)) (a2:List Int) (a3:List (List Int × List Int)):Option Bool :=
  (cw N a0 a2).bind fun D =>
  (bif D then
  (bif ((a1.length:Int) != (a3.length:Int)) then
  some false
  else
  (a6 N N a0 a1 a2 a3 (a1.length:Int) 0).bind fun J =>
  lpS J (fun q=>some q) fun U =>
  some true)
  else
  some false)
def bI (N:Nat) (a0:List Int):Option Bool :=
  (f8 N a0).bind fun Z =>
  (bif Z then
  some true
  else
  (bW N a0).bind fun D =>
  (bG N D.1.1 D.1.2).bind fun J =>
  (bG N D.2.1 D.2.2).bind fun U =>
  (bC N D.1.1 D.1.2).bind fun ot =>
  (bif (J.2 != ot) then
  some false
  else
  (bC N D.2.1 D.2.2).bind fun ou =>
  (bif (U.2 != ou) then
  some false
  else
  (cy N D.1.1 D.1.2 D.2.1 D.2.2).bind fun ov =>
  (bH N D.1.1 D.1.2 D.2.1 D.2.2).bind fun ow =>
  (bif (ov != ow) then
  some false
  else
  (bif J.2 then
  (bif U.2 then
  (bN N J.1.1 J.1.2).bind fun Y =>
  (bif Y.2 then
  (bH N Y.1.1 Y.1.2 D.1.1 D.1.2).bind fun ox =>
  (bif ox then
  (bK N J.1.1 J.1.2 U.1.1 U.1.2).bind fun oy =>
  (bH N D.1.1 D.1.2 D.2.1 D.2.2).bind fun oz =>
  (bif (oy == oz) then
  (bk N J.1.1 J.1.2).bind fun oA =>
  some oA
  else
  some false)
  else
  some false)
  else
  some false)
  else
  some true)
  else
  some true)))))
end Go.Proofs.Ytcpkiphiaebkmaa
namespace Go.Proofs.Ytcpkiphiaebkmaa
open Go.RowKit

def inR (n lo hi:Int):Bool:=decide (lo≤n)&&decide (n≤hi)
theorem eS (N:Nat) (n lo hi:Int):cF N n lo hi=some (inR n lo hi):=by
 unfold cF inR;cases decide (lo≤n) <;> rfl
theorem ko (N:Nat) (n lo hi:Int):el N n lo hi=some (inR n lo hi):=by
 unfold el inR;cases decide (lo≤n) <;> rfl
theorem dS {n lo hi:Int}:inR n lo hi=true↔lo≤n∧n≤hi:=by unfold inR;simp
def ef (a b:Int):Int:=if a<b then -1 else if b<a then 1 else 0
def aW:List Int→List Int→Int
 | [],[]=>0
 | [],_ :: _=>-1
 | _ :: _,[]=>1
 | a :: xs,b :: ys=>if a<b then -1 else if b<a then 1 else aW xs ys
theorem em:∀ {xs ys:List Int},aW xs ys=0↔xs=ys
 | [],[]=>by simp [aW]
 | [],_ :: _=>by simp [aW]
 | _ :: _,[]=>by simp [aW]
 | a :: xs,b :: ys=>by
  unfold aW
  by_cases h1:a<b
  ·rw [if_pos h1];simp;omega
  ·rw [if_neg h1]
   by_cases h2:b<a
   ·rw [if_pos h2];simp;omega
   ·rw [if_neg h2,em,List.cons.injEq]
    constructor
    ·rintro rfl;exact ⟨by omega,rfl⟩
    ·exact fun h=>h.2
theorem jx (xs:List Int):aW xs []=if xs.length=0 then 0 else 1:=by cases xs <;> simp [aW]
theorem jA (xs:List Int):aW [] xs=if xs.length=0 then 0 else -1:=by cases xs <;> simp [aW]
theorem fP (N:Nat) (a b:Int):cj N a b=some (ef a b):=by
 unfold cj ef
 by_cases h1:a<b
 ·rw [decide_eq_true h1,if_pos h1];rfl
 ·rw [decide_eq_false h1,if_neg h1]
  by_cases h2:b<a
  ·rw [decide_eq_true h2,if_pos h2];rfl
  ·rw [decide_eq_false h2,if_neg h2];rfl
theorem df {α:Type} {xs:List α} {i:Nat} (h:i<xs.length):xs.drop i=xs[i] :: xs.drop (i+1):=List.drop_eq_getElem_cons h
section
variable {N:Nat} {xs ys:List Int}
theorem me (hx:xs.length≤1048576) (hy:ys.length≤9223372036854775807):∀ k i,i≤xs.length→i≤ys.length→xs.length-i<k →
  ∃ s,cz N k xs ys (i:Int)=some s∧(match s with | .inl r=>aW (xs.drop i) (ys.drop i)=r | .inr _=>aW (xs.drop i) (ys.drop i)=ef xs.length ys.length):=by
 intro k
 induction k with
 | zero=>intro i h1 h2 h3;omega
 | succ k ih =>
  intro i h1 h2 h3
  rw [cz]
  by_cases h:i<xs.length
  ·by_cases h':i<ys.length
   ·rw [dlt h,cond_true,dlt h',cond_true,aU h,bs,aU h',bs,df h,df h',aW]
    by_cases he:xs[i]=ys[i]
    ·rw [show (xs[i] != ys[i])=false by simpa using he,cond_false,ad1 (by omega),bs,if_neg (by omega),if_neg (by omega)]
     exact ih (i+1) (by omega) (by omega) (by omega)
    ·rw [show (xs[i] != ys[i])=true by simpa using he,cond_true,bs,bs,fP,bs]
     refine ⟨_,rfl,?_⟩
     show _=ef xs[i] ys[i]
     unfold ef
     by_cases h1:xs[i]<ys[i]
     ·rw [if_pos h1,if_pos h1]
     ·rw [if_neg h1,if_neg h1,if_pos (by omega),if_pos (by omega)]
   ·rw [dlt h,cond_true,dge h',cond_false]
    refine ⟨_,rfl,?_⟩
    show _=ef _ _
    rw [List.drop_of_length_le (l:=ys) (by omega),jx,if_neg (by simp;omega)]
    unfold ef;rw [if_neg (by omega),if_pos (by omega)]
  ·rw [dge h,cond_false]
   refine ⟨_,rfl,?_⟩
   show _=ef _ _
   rw [List.drop_of_length_le (l:=xs) (by omega),jA]
   unfold ef
   by_cases h':i<ys.length
   ·rw [if_neg (by simp;omega),if_pos (by omega)]
   ·rw [if_pos (by simp;omega),if_neg (by omega),if_neg (by omega)]
theorem gr (hN:1073741824≤N) (hx:xs.length≤1048576) (hy:ys.length≤9223372036854775807):cV N xs ys=some (aW xs ys):=by
 obtain ⟨s,h1,h2⟩:=me (N:=N) hx hy N 0 (by omega) (by omega) (by omega)
 unfold cV
 rw [show ((0:Int))=((0:Nat):Int) from rfl,h1,bs]
 simp only [List.drop_zero] at h2
 cases s with
 | inl r=>rw [h2];rfl
 | inr v=>show (cj N _ _).bind _=_;rw [fP,bs,h2]
theorem lX (hx:xs.length≤1048576) (hy:ys.length≤9223372036854775807):∀ k i,i≤xs.length→i≤ys.length→xs.length-i<k →
  ∃ s,cx N k xs ys (i:Int)=some s∧(match s with | .inl r=>aW (xs.drop i) (ys.drop i)=r | .inr _=>aW (xs.drop i) (ys.drop i)=ef xs.length ys.length):=by
 intro k
 induction k with
 | zero=>intro i h1 h2 h3;omega
 | succ k ih =>
  intro i h1 h2 h3
  rw [cx]
  by_cases h:i<xs.length
  ·by_cases h':i<ys.length
   ·rw [dlt h,cond_true,dlt h',cond_true,aU h,bs,aU h',bs,df h,df h',aW]
    by_cases he:xs[i]<ys[i]
    ·rw [decide_eq_true he,cond_true,if_pos he];exact ⟨_,rfl,rfl⟩
    ·rw [decide_eq_false he,cond_false,if_neg he,bs,bs]
     by_cases he2:ys[i]<xs[i]
     ·rw [decide_eq_true he2,cond_true,if_pos he2];exact ⟨_,rfl,rfl⟩
     ·rw [decide_eq_false he2,cond_false,if_neg he2,ad1 (by omega),bs]
      exact ih (i+1) (by omega) (by omega) (by omega)
   ·rw [dlt h,cond_true,dge h',cond_false]
    refine ⟨_,rfl,?_⟩
    show _=ef _ _
    rw [List.drop_of_length_le (l:=ys) (by omega),jx,if_neg (by simp;omega)]
    unfold ef;rw [if_neg (by omega),if_pos (by omega)]
  ·rw [dge h,cond_false]
   refine ⟨_,rfl,?_⟩
   show _=ef _ _
   rw [List.drop_of_length_le (l:=xs) (by omega),jA]
   unfold ef
   by_cases h':i<ys.length
   ·rw [if_neg (by simp;omega),if_pos (by omega)]
   ·rw [if_pos (by simp;omega),if_neg (by omega),if_neg (by omega)]
theorem cX (hN:1073741824≤N) (hx:xs.length≤1048576) (hy:ys.length≤9223372036854775807):aK N xs ys=some (aW xs ys):=by
 obtain ⟨s,h1,h2⟩:=lX (N:=N) hx hy N 0 (by omega) (by omega) (by omega)
 unfold aK
 rw [show ((0:Int))=((0:Nat):Int) from rfl,h1,bs]
 simp only [List.drop_zero] at h2
 cases s with
 | inl r=>rw [h2];rfl
 | inr v =>
  rw [h2]
  show (bif decide ((xs.length:Int)<(ys.length:Int)) then _ else _)=_
  unfold ef
  by_cases h1:(xs.length:Int)<ys.length
  ·rw [decide_eq_true h1,if_pos h1];rfl
  ·rw [decide_eq_false h1,if_neg h1,cond_false]
   by_cases h2:(ys.length:Int)<xs.length
   ·rw [decide_eq_true h2,if_pos h2];rfl
   ·rw [decide_eq_false h2,if_neg h2];rfl
theorem eE (hN:1073741824≤N) (hx:xs.length≤1048576):cw N xs ys=some (decide (xs=ys)):=by
 unfold cw
 by_cases hl:xs.length=ys.length
 ·rw [show ((xs.length:Int) != (ys.length:Int))=false by simp [hl],cond_false]
  have:=fc (L:=fun k i=>bM N k xs ys (xs.length:Int) i) xs.length (by omega) false (fun i=>if h:i<xs.length then decide (xs[i]=ys[i]'(by omega)) else true) (xs.length:Int)
   (fun k i h=>by
    show bM N (k+1) xs ys _ (i:Int)=_
    rw [bM,dlt h,cond_true,aU h,bs,aU (by omega),bs,ad1 (by omega),bs,hJ]
    simp only [dif_pos h]
    cases decide (xs[i]=ys[i]'(by omega)) <;> rfl)
   (fun k=>by
    show bM N (k+1) xs ys _ (xs.length:Int)=_
    rw [bM,dge (by omega),cond_false]) N 0 (by omega) (by omega)
  rw [show ((0:Int))=((0:Nat):Int) from rfl,this,bs,Nat.sub_zero,jw hl _ (fun i hi=>by rw [dif_pos hi])]
  cases decide (xs=ys) <;> rfl
 ·rw [show ((xs.length:Int) != (ys.length:Int))=true by simp;omega,cond_true,eq_comm]
  congr 1
  simp
  intro e;subst e;exact hl rfl
def fnd (v:Int):List Int→Int→Int
 | [],_=>-1
 | x :: xs,i=>if x=v then i else fnd v xs (i+1)
def fB (xs:List Int) (v:Int):Int:=fnd v xs 0
theorem jR (v:Int):∀ (xs:List Int) (i:Nat),(v∉xs∧fnd v xs i=-1)∨∃ j,∃ h:j<xs.length,xs[j]=v∧fnd v xs i=((i+j:Nat):Int)∧v∉xs.take j
 | [],i=>.inl ⟨by simp,rfl⟩
 | x :: xs,i=>by
  unfold fnd
  by_cases h:x=v
  ·rw [if_pos h];exact .inr ⟨0,by simp,by simpa using h,by simp,by simp⟩
  ·rw [if_neg h]
   rcases jR v xs (i+1) with ⟨h1,h2⟩ | ⟨j,hj,h1,h2,h3⟩
   ·exact .inl ⟨by simp [h1,Ne.symm h],by simpa using h2⟩
   ·exact .inr ⟨j+1,by simpa using hj,by simpa using h1,by rw [show ((i:Int)+1)=((i+1:Nat):Int) by simp,h2];congr 1;omega,by simp [h3,Ne.symm h]⟩
theorem kT (xs:List Int) (v:Int):(v∉xs∧fB xs v=-1)∨∃ j,∃ h:j<xs.length,xs[j]=v∧fB xs v=(j:Int)∧v∉xs.take j:=by
 have:=jR v xs 0
 simpa [fB] using this
theorem jo (xs:List Int) (v:Int):decide (0≤fB xs v)=decide (v∈xs):=by
 rcases kT xs v with ⟨h1,h2⟩ | ⟨j,hj,h1,h2,_⟩
 ·rw [h2,decide_eq_false (by omega),decide_eq_false h1]
 ·rw [h2,decide_eq_true (by omega),decide_eq_true (h1 ▸ List.getElem_mem hj)]
theorem kH (hN:1073741824≤N) (hx:xs.length≤1048576) (v:Int):dG N xs v=some (fB xs v):=by
 have key:∀ k i,i≤xs.length→xs.length-i<k→∃ s,dg N k v xs (xs.length:Int) (i:Int)=some s∧(match s with | .inl r=>fnd v (xs.drop i) i=r | .inr _=>fnd v (xs.drop i) i=-1):=by
  intro k
  induction k with
  | zero=>intro i h1 h2;omega
  | succ k ih =>
   intro i h1 h2
   rw [dg]
   by_cases h:i<xs.length
   ·rw [dlt h,cond_true,aU h,bs,df h,fnd]
    by_cases he:xs[i]=v
    ·rw [show (xs[i] == v)=true by simpa using he,cond_true,if_pos he];exact ⟨_,rfl,rfl⟩
    ·rw [show (xs[i] == v)=false by simpa using he,cond_false,if_neg he,ad1 (by omega),bs]
     have:=ih (i+1) (by omega) (by omega)
     simpa using this
   ·rw [dge h,cond_false,List.drop_of_length_le (by omega)];exact ⟨_,rfl,rfl⟩
 obtain ⟨s,h1,h2⟩:=key N 0 (by omega) (by omega)
 unfold dG fB
 rw [show ((0:Int))=((0:Nat):Int) from rfl,h1,bs]
 simp only [List.drop_zero] at h2
 cases s with
 | inl r=>rw [h2];rfl
 | inr r=>rw [h2];rfl
theorem k7 (hN:1073741824≤N) (hx:xs.length≤1048576) (v:Int):d6 N xs v=some (decide (v∈xs)):=by
 unfold d6;rw [kH hN hx,bs,jo]
def aM (xs:List Int):Bool:=xs.all fun x=>inR x 0 99
theorem d4 (hN:1073741824≤N) (hx:xs.length≤1048576):b7 N xs=some (aM xs):=by
 have:=fc (L:=fun k i=>bp N k xs (xs.length:Int) i) xs.length (by omega) false (fun i=>if h:i<xs.length then inR xs[i] 0 99 else true) (xs.length:Int)
  (fun k i h=>by
   show bp N (k+1) xs _ (i:Int)=_
   rw [bp,dlt h,cond_true,aU h,bs,eS,bs,ad1 (by omega),bs]
   simp only [dif_pos h])
  (fun k=>by
   show bp N (k+1) xs _ (xs.length:Int)=_
   rw [bp,dge (by omega),cond_false]) N 0 (by omega) (by omega)
 unfold b7 aM
 rw [show ((0:Int))=((0:Nat):Int) from rfl,this,bs,Nat.sub_zero,fx xs (fun x=>inR x 0 99) _ (fun i hi=>by rw [dif_pos hi])]
 cases xs.all fun x=>inR x 0 99 <;> rfl
theorem d7 (hN:1073741824≤N) (hx:xs.length≤1048576):b8 N xs=some (aM xs):=by
 have:=fc (L:=fun k i=>bm N k xs i) xs.length (by omega) false (fun i=>if h:i<xs.length then inR xs[i] 0 99 else true) (xs.length:Int)
  (fun k i h=>by
   show bm N (k+1) xs (i:Int)=_
   rw [bm,dlt h,cond_true,aU h,bs,ko,bs,ad1 (by omega),bs]
   simp only [dif_pos h])
  (fun k=>by
   show bm N (k+1) xs (xs.length:Int)=_
   rw [bm,dge (by omega),cond_false]) N 0 (by omega) (by omega)
 unfold b8 aM
 rw [show ((0:Int))=((0:Nat):Int) from rfl,this,bs,Nat.sub_zero,fx xs (fun x=>inR x 0 99) _ (fun i hi=>by rw [dif_pos hi])]
 cases xs.all fun x=>inR x 0 99 <;> rfl
def asc:List Int→Bool
 | []=>true
 | [_]=>true
 | x :: y :: t=>decide (x<y)&&asc (y :: t)
theorem od {L:Nat→Int→Option (Sum Bool Int)} (hx:xs.length≤1048576)
  (hs:∀ k i (h:i+1<xs.length),L (k+1) ((i+1:Nat):Int)=bif decide (xs[i+1]≤xs[i]) then some (.inl false) else L k ((i+2:Nat):Int)) (he:∀ k i,xs.length≤i→L (k+1) (i:Int)=some (.inr (i:Int))) :
  ∀ k i,xs.length-i<k→L k ((i+1:Nat):Int)=some (if asc (xs.drop i) then .inr ((max xs.length (i+1):Nat):Int) else .inl false):=by
 intro k
 induction k with
 | zero=>intro i hk;omega
 | succ k ih =>
  intro i hk
  by_cases h:i+1<xs.length
  ·rw [hs k i h,df (by omega:i<xs.length),df h,asc]
   by_cases hle:xs[i+1]≤xs[i]
   ·rw [decide_eq_true hle,cond_true,decide_eq_false (by omega)];rfl
   ·rw [decide_eq_false hle,cond_false,decide_eq_true (by omega:xs[i]<xs[i+1]),Bool.true_and,← df h]
    have:=ih (i+1) (by omega)
    rw [this]
    congr 2
    rw [Nat.max_eq_left (by omega),Nat.max_eq_left (by omega)]
  ·rw [he k (i+1) (by omega)]
   have ha:asc (xs.drop i)=true:=by
    by_cases h2:i<xs.length
    ·rw [df h2,List.drop_of_length_le (by omega)];rfl
    ·rw [List.drop_of_length_le (by omega)];rfl
   rw [ha,if_pos rfl,Nat.max_eq_right (by omega)]
theorem eM (hN:1073741824≤N) (hx:xs.length≤1048576):bJ N xs=some (asc xs):=by
 have:=od (L:=fun k i=>a7 N k xs i) hx
  (fun k i h=>by
   show a7 N (k+1) xs ((i+1:Nat):Int)=_
   rw [a7,dlt h,cond_true,ea (by omega) (by omega),bs,show (((i+1:Nat):Int)-1)=(i:Int) by omega,aU (by omega),bs,aU h,bs,ad1 (by omega),bs])
  (fun k i h=>by
   show a7 N (k+1) xs (i:Int)=_
   rw [a7,dge (by omega),cond_false]) N 0 (by omega)
 unfold bJ
 rw [show ((1:Int))=((0+1:Nat):Int) from rfl,this,bs,List.drop_zero]
 cases asc xs <;> rfl
def fj (xs:List Int) (n:Int):Bool:=(List.range' 0 xs.length).all fun i=>inR (xs.getD i 0) 0 (n-1)&&!decide (xs.getD i 0∈xs.take i)
theorem cL {xs:List Int} {i:Nat} (h:i<xs.length):xs.getD i 0=xs[i]:=by simp [h]
theorem ks (hN:1073741824≤N) (hx:xs.length≤1048576) {n:Int} (hn:-1099511627776≤n∧n≤1099511627776):dJ N xs n=some (fj xs n):=by
 have:=fc (L:=fun k i=>bZ N k xs n xs (xs.length:Int) i) xs.length (by omega) false (fun i=>inR (xs.getD i 0) 0 (n-1)&&!decide (xs.getD i 0∈xs.take i)) (xs.length:Int)
  (fun k i h=>by
   show bZ N (k+1) xs n xs _ (i:Int)=_
   rw [bZ,dlt h,cond_true,aU h,bs,ea (by omega) (by omega),bs,eS,bs,show ((0:Int))=((0:Nat):Int) from rfl,fO (Nat.zero_le _) (by omega),bs,List.drop_zero,k7 hN (by simp;omega),bs,ad1 (by omega),bs]
   simp only [show ((0:Nat):Int)=0 from rfl,cL h]
   cases inR xs[i] 0 (n-1)
   ·rfl
   ·cases decide (xs[i]∈xs.take i) <;> rfl)
  (fun k=>by
   show bZ N (k+1) xs n xs _ (xs.length:Int)=_
   rw [bZ,dge (by omega),cond_false]) N 0 (by omega) (by omega)
 unfold dJ fj
 rw [show ((0:Int))=((0:Nat):Int) from rfl,this,bs,Nat.sub_zero]
 simp only [show ((0:Nat):Int)=0 from rfl]
 cases (List.range' 0 xs.length).all fun i=>inR (xs.getD i 0) 0 (n-1)&&!decide (xs.getD i 0∈xs.take i) <;> rfl
def dV (xs:List Int):Bool:=decide ((xs.length:Int)≤5)&&fj xs xs.length
theorem fL (hN:1073741824≤N) (hx:xs.length≤1048576):cI N xs=some (dV xs):=by
 unfold cI dV
 rw [ks hN hx (by omega),bs]
 cases decide ((xs.length:Int)≤5) <;> rfl
end
end Go.Proofs.Ytcpkiphiaebkmaa
namespace Go.Proofs.Ytcpkiphiaebkmaa
open Go.RowKit

abbrev okI (xs:List Int):Prop:=gj (fun _=>True) 1048576 xs
abbrev c4 (xs:List (List Int)):Prop:=gj (gj (fun _=>True) 1048576) 1048576 xs
abbrev okN (xs:List (List Int × List Int)):Prop:=gj (fun x=>(gj (fun _=>True) 1048576) x.1∧(gj (fun _=>True) 1048576) x.2) 1048576 xs
theorem jW {α:Type} [DecidableEq α] {L:Nat→Int→Option (Sum Bool Int)} {xs ys:List α} (hl:xs.length=ys.length) (hx:xs.length≤1048576) {N:Nat} (hN:1073741824≤N)
  (hs:∀ k i (h:i<xs.length) (h':i<ys.length),L (k+1) (i:Int)=bif decide (xs[i]=ys[i]) then L k ((i+1:Nat):Int) else some (.inl false)) (he:∀ k,L (k+1) (xs.length:Int)=some (.inr (xs.length:Int))) :
  ((L N 0).bind fun s=>lpS s (fun q=>some q) fun _=>some true)=some (decide (xs=ys)):=by
 have:=fc L xs.length (by omega) false (fun i=>if h:i<xs.length then decide (xs[i]=ys[i]'(by omega)) else true) (xs.length:Int)
  (fun k i h=>by rw [hs k i h (by omega)];simp only [dif_pos h]) he N 0 (by omega) (by omega)
 rw [show ((0:Int))=((0:Nat):Int) from rfl,this,bs,Nat.sub_zero,jw hl _ (fun i hi=>by rw [dif_pos hi])]
 cases decide (xs=ys) <;> rfl
theorem kW {α:Type} [DecidableEq α] {xs ys:List α} (h:¬ xs.length=ys.length):some false=some (decide (xs=ys)):=by
 congr 1;rw [eq_comm,decide_eq_false_iff_not];rintro rfl;exact h rfl
theorem kP {α:Type} {xs ys:List α} (h:¬ xs.length=ys.length):((xs.length:Int) != (ys.length:Int))=true:=by simp;omega
theorem ku {α:Type} {xs ys:List α} (h:xs.length=ys.length):((xs.length:Int) != (ys.length:Int))=false:=by simp [h]
section
variable {N:Nat}
theorem j6 (hN:1073741824≤N) {xs ys:List (List Int)} (hx:c4 xs):dA N xs ys=some (decide (xs=ys)):=by
 unfold dA
 by_cases hl:xs.length=ys.length
 ·rw [ku hl,cond_false]
  refine jW (L:=fun k i=>bL N k xs ys (xs.length:Int) i) hl hx.1 hN (fun k i h h'=>?_) (fun k=>?_)
  ·have:=hx.1
   show bL N (k+1) xs ys _ (i:Int)=_
   rw [bL,dlt h,cond_true,aU h,bs,aU h',bs,eE hN (hx.2 _ (List.getElem_mem h)).1,bs,ad1 (by omega),bs]
  ·show bL N (k+1) xs ys _ (xs.length:Int)=_
   rw [bL,dge (by omega),cond_false]
 ·rw [kP hl,cond_true];exact kW hl
theorem jp (xs ys:List Int):(aW xs ys != 0)=!decide (xs=ys):=by
 rw [hJ];congr 1;rw [decide_eq_decide];exact em
theorem di (hN:1073741824≤N) {a b:Int} {xs ys:List (List Int)} (hx:c4 xs):cy N a xs b ys=some (decide ((a,xs)=(b,ys))):=by
 unfold cy
 rw [j6 hN hx,bs,kD]
 by_cases h1:a=b <;> by_cases h2:xs=ys <;> simp [h1,h2]
theorem cG (hN:1073741824≤N) {a b:Int} {xs ys:List (List Int)} (hx:c4 xs) (hy:c4 ys):bH N a xs b ys=some (decide ((a,xs)=(b,ys))):=by
 unfold bH
 by_cases hl:xs.length=ys.length
 ·rw [ku hl,cond_false,jW (L:=fun k i=>bo N k a xs b ys i) hl hx.1 hN (fun k i h h'=>?_) (fun k=>?_),hJ]
  ·by_cases h1:a=b <;> by_cases h2:xs=ys <;> simp [h1,h2]
  ·have:=hx.1
   have:=(hy.2 _ (List.getElem_mem h')).1
   show bo N (k+1) a xs b ys (i:Int)=_
   rw [bo,dlt h,cond_true,aU h,bs,aU h',bs,cX hN (hx.2 _ (List.getElem_mem h)).1 (by omega),bs,jp,ad1 (by omega),bs]
   cases decide (xs[i]=ys[i]) <;> rfl
  ·show bo N (k+1) a xs b ys (xs.length:Int)=_
   rw [bo,dge (by omega),cond_false]
 ·rw [kP hl,cond_true,hJ]
  have:¬ xs=ys:=fun e=>hl (by rw [e])
  by_cases h1:a=b <;> simp [h1,this]
end
end Go.Proofs.Ytcpkiphiaebkmaa
namespace Go.Proofs.Ytcpkiphiaebkmaa
open Go.RowKit

def fa (n:Int) (rows:List (List Int)) (i:Nat):Bool :=
 decide (((rows.getD i []).length:Int)=n)&&aM (rows.getD i [])&&(Nat.beq i 0||decide (aW (rows.getD (i-1) []) (rows.getD i [])<0))
def bj (n:Int) (rows:List (List Int)):Bool:=inR n 0 5&&decide ((rows.length:Int)≤4000)&&(List.range' 0 rows.length).all (fa n rows)
theorem c7 {rows:List (List Int)} {i:Nat} (h:i<rows.length):rows.getD i []=rows[i]:=by simp [h]
section
variable {N:Nat}
theorem iV (a:Int):decide (0≤a)=!decide (a<0):=by by_cases h:a<0 <;> simp [h];omega
theorem jX (hN:1073741824≤N) {n:Int} {rows:List (List Int)} (hx:c4 rows):dp N n rows=some (bj n rows):=by
 have hl:=hx.1
 have:=fc (L:=fun k i=>bx N k n rows rows (rows.length:Int) i) rows.length (by omega) false (fa n rows) (rows.length:Int)
  (fun k i h=>by
   have h1:=(hx.2 _ (List.getElem_mem h)).1
   show bx N (k+1) n rows rows _ (i:Int)=_
   rw [bx,dlt h,cond_true,aU h,bs,hJ,d4 hN h1,bs]
   unfold fa
   rw [c7 h]
   cases decide ((rows[i].length:Int)=n)
   ·rfl
   cases aM rows[i]
   ·rfl
   cases i with
   | zero=>rw [ad1 (by omega)];rfl
   | succ j =>
    rw [show decide (0<((j+1:Nat):Int))=true from decide_eq_true (by omega),ea (by omega) (by omega),bs,show (((j+1:Nat):Int)-1)=(j:Int) by omega,aU (by omega),bs,gr hN (hx.2 _ (List.getElem_mem (by omega))).1 (by omega),bs,ad1 (by omega),bs,iV,Nat.add_sub_cancel,c7 (by omega)]
    cases decide (aW rows[j] rows[j+1]<0) <;> rfl)
  (fun k=>by
   show bx N (k+1) n rows rows _ (rows.length:Int)=_
   rw [bx,dge (by omega),cond_false]) N 0 (by omega) (by omega)
 unfold dp bj
 rw [eS,bs,show ((0:Int))=((0:Nat):Int) from rfl,this,bs,Nat.sub_zero]
 by_cases h4:(rows.length:Int)≤4000
 ·rw [decide_eq_true h4,decide_eq_false (by omega:¬ (4000:Int)<rows.length)]
  simp only [show ((0:Nat):Int)=0 from rfl]
  cases inR n 0 5 <;> cases (List.range' 0 rows.length).all (fa n rows) <;> rfl
 ·rw [decide_eq_false h4,decide_eq_true (by omega:(4000:Int)<rows.length)]
  simp only [show ((0:Nat):Int)=0 from rfl]
  cases inR n 0 5 <;> rfl
theorem fm (hN:1073741824≤N) {n:Int} {rows:List (List Int)} (hx:c4 rows):cr N n rows=some (bj n rows):=by
 unfold cr;rw [jX hN hx,bs]
theorem c6 (hN:1073741824≤N) {n:Int} {rows:List (List Int)} (hx:c4 rows):bC N n rows=some (bj n rows):=by
 have hl:=hx.1
 have:=fc (L:=fun k i=>bb N k n rows i) rows.length (by omega) false (fa n rows) (rows.length:Int)
  (fun k i h=>by
   have h1:=(hx.2 _ (List.getElem_mem h)).1
   show bb N (k+1) n rows (i:Int)=_
   rw [bb,dlt h,cond_true,aU h,bs,hJ,bs,d7 hN h1,bs]
   unfold fa
   rw [c7 h]
   cases decide ((rows[i].length:Int)=n)
   ·rfl
   cases aM rows[i]
   ·rfl
   cases i with
   | zero=>rw [ad1 (by omega)];rfl
   | succ j =>
    rw [show decide (0<((j+1:Nat):Int))=true from decide_eq_true (by omega),ea (by omega) (by omega),bs,show (((j+1:Nat):Int)-1)=(j:Int) by omega,aU (by omega),bs,bs,cX hN (hx.2 _ (List.getElem_mem (by omega))).1 (by omega),bs,ad1 (by omega),bs,iV,Nat.add_sub_cancel,c7 (by omega)]
    cases decide (aW rows[j] rows[j+1]<0) <;> rfl)
  (fun k=>by
   show bb N (k+1) n rows (rows.length:Int)=_
   rw [bb,dge (by omega),cond_false]) N 0 (by omega) (by omega)
 unfold bC bj
 rw [ko,bs,show ((0:Int))=((0:Nat):Int) from rfl,this,bs,Nat.sub_zero]
 by_cases h4:(rows.length:Int)≤4000
 ·rw [decide_eq_true h4,decide_eq_false (by omega:¬ (4000:Int)<rows.length)]
  simp only [show ((0:Nat):Int)=0 from rfl]
  cases inR n 0 5 <;> cases (List.range' 0 rows.length).all (fa n rows) <;> rfl
 ·rw [decide_eq_false h4,decide_eq_true (by omega:(4000:Int)<rows.length)]
  simp only [show ((0:Nat):Int)=0 from rfl]
  cases inR n 0 5 <;> rfl
theorem dr {n:Int} {rows:List (List Int)} (h:bj n rows=true):0≤n∧n≤5∧rows.length≤4000∧∀ i (hi:i<rows.length),(rows[i].length:Int)=n∧aM rows[i]=true∧(∀ j (hj:j+1=i),aW (rows[j]'(by omega)) rows[i]<0):=by
 unfold bj at h
 simp only [Bool.and_eq_true,dS,decide_eq_true_eq,List.all_eq_true] at h
 refine ⟨h.1.1.1,h.1.1.2,by omega,fun i hi=>?_⟩
 have:=h.2 i (by simp;omega)
 unfold fa at this
 rw [c7 hi] at this
 simp only [Bool.and_eq_true,decide_eq_true_eq,Bool.or_eq_true] at this
 refine ⟨this.1.1,this.1.2,?_⟩
 rintro j rfl
 rcases this.2 with h2 | h2
 ·exact absurd (Nat.eq_of_beq_eq_true h2) (by omega)
 ·rw [Nat.add_sub_cancel,c7 (by omega)] at h2;exact h2

theorem mw {a b:Int} (h:b≠0):rm a b=some (a.tmod b):=by unfold rm;rw [if_pos h]
theorem kn {a b:Int} (ha:0≤a) (hb:0<b):0≤a.tmod b∧a.tmod b<b:=⟨Int.tmod_nonneg _ ha,Int.tmod_lt_of_pos _ hb⟩
end
end Go.Proofs.Ytcpkiphiaebkmaa
namespace Go.Proofs.Ytcpkiphiaebkmaa
open Go.RowKit

theorem nO {R V:Type} (L:Nat→Int→Option (Sum R V)) (n:Nat) (b:R) (p:Nat→Bool) (v:V) (I:Nat→Prop)
  (hstep:∀ k i,i<n→I i→L (k+1) (i:Int)=(bif p i then L k ((i+1:Nat):Int) else some (.inl b))∧(p i=true→I (i+1)))
  (hend:∀ k,L (k+1) (n:Int)=some (.inr v)) :
  ∀ k i,i≤n→n-i<k→I i→L k (i:Int)=some (bif (List.range' i (n-i)).all p then .inr v else .inl b):=by
 intro k
 induction k with
 | zero=>intro i hi hk;omega
 | succ k ih =>
  intro i hi hk hI
  by_cases h:i<n
  ·obtain ⟨h1,h2⟩:=hstep k i h hI
   rw [h1,show n-i=(n-(i+1))+1 by omega,List.range'_succ,List.all_cons]
   cases hp:p i with
   | true=>rw [cond_true,Bool.true_and];exact ih (i+1) (by omega) (by omega) (h2 hp)
   | false=>rfl
  ·obtain rfl:i=n:=by omega
   rw [hend k,Nat.sub_self];rfl
theorem nf {α β:Type} {xs:List α} {ys:List β} (h:¬ xs.length=ys.length):((xs.length:Int) != (ys.length:Int))=true:=by simp;omega
theorem ix0 {α:Type} {xs:List α} (h:0<xs.length):ix xs 0=some xs[0]:=aU h
theorem oh {α:Type} {xs:List α} {i:Nat} (h1:1≤i) (h2:i≤xs.length):slc xs 1 (i:Int)=some ((xs.take i).drop 1):=fO h1 h2
abbrev aq:=List Int × List Int
def eX (far:List Int) (i:Nat) (ch:List Int) (j:Nat):Bool:=inR (ch.getD j 0) 0 ((i:Int)-1)&&decide (far.getD (ch.getD j 0).toNat 0=far.getD (ch.getD 0 0).toNat 0)
def ff (nodes:List aq) (i:Nat) (x:aq):Bool:=((nodes.take i).drop 1).all fun m=>!decide (m=x)
def eF (nodes:List aq) (olen:Nat) (far:List Int) (i:Nat) (x:aq):Option Int :=
 bif decide (x.1.length=x.2.length)&&aM x.1&&asc x.1 then
  bif decide (x.1.length=0) then (bif decide (i+1=nodes.length) then some (olen:Int) else none)
  else bif (List.range' 0 x.2.length).all (eX far i x.2)&&ff nodes i x then some (far.getD (x.2.getD 0 0).toNat 0+1) else none
 else none
def es (nodes:List aq) (olen:Nat) (far:List Int) (i:Nat):Option Int:=eF nodes olen far i (nodes.getD i ([],[]))
theorem j3 {nodes:List aq} {olen:Nat} {far:List Int} {i:Nat} {x:aq} {d:Int} (h:eF nodes olen far i x=some d):d=(olen:Int)∨d=far.getD (x.2.getD 0 0).toNat 0+1:=by
 unfold eF at h
 generalize (decide (x.1.length=x.2.length)&&aM x.1&&asc x.1)=b1 at h
 generalize decide (x.1.length=0)=b2 at h
 generalize decide (i+1=nodes.length)=b3 at h
 generalize ((List.range' 0 x.2.length).all (eX far i x.2)&&ff nodes i x)=b4 at h
 cases b1
 ·cases h
 cases b2
 ·cases b4
  ·cases h
  ·exact .inr (Option.some.inj h).symm
 ·cases b3
  ·cases h
  ·exact .inl (Option.some.inj h).symm
def cp (nodes:List aq) (olen:Nat) (i:Nat) (far:List Int):Sum Bool (List Int):=match es nodes olen far i with | none=>.inl false | some d=>.inr (far++[d])
def du (order:List Int) (nodes:List aq):Bool :=
 dV order&&inR nodes.length 1 4000&&decide ((nodes.getD 0 ([],[])).1=[])&&decide ((nodes.getD 0 ([],[])).2=[]) &&
 (match cM (cp nodes order.length) (nodes.length-1) 1 [0] with | .inl _=>false | .inr far=>decide (far.getD (nodes.length-1) 0=(order.length:Int)))
def fv (i:Nat) (far:List Int):Prop:=far.length=i∧∀ x∈far,0≤x∧x≤1048576+i
theorem fh {nodes:List aq} {i:Nat} (h:i<nodes.length):nodes.getD i ([],[])=nodes[i]:=by simp [h]
theorem ji {i:Nat} {far tl:List Int} (hf:fv i far) {c:Int} (hc:inR c 0 ((i:Int)-1)=true):ix (far++tl) c=some (far.getD c.toNat 0):=by
 have h:=dS.1 hc
 have hl:=hf.1
 rw [gw h.1 (by simp;omega)]
 have h2:c.toNat<far.length:=by omega
 rw [List.getElem_append_left h2]
 simp [h2]
theorem lu {i:Nat} {far:List Int} (hf:fv i far) (k:Nat):0≤far.getD k 0∧far.getD k 0≤1048576+i:=by
 by_cases h:k<far.length
 ·rw [show far.getD k 0=far[k] by simp [h]];exact hf.2 _ (List.getElem_mem h)
 ·rw [show far.getD k 0=0 by simp [h]];omega
theorem iX {nodes:List aq} {olen i:Nat} (ho:olen≤1048576) {far far':List Int} (hf:fv i far) (h:cp nodes olen i far=.inr far'):fv (i+1) far':=by
 unfold cp at h
 cases hd:es nodes olen far i with
 | none=>simp [hd] at h
 | some d =>
  simp [hd] at h
  subst h
  have hb:0≤d∧d≤1048576+(i+1):=by
   have:=lu hf ((nodes.getD i ([],[])).2.getD 0 0).toNat
   unfold es at hd
   rcases j3 hd with h1 | h1 <;> omega
  refine ⟨by simp [hf.1],fun x hx=>?_⟩
  rcases List.mem_append.1 hx with h1 | h1
  ·have:=hf.2 x h1;omega
  ·simp at h1;subst h1;omega
section
variable {N:Nat}
theorem gF {nodes:List aq} (hn:okN nodes) {i:Nat} (h:i<nodes.length):okI nodes[i].1∧okI nodes[i].2:=hn.2 _ (List.getElem_mem h)
theorem mW (x y:aq):decide (x=y)=(decide (x.1=y.1)&&decide (x.2=y.2)):=by
 rw [Bool.eq_iff_iff];simp [Prod.ext_iff]
theorem fF (hN:1073741824≤N) {x y:aq} (h1:okI x.1) (h2:okI x.2):cQ N x.1 x.2 y.1 y.2=some (decide (x=y)):=by
 unfold cQ
 rw [eE hN h1.1,bs,eE hN h2.1,bs,mW]
 cases decide (x.1=y.1) <;> rfl
theorem nz {far:List Int} {i:Nat} {ch:List Int} {j:Nat} (h:eX far i ch j=true):inR (ch.getD j 0) 0 ((i:Int)-1)=true:=by
 unfold eX at h;exact (Bool.and_eq_true _ _ ▸ h).1
theorem lC (hN:1073741824≤N) {order:List Int} {nodes:List aq} (ho:order.length≤1048576) (hn:okN nodes) {far tl:List Int} {i:Nat} (hi:i<nodes.length) (h0:1≤i) (hf:fv i far) :
  ∃ r,d8 N order nodes (far++tl) (i:Int)=some r∧(match es nodes order.length far i with | some d=>r=(d,true) | none=>r.2=false):=by
 obtain ⟨k1,k2⟩:=gF hn hi
 have hl:=hn.1
 unfold d8 es
 rw [aU hi,bs,fh hi]
 unfold eF
 generalize hx:nodes[i]=x at *
 by_cases h1:x.1.length=x.2.length
 case neg=>rw [nf h1,cond_true,decide_eq_false h1];exact ⟨_,rfl,rfl⟩
 rw [show ((x.1.length:Int) != (x.2.length:Int))=false by simp [h1],cond_false,decide_eq_true h1,d4 hN k1.1,bs,eM hN k1.1,bs]
 cases aM x.1
 ·exact ⟨_,rfl,rfl⟩
 cases asc x.1
 ·exact ⟨_,rfl,rfl⟩
 simp only [cond_true,Bool.and_self]
 by_cases h2:x.1.length=0
 ·rw [show ((x.1.length:Int) == 0)=true by simp [h2],cond_true,decide_eq_true h2,cond_true,ea (by omega) (by omega),bs,kD]
  by_cases h3:i+1=nodes.length
  ·rw [decide_eq_true h3,decide_eq_true (by omega:(i:Int)=(nodes.length:Int)-1)];exact ⟨_,rfl,rfl⟩
  ·rw [decide_eq_false h3,decide_eq_false (by omega:¬ (i:Int)=(nodes.length:Int)-1)];exact ⟨_,rfl,rfl⟩
 rw [show ((x.1.length:Int) == 0)=false by simp;exact fun h=>h2 (by simp [h]),cond_false,decide_eq_false h2,cond_false]
 have hc0:0<x.2.length:=by omega
 have hcl:=k2.1
 have hL:=nO (fun k j=>bQ N k (far++tl) (i:Int) order nodes x.1 x.2 x.2 (x.2.length:Int) j) x.2.length ((0:Int),false) (eX far i x.2) (x.2.length:Int) (fun j=>j=0∨eX far i x.2 0=true)
  (fun k j h hI=>by
   refine ⟨?_,fun hp=>?_⟩
   ·show bQ N (k+1) (far++tl) (i:Int) order nodes x.1 x.2 x.2 _ (j:Int)=_
    rw [bQ,dlt h,cond_true,aU h,bs,ea (by omega) (by omega),bs,eS,bs]
    unfold eX
    rw [show x.2.getD j 0=x.2[j] from cL h]
    cases hw:inR x.2[j] 0 ((i:Int)-1)
    ·rfl
    rw [cond_true,ji hf hw,bs,ix0 hc0,bs]
    have h00:inR (x.2.getD 0 0) 0 ((i:Int)-1)=true:=by
     rcases hI with rfl | hI
     ·rw [cL h];exact hw
     ·exact nz hI
    rw [cL hc0] at h00
    rw [ji hf h00,bs,hJ,ad1 (by omega),bs,Bool.true_and,cL hc0]
    cases decide (far.getD (x.2[j]).toNat 0=far.getD (x.2[0]).toNat 0) <;> rfl
   ·rcases hI with rfl | hI
    ·exact .inr hp
    ·exact .inr hI)
  (fun k=>by
   show bQ N (k+1) (far++tl) (i:Int) order nodes x.1 x.2 x.2 _ (x.2.length:Int)=_
   rw [bQ,dge (by omega),cond_false]) N 0 (by omega) (by omega) (.inl rfl)
 have hL':bQ N N (far++tl) (i:Int) order nodes x.1 x.2 x.2 (x.2.length:Int) 0=_:=hL
 rw [hL',bs,Nat.sub_zero]
 cases hall:(List.range' 0 x.2.length).all (eX far i x.2)
 ·exact ⟨_,rfl,rfl⟩
 have h00:inR (x.2[0]) 0 ((i:Int)-1)=true:=by
  rw [List.all_eq_true] at hall
  have:=nz (hall 0 (by simp;omega))
  rw [cL hc0] at this;exact this
 rw [cond_true,Bool.true_and]
 show ∃ r,((slc nodes 1 (i:Int)).bind _)=some r∧_
 rw [oh h0 (by omega),bs]
 have hL2:=fc (fun k j=>bT N k (far++tl) x.1 x.2 ((nodes.take i).drop 1) (((nodes.take i).drop 1).length:Int) j) ((nodes.take i).drop 1).length (by simp;omega) ((0:Int),false) (fun j=>if h:j<((nodes.take i).drop 1).length then !decide (((nodes.take i).drop 1)[j]=x) else true) (((nodes.take i).drop 1).length:Int)
  (fun k j h=>by
   have hm:((nodes.take i).drop 1)[j]∈nodes:=List.mem_of_mem_take (List.mem_of_mem_drop (List.getElem_mem h))
   obtain ⟨q1,q2⟩:=hn.2 _ hm
   have hjl:j<1099511627776:=by simp at h;omega
   show bT N (k+1) (far++tl) x.1 x.2 _ _ (j:Int)=_
   rw [bT,dlt h,cond_true,aU h,bs,fF hN q1 q2,bs,ad1 hjl,bs]
   simp only [dif_pos h]
   cases decide (((nodes.take i).drop 1)[j]=x) <;> rfl)
  (fun k=>by
   show bT N (k+1) (far++tl) x.1 x.2 _ _ (((nodes.take i).drop 1).length:Int)=_
   rw [bT,dge (by omega),cond_false]) N 0 (by omega) (by simp;omega)
 have hL2':bT N N (far++tl) x.1 x.2 ((nodes.take i).drop 1) (((nodes.take i).drop 1).length:Int) 0=_:=hL2
 rw [hL2',bs,Nat.sub_zero,fx ((nodes.take i).drop 1) (fun m=>!decide (m=x)) _ (fun j hj=>by rw [dif_pos hj])]
 unfold ff
 cases ((nodes.take i).drop 1).all fun m=>!decide (m=x)
 ·exact ⟨_,rfl,rfl⟩
 show ∃ r,((ix x.2 0).bind _)=some r∧_
 have hb:=lu hf (x.2[0]).toNat
 rw [ix0 hc0,bs,ji hf h00,bs,et (by omega) (by omega),bs,cL hc0]
 exact ⟨_,rfl,rfl⟩
theorem mF {far:List Int} {n i:Nat} {d:Int} (hl:far.length=i) (hi:i<n):sto (far++List.replicate (n-i) 0) (i:Int) d=some ((far++[d])++List.replicate (n-(i+1)) 0):=by
 rw [fR (by simp;omega),List.set_append_right _ _ (by omega),show n-i=(n-(i+1))+1 by omega,List.replicate_succ,show i-far.length=0 by omega,List.set_cons_zero]
 simp
theorem mJ {xs:List Int}:decide (0<(xs.length:Int))=!decide (xs=[]):=by
 cases xs with
 | nil=>rfl
 | cons x xs=>rw [decide_eq_true (by simp only [List.length_cons];omega),decide_eq_false (by simp)];rfl
theorem cC (hN:1073741824≤N) {order:List Int} {nodes:List aq} (ho:okI order) (hn:okN nodes):bk N order nodes=some (du order nodes):=by
 have hl:=hn.1
 have hol:=ho.1
 unfold bk du
 rw [fL hN ho.1,bs,eS,bs]
 cases dV order
 ·rfl
 cases hr:inR (nodes.length:Int) 1 4000
 ·rfl
 have hr':=dS.1 hr
 have hp:0<nodes.length:=by omega
 simp only [cond_true,Bool.true_and]
 rw [ix0 hp,bs,bs,fh hp]
 simp only [mJ]
 cases decide (nodes[0].1=[])
 ·rfl
 cases decide (nodes[0].2=[])
 ·rfl
 simp only [Bool.not_true,cond_false,Bool.true_and]
 rw [kQ (by decide) (by omega),bs]
 have hL:=nS (fun k (s:List Int) i=>aQ N k order nodes (s++List.replicate (nodes.length-s.length) 0) i) nodes.length (by omega) (cp nodes order.length) (fun s=>((s++List.replicate (nodes.length-s.length) 0,(nodes.length:Int)):List Int × Int)) (fun i s=>1≤i∧fv i s)
  (fun k i s h hI=>by
   refine ⟨?_,fun s' hs=>⟨by omega,iX hol hI.2 hs⟩⟩
   obtain ⟨r,e1,e2⟩:=lC hN (order:=order) hol hn (tl:=List.replicate (nodes.length-s.length) 0) h hI.1 hI.2
   show aQ N (k+1) order nodes _ (i:Int)=_
   rw [aQ,dlt h,cond_true,e1,bs]
   unfold cp
   cases hd:es nodes order.length s i with
   | none =>
    rw [hd] at e2
    rw [show r.2=false from e2];rfl
   | some d =>
    rw [hd] at e2
    obtain rfl:r=(d,true):=e2
    have hsl:=hI.2.1
    rw [cond_true,aU (by simp;omega),bs]
    rw [hsl,mF hsl h,bs,ad1 (by omega),bs]
    simp only [List.length_append,List.length_singleton,hsl])
  (fun k s hI=>by
   show aQ N (k+1) order nodes _ (nodes.length:Int)=_
   rw [aQ,dge (by omega),cond_false]) N 1 [0] (by omega) (by omega) ⟨Nat.le_refl _,rfl,by simp⟩
 have he:List.replicate nodes.length (0:Int)=[0]++List.replicate (nodes.length - [(0:Int)].length) 0:=by
  obtain ⟨m,hm⟩:∃ m,nodes.length=m+1:=⟨nodes.length-1,by omega⟩
  rw [hm];rfl
 have hL':aQ N N order nodes ([0]++List.replicate (nodes.length - [(0:Int)].length) 0) 1=_:=hL
 rw [he,hL',bs]
 have hI':∀ (m i:Nat) (s s':List Int),i+m=nodes.length→fv i s→cM (cp nodes order.length) m i s=.inr s'→fv nodes.length s':=by
  intro m
  induction m with
  | zero=>intro i s s' h1 h2 h3;simp [cM] at h3;subst h3;simp at h1;subst h1;exact h2
  | succ m ih =>
   intro i s s' h1 h2 h3
   unfold cM at h3
   cases hs:cp nodes order.length i s with
   | inl r=>simp [hs] at h3
   | inr s2=>simp only [hs] at h3;exact ih (i+1) s2 s' (by omega) (iX hol h2 hs) h3
 cases hs:cM (cp nodes order.length) (nodes.length-1) 1 [0] with
 | inl r =>
  have hrf:r=false:=by
   have:∀ (m i:Nat) (s:List Int),cM (cp nodes order.length) m i s=.inl r→r=false:=by
    intro m
    induction m with
    | zero=>intro i s h;simp [cM] at h
    | succ m ih =>
     intro i s h
     unfold cM at h
     cases hq:cp nodes order.length i s with
     | inl r2 =>
      rw [hq] at h
      have e:r2=r:=Sum.inl.inj h
      subst e
      unfold cp at hq
      cases hd:es nodes order.length s i with
      | none=>rw [hd] at hq;exact (Sum.inl.inj hq).symm
      | some d=>rw [hd] at hq;cases hq
     | inr s2=>rw [hq] at h;exact ih _ _ h
   exact this _ _ _ hs
  rw [hrf];rfl
 | inr far =>
  have hf:=hI' (nodes.length-1) 1 [0] far (by omega) ⟨rfl,by simp⟩ hs
  have hfl:=hf.1
  show ((sb _ 1).bind _)=_
  simp only [hfl,Nat.sub_self,List.replicate_zero,List.append_nil]
  rw [ea (by omega) (by omega),bs,show ((nodes.length:Int)-1)=((nodes.length-1:Nat):Int) by omega,aU (by omega),bs,kD]
  have:far.getD (nodes.length-1) 0=far[nodes.length-1]'(by omega):=by rw [List.getD_eq_getElem?_getD,List.getElem?_eq_getElem (by omega)];rfl
  rw [this]
end
end Go.Proofs.Ytcpkiphiaebkmaa
namespace Go.Proofs.Ytcpkiphiaebkmaa
open Go.RowKit

structure VF (olen:Nat) (nodes:List aq) (far:List Int):Prop where
 pos:1≤nodes.length
 le:nodes.length≤4000
 z1:(nodes.getD 0 ([],[])).1=[]
 z2:(nodes.getD 0 ([],[])).2=[]
 len:far.length=nodes.length
 f0:far.getD 0 0=0
 last:far.getD (nodes.length-1) 0=(olen:Int)
 nd:∀ i,1≤i→i<nodes.length→eF nodes olen (far.take i) i (nodes.getD i ([],[]))=some (far.getD i 0)
theorem k9 {nodes:List aq} {olen:Nat}:∀ (m i:Nat) (s far:List Int),s.length=i→cM (cp nodes olen) m i s=.inr far →
  far.length=i+m∧(∀ j,j<i→far.getD j 0=s.getD j 0)∧far.take i=s∧∀ j,i≤j→j<i+m→eF nodes olen (far.take j) j (nodes.getD j ([],[]))=some (far.getD j 0):=by
 intro m
 induction m with
 | zero =>
  intro i s far hl h
  have e:s=far:=by simpa [cM] using h
  subst e
  exact ⟨by omega,fun _ _=>rfl,List.take_of_length_le (by omega),fun j h1 h2=>by omega⟩
 | succ m ih =>
  intro i s far hl h
  unfold cM at h
  cases hq:cp nodes olen i s with
  | inl r=>rw [hq] at h;cases h
  | inr s2 =>
   rw [hq] at h
   unfold cp at hq
   cases hd:es nodes olen s i with
   | none=>rw [hd] at hq;cases hq
   | some d =>
    rw [hd] at hq
    have e2:s++[d]=s2:=Sum.inr.inj hq
    subst e2
    obtain ⟨g1,g2,g3,g4⟩:=ih (i+1) (s++[d]) far (by simp;omega) h
    have ht:far.take i=s:=by
     have:=congrArg (List.take i) g3
     rw [List.take_take,Nat.min_eq_left (by omega)] at this
     rw [this,List.take_append_of_le_length (by omega),List.take_of_length_le (by omega)]
    refine ⟨by omega,fun j hj=>?_,ht,fun j h1 h2=>?_⟩
    ·rw [g2 j (by omega),List.getD_eq_getElem?_getD,List.getD_eq_getElem?_getD,List.getElem?_append_left (by omega)]
    ·by_cases hj:i=j
     ·subst hj
      rw [g2 i (by omega),ht]
      unfold es at hd
      rw [hd]
      simp [List.getD_eq_getElem?_getD,← hl]
     ·exact g4 j (by omega) (by omega)
theorem kI {order:List Int} {nodes:List aq} (h:du order nodes=true):∃ far,VF order.length nodes far:=by
 unfold du at h
 simp only [Bool.and_eq_true,decide_eq_true_eq] at h
 obtain ⟨⟨⟨⟨_,h2⟩,h3⟩,h4⟩,h5⟩:=h
 have h2:=dS.1 h2
 cases hs:cM (cp nodes order.length) (nodes.length-1) 1 [0] with
 | inl r=>rw [hs] at h5;simp at h5
 | inr far =>
  rw [hs] at h5
  obtain ⟨g1,g2,g3,g4⟩:=k9 _ 1 [0] far rfl hs
  exact ⟨far,by omega,by omega,h3,h4,by omega,by rw [g2 0 (by omega)];rfl,by simpa using h5,fun i h1 h2=>g4 i h1 (by omega)⟩
theorem lL {xs:List Int} {i j:Nat} (h:j<i):(xs.take i).getD j 0=xs.getD j 0:=by
 rw [List.getD_eq_getElem?_getD,List.getD_eq_getElem?_getD,List.getElem?_take,if_pos h]
theorem VF.node {olen:Nat} {nodes:List aq} {far:List Int} (V:VF olen nodes far) {i:Nat} (h1:1≤i) (h2:i<nodes.length) :
    (nodes.getD i ([],[])).1.length=(nodes.getD i ([],[])).2.length∧asc (nodes.getD i ([],[])).1=true ∧
    ((nodes.getD i ([],[])).1=[]∧i+1=nodes.length∧far.getD i 0=olen ∨
     (nodes.getD i ([],[])).1≠[]∧∀ j,j<(nodes.getD i ([],[])).2.length→0≤(nodes.getD i ([],[])).2.getD j 0∧(nodes.getD i ([],[])).2.getD j 0<i∧far.getD ((nodes.getD i ([],[])).2.getD j 0).toNat 0+1=far.getD i 0):=by
  have h:=V.nd i h1 h2
  generalize nodes.getD i ([],[])=x at *
  unfold eF at h
  cases e1:(decide (x.1.length=x.2.length)&&aM x.1&&asc x.1) with
  | false=>rw [e1] at h;cases h
  | true =>
    rw [e1,cond_true] at h
    simp only [Bool.and_eq_true,decide_eq_true_eq] at e1
    refine ⟨e1.1.1,e1.2,?_⟩
    by_cases hz:x.1.length=0
    · rw [decide_eq_true hz,cond_true] at h
      by_cases hi:i+1=nodes.length
      · rw [decide_eq_true hi,cond_true] at h
        exact .inl ⟨List.length_eq_zero_iff.1 hz,hi,(Option.some.inj h).symm⟩
      · rw [decide_eq_false hi] at h;cases h
    · rw [decide_eq_false hz,cond_false] at h
      cases ha:(List.range' 0 x.2.length).all (eX (far.take i) i x.2) with
      | false=>rw [ha] at h;cases h
      | true =>
        rw [ha,Bool.true_and] at h
        cases hb:ff nodes i x with
        | false=>rw [hb] at h;cases h
        | true =>
          rw [hb,cond_true] at h
          refine .inr ⟨fun e=>hz (by simp [e]),fun j hj=>?_⟩
          have hc:∀ j,j<x.2.length→0≤x.2.getD j 0∧x.2.getD j 0<i∧far.getD (x.2.getD j 0).toNat 0=(far.take i).getD (x.2.getD 0 0).toNat 0:=by
            intro j hj
            have:=(List.all_eq_true.1 ha) j (by simp;omega)
            unfold eX at this
            simp only [Bool.and_eq_true,decide_eq_true_eq] at this
            have g:=dS.1 this.1
            refine ⟨g.1,by omega,?_⟩
            rw [← this.2,lL (by omega)]
          obtain ⟨q1,q2,q3⟩:=hc j hj
          exact ⟨q1,q2,by rw [q3];exact Option.some.inj h⟩
def db (c:List Int) (s:Int) (ch:Int):Int:=imn 1000000000 (s+c.getD ch.toNat 0)
def gS (nodes:List aq) (c:List Int) (i:Nat):List Int:=c++[(nodes.getD i ([],[])).2.foldl (db c) 0]
def cW (nodes:List aq) (m:Nat):List Int:=(List.range' 1 (m-1)).foldl (gS nodes) [1]
theorem fu (nodes:List aq) {m:Nat} (h:1≤m):cW nodes (m+1)=gS nodes (cW nodes m) m:=by
 unfold cW
 rw [show m+1-1=(m-1)+1 by omega,List.range'_concat,List.foldl_append,List.foldl_cons,List.foldl_nil,show 1+1*(m-1)=m by omega]
def fC (c:List Int):Prop:=∀ x∈c,0≤x∧x≤1000000000
theorem gL {c:List Int} (hc:fC c) (k:Nat):0≤c.getD k 0∧c.getD k 0≤1000000000:=by
 by_cases h:k<c.length
 ·rw [show c.getD k 0=c[k] by simp [h]];exact hc _ (List.getElem_mem h)
 ·rw [show c.getD k 0=0 by simp [h]];omega
theorem ll (a b:Int):imn a b=if b<a then b else a:=by unfold imn;rfl
theorem hQ {c:List Int} (hc:fC c) {s ch:Int} (hs:0≤s∧s≤1000000000):0≤db c s ch∧db c s ch≤1000000000:=by
 have:=gL hc ch.toNat
 unfold db;rw [ll];split <;> omega
theorem mb {c:List Int} (hc:fC c) (l:List Int):∀ s:Int,0≤s∧s≤1000000000→0≤l.foldl (db c) s∧l.foldl (db c) s≤1000000000:=by
 induction l with
 | nil=>intro s h;exact h
 | cons x l ih=>intro s h;exact ih _ (hQ hc h)
theorem dX (nodes:List aq):∀ m,1≤m→(cW nodes m).length=m∧fC (cW nodes m):=by
 intro m
 induction m with
 | zero=>intro h;omega
 | succ m ih =>
  intro _
  by_cases h:m=0
  ·subst h;refine ⟨rfl,fun x hx=>?_⟩;simp [cW] at hx;subst hx;omega
  ·obtain ⟨h1,h2⟩:=ih (by omega)
   rw [fu nodes (by omega)]
   unfold gS
   refine ⟨by simp [h1],fun x hx=>?_⟩
   rcases List.mem_append.1 hx with h3 | h3
   ·exact h2 x h3
   ·simp at h3;subst h3;exact mb h2 _ 0 (by omega)
theorem j4 {α σ:Type} (f:σ→α→σ) (d:α) (xs:List α):∀ (n:Nat),n≤xs.length→∀ s,(List.range' (xs.length-n) n).foldl (fun s j=>f s (xs.getD j d)) s=(xs.drop (xs.length-n)).foldl f s:=by
 intro n
 induction n with
 | zero=>intro _ s;simp
 | succ n ih =>
  intro h s
  have hg:xs.getD (xs.length-(n+1)) d=xs[xs.length-(n+1)]'(by omega):=by
   rw [List.getD_eq_getElem?_getD,List.getElem?_eq_getElem (by omega)];rfl
  rw [List.range'_succ,List.foldl_cons,show xs.length-(n+1)+1=xs.length-n by omega,ih (by omega),hg,List.drop_eq_getElem_cons (by omega:xs.length-(n+1)<xs.length),List.foldl_cons,show xs.length-(n+1)+1=xs.length-n by omega]
theorem jE {α σ:Type} (f:σ→α→σ) (d:α) (xs:List α) (s:σ):(List.range' 0 xs.length).foldl (fun s j=>f s (xs.getD j d)) s=xs.foldl f s:=by
 have:=j4 f d xs xs.length (Nat.le_refl _) s
 simpa using this
section
variable {N:Nat}
theorem VF.ch {olen:Nat} {nodes:List aq} {far:List Int} (V:VF olen nodes far) {i:Nat} (h2:i<nodes.length) {j:Nat} (hj:j<(nodes.getD i ([],[])).2.length):0≤(nodes.getD i ([],[])).2.getD j 0∧(nodes.getD i ([],[])).2.getD j 0<i:=by
 by_cases h1:1≤i
 ·obtain ⟨g1,_,g3⟩:=V.node h1 h2
  rcases g3 with ⟨g4,_⟩ | ⟨_,g4⟩
  ·rw [g4,List.length_nil] at g1;omega
  ·exact ⟨(g4 j hj).1,(g4 j hj).2.1⟩
 ·obtain rfl:i=0:=by omega
  rw [V.z2] at hj;simp at hj
end
end Go.Proofs.Ytcpkiphiaebkmaa
namespace Go.Proofs.Ytcpkiphiaebkmaa
open Go.RowKit

theorem ja {σ V:Type} (L:Nat→σ→Int→Option V) (n:Nat) (A:Nat→σ) (v:V)
  (hstep:∀ k i,i<n→L (k+1) (A i) (i:Int)=L k (A (i+1)) ((i+1:Nat):Int)) (hend:∀ k,L (k+1) (A n) (n:Int)=some v) :
  ∀ k i,i≤n→n-i<k→L k (A i) (i:Int)=some v:=by
 intro k
 induction k with
 | zero=>intro i hi hk;omega
 | succ k ih =>
  intro i hi hk
  by_cases h:i<n
  ·rw [hstep k i h];exact ih (i+1) (by omega) (by omega)
  ·obtain rfl:i=n:=by omega
   exact hend k
section
variable {N:Nat}
theorem nI {c z:List Int} {s:Int} {i:Nat} (h:c.length=i):ix (c++s :: z) (i:Int)=some s:=by
 rw [aU (by simp;omega)];subst h;simp
theorem mM {c z:List Int} {s y:Int} {i:Nat} (h:c.length=i):sto (c++s :: z) (i:Int) y=some (c++y :: z):=by
 rw [fR (by simp;omega)];subst h;simp
theorem mL {c z:List Int} {j:Int} (h0:0≤j) (h:j<c.length):ix (c++z) j=some (c.getD j.toNat 0):=by
 rw [gw h0 (by simp;omega),List.getElem_append_left (by omega),cL (by omega)]
theorem jL (hN:1073741824≤N) {nodes:List aq} {c z:List Int} {i n:Nat} (x:aq) (hc:fC c) (hl:c.length=i) (hx:okI x.2) (hch:∀ j,j<x.2.length→0≤x.2.getD j 0∧x.2.getD j 0<i) {s:Int} (hs:0≤s∧s≤1000000000) (hi:i<1099511627776) :
  bv N N (c++s :: z) (i:Int) nodes (n:Int) (i:Int) x.2 (x.2.length:Int) 0=some (c++x.2.foldl (db c) s :: z,(x.2.length:Int)):=by
 have hL:=n8 (fun k (s:Int) j=>bv N k (c++s :: z) (i:Int) nodes (n:Int) (i:Int) x.2 (x.2.length:Int) j) x.2.length (by have:=hx.1;omega) (fun j s=>db c s (x.2.getD j 0)) (fun s=>(c++s :: z,(x.2.length:Int))) (fun _ s=>0≤s∧s≤1000000000)
  (fun k j s hj hI=>by
   refine ⟨?_,hQ hc hI⟩
   obtain ⟨q1,q2⟩:=hch j hj
   have:=gL hc (x.2.getD j 0).toNat
   have hx1:=hx.1
   show bv N (k+1) (c++s :: z) (i:Int) nodes (n:Int) (i:Int) x.2 (x.2.length:Int) (j:Int)=_
   rw [bv,dlt hj,cond_true,aU hj,bs,show x.2[j]=x.2.getD j 0 from (cL hj).symm,nI hl,bs,mL q1 (by omega),bs,et (by omega) (by omega),bs,bs,mM hl,bs,ad1 (by omega),bs]
   rfl)
  (fun k s _=>by
   show bv N (k+1) (c++s :: z) (i:Int) nodes (n:Int) (i:Int) x.2 (x.2.length:Int) (x.2.length:Int)=_
   rw [bv,dge (by omega),cond_false]) N 0 s (by omega) (by have:=hx.1;omega) hs
 rw [Nat.sub_zero,jE (db c) 0] at hL
 exact hL
theorem lK (hN:1073741824≤N) {order:List Int} {nodes:List aq} {far:List Int} (hn:okN nodes) (V:VF order.length nodes far):d2 N order nodes=some (cW nodes nodes.length):=by
 have hl:=hn.1
 have hp:=V.pos
 unfold d2
 rw [kQ (by decide) (by omega),bs]
 have hL:=ja (fun k (s:List Int) i=>bE N k s nodes (nodes.length:Int) i) nodes.length (fun i=>if i=0 then List.replicate nodes.length 0 else cW nodes i++List.replicate (nodes.length-i) 0) (cW nodes nodes.length,(nodes.length:Int))
  (fun k i h=>by
   have hx:nodes[i]=nodes.getD i ([],[]):=by simp [h]
   obtain ⟨_,k2⟩:=gF hn h
   rw [hx] at k2
   show bE N (k+1) _ nodes (nodes.length:Int) (i:Int)=_
   rw [bE,dlt h,cond_true,aU h,bs,hx]
   by_cases h0:i=0
   ·subst h0
    rw [show (((0:Nat):Int) == 0)=true from rfl,cond_true,if_pos rfl,ix0 (by simp;omega),bs,show (0:Int)=((0:Nat):Int) from rfl,fR (by simp;omega),bs,V.z2,show nodes.length=(nodes.length-1)+1 by omega,List.replicate_succ,List.set_cons_zero]
    rw [show N=(N-1)+1 by omega,bv]
    simp only [List.length_nil,Nat.lt_irrefl,Int.lt_irrefl,decide_false,cond_false,bs,lpB]
    rw [ad1 (by omega),bs,if_neg (by omega)]
    rfl
   ·rw [show (((i:Nat):Int) == 0)=false by simp;exact h0,cond_false,if_neg h0,if_neg (by omega)]
    obtain ⟨g1,g2⟩:=dX nodes i (by omega)
    rw [show nodes.length-i=(nodes.length-(i+1))+1 by omega,List.replicate_succ,jL hN (nodes.getD i ([],[])) g2 g1 k2 (fun j hj=>V.ch h hj) (by omega) (by omega),bs,lpB]
    simp only []
    rw [ad1 (by omega),bs,fu nodes (by omega)]
    unfold gS
    rw [List.append_assoc];rfl)
  (fun k=>by
   show bE N (k+1) _ nodes (nodes.length:Int) (nodes.length:Int)=_
   rw [bE,dge (by omega),cond_false,if_neg (by omega),Nat.sub_self,List.replicate_zero,List.append_nil]) N 0 (by omega) (by omega)
 rw [if_pos rfl] at hL
 have hL':bE N N (List.replicate nodes.length 0) nodes (nodes.length:Int) 0=_:=hL
 rw [hL',bs,lpB]
def dK (order:List Int) (nodes:List aq):Int:=bif du order nodes then (cW nodes nodes.length).getD (nodes.length-1) 0 else 0
theorem eV (hN:1073741824≤N) {order:List Int} {nodes:List aq} (ho:okI order) (hn:okN nodes):bX N order nodes=some (dK order nodes):=by
 unfold bX dK
 rw [cC hN ho hn,bs]
 cases hv:du order nodes
 ·rfl
 obtain ⟨far,V⟩:=kI hv
 have hp:=V.pos
 have hl:=hn.1
 have hcl:=(dX nodes nodes.length hp).1
 rw [cond_true,cond_true,lK hN hn V,bs,hcl,ea (by omega) (by omega),bs,show ((nodes.length:Int)-1)=((nodes.length-1:Nat):Int) by omega,aU (by omega),bs,cL (by omega)]
end
end Go.Proofs.Ytcpkiphiaebkmaa
namespace Go.Proofs.Ytcpkiphiaebkmaa
open Go.RowKit

theorem VF.lens {olen:Nat} {nodes:List aq} {far:List Int} (V:VF olen nodes far) {i:Nat} (h2:i<nodes.length):(nodes.getD i ([],[])).1.length=(nodes.getD i ([],[])).2.length:=by
 by_cases h1:1≤i
 ·exact (V.node h1 h2).1
 ·obtain rfl:i=0:=by omega
  rw [V.z1,V.z2]
theorem VF.asc {olen:Nat} {nodes:List aq} {far:List Int} (V:VF olen nodes far) {i:Nat} (h2:i<nodes.length):Go.Proofs.Ytcpkiphiaebkmaa.asc (nodes.getD i ([],[])).1=true:=by
 by_cases h1:1≤i
 ·exact (V.node h1 h2).2.1
 ·obtain rfl:i=0:=by omega
  rw [V.z1];rfl
def inN (nodes:List aq) (s:Int):Prop:=0≤s∧s<nodes.length
section
variable {N:Nat}
theorem ixN {nodes:List aq} {s:Int} (h:inN nodes s):ix nodes s=some (nodes.getD s.toNat ([],[])):=by
 have h1:=h.1;have h2:=h.2
 rw [gw h1 (by omega),fh (by omega)]
end
end Go.Proofs.Ytcpkiphiaebkmaa
namespace Go.Proofs.Ytcpkiphiaebkmaa
open Go.RowKit

theorem gh (nodes:List aq):∀ m i,1≤i→i<m→(cW nodes m).getD i 0=(nodes.getD i ([],[])).2.foldl (db (cW nodes i)) 0:=by
 intro m
 induction m with
 | zero=>intro i h1 h2;omega
 | succ m ih =>
  intro i h1 h2
  have hm:1≤m:=by omega
  have hl:=(dX nodes m hm).1
  rw [fu nodes hm]
  unfold gS
  by_cases h:i<m
  ·rw [List.getD_eq_getElem?_getD,List.getElem?_append_left (by omega),← List.getD_eq_getElem?_getD,ih i h1 h]
  ·obtain rfl:i=m:=by omega
   rw [List.getD_eq_getElem?_getD,List.getElem?_append_right (by omega),hl,Nat.sub_self];rfl
theorem ij (nodes:List aq):∀ m,1≤m→(cW nodes m).getD 0 0=1:=by
 intro m
 induction m with
 | zero=>intro h;omega
 | succ m ih =>
  intro _
  by_cases h:m=0
  ·subst h;rfl
  ·have hl:=(dX nodes m (by omega)).1
   rw [fu nodes (by omega)]
   unfold gS
   rw [List.getD_eq_getElem?_getD,List.getElem?_append_left (by omega),← List.getD_eq_getElem?_getD,ih (by omega)]
theorem jS (nodes:List aq):∀ m i j,1≤i→j<i→i≤m→(cW nodes m).getD j 0=(cW nodes i).getD j 0:=by
 intro m i j h1 h2 h3
 by_cases hj:j=0
 ·subst hj;rw [ij nodes m (by omega),ij nodes i h1]
 ·rw [gh nodes m j (by omega) (by omega),gh nodes i j (by omega) h2]
end Go.Proofs.Ytcpkiphiaebkmaa
namespace Go.Proofs.Ytcpkiphiaebkmaa
open Go.RowKit

section
variable {N:Nat}
theorem fS {b:Nat} {α:Type} {xs:List α} (hb:b≤64) (h:xs.length≤1048576):apd b [] xs=some xs:=by
 rw [da hb (by simp;omega)];rfl
theorem lZ {b:Nat} {α:Type} {xs:List α} {i:Nat} (hb:b≤64) (h:i<xs.length) (hl:xs.length≤1048576):apd b (xs.take i) [xs[i]]=some (xs.take (i+1)):=by
 rw [da hb (by simp;omega),List.take_succ_eq_append_getElem h]
theorem mI {rows:List (List Int)} (h:c4 rows) {i:Nat} (hi:i<rows.length):rows[i].length≤1048576:=(h.2 _ (List.getElem_mem hi)).1
theorem i5 (hN:1073741824≤N) {a:Int} {rows:List (List Int)} (h:c4 rows):dB N a rows=some (a,rows):=by
 have hl:=h.1
 unfold dB
 have hL:=ja (fun k (s:List (List Int)) i=>bU N k a rows 0 [] a s i) rows.length (fun i=>rows.take i) (rows,(rows.length:Int))
  (fun k i hi=>by
   show bU N (k+1) a rows 0 [] a (rows.take i) (i:Int)=_
   rw [bU,dlt hi,cond_true,aU hi,bs,fS (by decide) (mI h hi),bs,lZ (by decide) hi hl,bs,ad1 (by omega),bs])
  (fun k=>by
   show bU N (k+1) a rows 0 [] a (rows.take rows.length) (rows.length:Int)=_
   rw [bU,dge (by omega),cond_false,List.take_length]) N 0 (by omega) (by omega)
 have hL':bU N N a rows 0 [] a [] 0=_:=hL
 rw [hL',bs,lpB]
end
end Go.Proofs.Ytcpkiphiaebkmaa
namespace Go.Proofs.Ytcpkiphiaebkmaa
open Go.RowKit

abbrev fi:=ByteArray × (Int × List (List Int))
def lx (s:ByteArray) (i:Nat):Int:=match s[i]? with | some b=>(b.toNat:Int) | none=>0
def l6 (s:ByteArray) (i:Nat):Bool:=!decide (lx s i<97)&&!decide (122<lx s i)
def nq (s:ByteArray):Bool:=inR s.size 1 4&&(List.range' 0 s.size).all (l6 s)
def n0 (ts:List fi) (i:Nat):Bool :=
 let t:=ts.getD i (ByteArray.empty,0,[])
 nq t.1&&(Nat.beq i 0||ltS (ts.getD (i-1) (ByteArray.empty,0,[])).1 t.1)&&bj t.2.1 t.2.2&&!decide (t.2.1<1)&&!decide (16<(t.2.2.length:Int))
def oe (ts:List fi):Bool:=decide ((ts.length:Int)≤6)&&(List.range' 0 ts.length).all (n0 ts)
def gX (ts:List fi) (s:ByteArray):(Int × List (List Int)) × Bool :=
 bif oe ts then (match ts.find? (fun t=>decide (t.1=s)) with | some t=>(t.2,true) | none=>((0,[]),false)) else ((0,[]),false)
theorem ga:∀ (a b:List Int),aW b a=- aW a b
 | [],[]=>by simp [aW]
 | [],_ :: _=>by simp [aW]
 | _ :: _,[]=>by simp [aW]
 | x :: a,y :: b=>by
  unfold aW
  have:=ga a b
  (repeat' split) <;> omega
theorem dP:∀ {a b c:List Int},aW a b<0→aW b c<0→aW a c<0
 | [],[],_,h,_=>by simp [aW] at h
 | [],_ :: _,[],_,h=>by simp [aW] at h
 | [],_ :: _,_ :: _,_,_=>by simp [aW]
 | _ :: _,[],_,h,_=>by simp [aW] at h
 | _ :: _,_ :: _,[],_,h=>by simp [aW] at h
 | x :: a,y :: b,z :: c,h1,h2=>by
  unfold aW at h1 h2 ⊢
  have:=@dP a b c
  split at h1
  ·split at h2
   ·rw [if_pos (by omega)];omega
   ·split at h2
    ·omega
    ·rw [if_pos (by omega)];omega
  ·split at h1
   ·omega
   ·split at h2
    ·rw [if_pos (by omega)];omega
    ·split at h2
     ·omega
     ·rw [if_neg (by omega),if_neg (by omega)];exact this h1 h2
def nL (rows:List (List Int)):Prop:=∀ i j (_:i<j) (hj:j<rows.length),aW (rows[i]'(by omega)) rows[j]<0
theorem mS {rows:List (List Int)} (h:∀ i (hi:i<rows.length) j (hj:j+1=i),aW (rows[j]'(by omega)) rows[i]<0):nL rows:=by
 intro i j hij hj
 induction j with
 | zero=>omega
 | succ j ih =>
  have h1:=h (j+1) hj j rfl
  by_cases e:i=j
  ·subst e;exact h1
  ·exact dP (ih (by omega) (by omega)) h1
theorem i6 {n:Int} {rows:List (List Int)} (h:bj n rows=true):nL rows:=by
 obtain ⟨_,_,_,h4⟩:=dr h
 exact mS fun i hi j hj=>(h4 i hi).2.2 j hj
end Go.Proofs.Ytcpkiphiaebkmaa
namespace Go.Proofs.Ytcpkiphiaebkmaa
open Go.RowKit

theorem oo {R V S:Type} {v:V} {f:R→Option S} {g:V→Option S}:lpS (.inr v) f g=g v:=rfl
theorem om {R V S:Type} {v:R} {f:R→Option S} {g:V→Option S}:lpS (.inl v) f g=f v:=rfl
abbrev kN:=ByteArray × List Int
theorem j9:∀ (n:Nat) (xs:List Int),xs.Nodup→(∀ x∈xs,0≤x∧x<n)→xs.length≤n:=by
 intro n
 induction n with
 | zero =>
  intro xs _ h
  cases xs with
  | nil=>simp
  | cons x xs=>have:=h x (by simp);omega
 | succ n ih =>
  intro xs hn h
  by_cases hm:(n:Int)∈xs
  ·have h1:=ih (xs.erase (n:Int)) (hn.erase _) (fun x hx=>by
    have h2:=h x (List.mem_of_mem_erase hx)
    have h3:x≠n:=by rintro rfl;exact (hn.mem_erase_iff.1 hx).1 rfl
    omega)
   rw [List.length_erase_of_mem hm] at h1
   omega
  ·have:=ih xs hn (fun x hx=>by
    have h2:=h x hx
    have h3:x≠n:=by rintro rfl;exact hm hx
    omega)
   omega
end Go.Proofs.Ytcpkiphiaebkmaa
namespace Go.Proofs.Ytcpkiphiaebkmaa
open Go.RowKit

def cJ (c:List Int):List Int→Int
 | []=>0
 | ch :: l=>c.getD ch.toNat 0+cJ c l
theorem ig {c c':List Int}:∀ (l:List Int),(∀ j,j<l.length→c.getD (l.getD j 0).toNat 0=c'.getD (l.getD j 0).toNat 0)→cJ c l=cJ c' l
 | [],_=>rfl
 | x :: l,h=>by
  unfold cJ
  rw [ig l fun j hj=>by have:=h (j+1) (by simpa using hj);simpa using this]
  have:=h 0 (by simp)
  rw [show c.getD x.toNat 0=c'.getD x.toNat 0 by simpa using this]
end Go.Proofs.Ytcpkiphiaebkmaa
namespace Go.Proofs.Ytcpkiphiaebkmaa
open Go.RowKit

def eD (nodes:List aq) (x:aq):Nat→Nat→Option Nat
 | 0,_=>none
 | f+1,i=>if nodes.getD i ([],[])=x then some i else eD nodes x f (i+1)
def cU (nodes:List aq) (x:aq):Int × List aq :=
 match eD nodes x (nodes.length-1) 1 with
 | some i=>((i:Int),nodes)
 | none=>((nodes.length:Int),nodes++[x])
def dN (rows:List (List Int)) (d:Nat) (v:Int):Nat→Nat→Nat
 | 0,k=>k
 | f+1,k=>if (rows.getD k []).getD d 0=v then dN rows d v f (k+1) else k
def cn (rows:List (List Int)) (d:Nat) (i:Nat):Nat:=dN rows d ((rows.getD i []).getD d 0) (rows.length-i) i
def bl (rec:List aq→List (List Int)→Int × List aq) (rows:List (List Int)) (d:Nat):Nat→List aq→List Int→List Int→Nat→List aq × List Int × List Int
 | 0,nodes,vals,chs,_=>(nodes,vals,chs)
 | f+1,nodes,vals,chs,i=>if i<rows.length then
   bl rec rows d f (rec nodes ((rows.take (cn rows d i)).drop i)).2 (vals++[(rows.getD i []).getD d 0]) (chs++[(rec nodes ((rows.take (cn rows d i)).drop i)).1]) (cn rows d i)
  else (nodes,vals,chs)
def bc:Nat→List aq→List (List Int)→Nat→Int × List aq
 | 0,nodes,_,_=>(0,nodes)
 | e+1,nodes,rows,d=>cU (bl (fun ns rs=>bc e ns rs (d+1)) rows d rows.length nodes [] [] 0).1 (bl (fun ns rs=>bc e ns rs (d+1)) rows d rows.length nodes [] [] 0).2
def bw (n:Nat) (rows:List (List Int)):List aq:=if rows=[] then [([],[]),([],[])] else (bc n [([],[])] rows 0).2
theorem km (rows:List (List Int)) (d:Nat) (v:Int):∀ f k,k≤dN rows d v f k∧dN rows d v f k≤k+f
 | 0,k=>by unfold dN;omega
 | f+1,k=>by
  unfold dN
  have:=km rows d v f (k+1)
  split <;> omega
theorem fg {rows:List (List Int)} {d i:Nat} (h:i<rows.length):i<cn rows d i∧cn rows d i≤rows.length:=by
 unfold cn
 obtain ⟨m,hm⟩:∃ m,rows.length-i=m+1:=⟨rows.length-i-1,by omega⟩
 rw [hm,dN,if_pos rfl]
 have:=km rows d ((rows.getD i []).getD d 0) m (i+1)
 omega
theorem hU (nodes:List aq) (x:aq):(cU nodes x).2.length≤nodes.length+1:=by
 unfold cU;split <;> simp
theorem mG {nodes:List aq} {x:aq} (h:okN nodes) (hl:nodes.length+1≤1048576) (h1:okI x.1) (h2:okI x.2):okN (cU nodes x).2:=by
 refine ⟨by have:=hU nodes x;omega,?_⟩
 unfold cU
 split
 ·exact h.2
 ·intro y hy
  rcases List.mem_append.1 hy with hy | hy
  ·exact h.2 y hy
  ·simp only [List.mem_singleton] at hy;subst hy;exact ⟨h1,h2⟩
def ew (n:Nat) (rows:List (List Int)):Prop:=rows.length≤4000∧∀ i,i<rows.length→(rows.getD i []).length=n
theorem hO {n:Nat} {rows:List (List Int)} (h:ew n rows) {i k:Nat} (hk:k≤rows.length):ew n ((rows.take k).drop i):=by
 refine ⟨by simp;have:=h.1;omega,fun j hj=>?_⟩
 rw [List.length_drop,List.length_take,Nat.min_eq_left hk] at hj
 have e:((rows.take k).drop i).getD j []=rows.getD (i+j) []:=by
  rw [List.getD_eq_getElem?_getD,List.getElem?_drop,List.getElem?_take,if_pos (by omega),← List.getD_eq_getElem?_getD]
 rw [e];exact h.2 (i+j) (by omega)
theorem kf {rows:List (List Int)} {i k:Nat} (hk:k≤rows.length):((rows.take k).drop i).length=k-i:=by
 rw [List.length_drop,List.length_take,Nat.min_eq_left hk]
def kO (rec:List aq→List (List Int)→Int × List aq) (n e:Nat):Prop :=
 ∀ ns rs,okN ns→ew n rs→rs≠[]→ns.length+rs.length*e+1≤1048576→okN (rec ns rs).2∧(rec ns rs).2.length≤ns.length+rs.length*e+1
theorem nJ {i k e:Nat} (h:i<k):i*(e+1)+((k-i)*e+1)≤k*(e+1):=by
 obtain ⟨t,rfl⟩:∃ t,k=i+(t+1):=⟨k-i-1,by omega⟩
 have e1:(i+(t+1))*(e+1)=i*(e+1)+(t+1)*(e+1):=Nat.add_mul _ _ _
 have e2:(t+1)*(e+1)=(t+1)*e+(t+1):=Nat.mul_succ _ _
 rw [show i+(t+1)-i=t+1 by omega,e1,e2]
 omega
theorem iq {i k e:Nat} (h:i≤k):i*e≤k*e:=Nat.mul_le_mul_right e h
theorem jh {rec:List aq→List (List Int)→Int × List aq} {n e:Nat} (hr:kO rec n e) {rows:List (List Int)} {d:Nat} (ha:ew n rows) {b0:Nat} (hb:b0+rows.length*(e+1)+1≤1048576) :
  ∀ f i nodes vals chs,okN nodes→nodes.length≤b0+i*(e+1)→i≤rows.length→vals.length≤i→chs.length≤i →
   okN (bl rec rows d f nodes vals chs i).1∧(bl rec rows d f nodes vals chs i).1.length≤b0+rows.length*(e+1)∧(bl rec rows d f nodes vals chs i).2.1.length≤rows.length∧(bl rec rows d f nodes vals chs i).2.2.length≤rows.length:=by
 intro f
 induction f with
 | zero =>
  intro i nodes vals chs h1 h2 h3 h4 h5
  have:=iq (e:=e+1) h3
  exact ⟨h1,by show nodes.length≤_;omega,by show vals.length≤_;omega,by show chs.length≤_;omega⟩
 | succ f ih =>
  intro i nodes vals chs h1 h2 h3 h4 h5
  have:=iq (e:=e+1) h3
  unfold bl
  by_cases h:i<rows.length
  ·rw [if_pos h]
   obtain ⟨g1,g2⟩:=fg (d:=d) h
   have g3:=nJ (e:=e) g1
   have g4:=iq (e:=e+1) g2
   have g5:=kf (i:=i) g2
   obtain ⟨q1,q2⟩:=hr nodes ((rows.take (cn rows d i)).drop i) h1 (hO ha g2) (by intro e0;rw [e0] at g5;simp at g5;omega) (by rw [g5];omega)
   rw [g5] at q2
   exact ih _ _ _ _ q1 (by omega) g2 (by rw [List.length_append,List.length_singleton];omega) (by rw [List.length_append,List.length_singleton];omega)
  ·rw [if_neg h]
   exact ⟨h1,by show nodes.length≤_;omega,by show vals.length≤_;omega,by show chs.length≤_;omega⟩
theorem gK {n:Nat}:∀ (e d:Nat),kO (fun ns rs=>bc e ns rs d) n e:=by
 intro e
 induction e with
 | zero=>intro d ns rs h1 h2 h3 h4;exact ⟨h1,by show ns.length≤_;omega⟩
 | succ e ih =>
  intro d ns rs h1 h2 h3 h4
  obtain ⟨q1,q2,q3,q4⟩:=jh (ih (d+1)) (d:=d) h2 (b0:=ns.length) h4 rs.length 0 ns [] [] h1 (by omega) (by omega) (by simp) (by simp)
  have hl:=h2.1
  show okN (bc (e+1) ns rs d).2∧(bc (e+1) ns rs d).2.length≤_
  unfold bc
  refine ⟨mG q1 (by omega) ⟨by omega,fun _ _=>trivial⟩ ⟨by omega,fun _ _=>trivial⟩,?_⟩
  have:=hU (bl (fun ns rs=>bc e ns rs (d+1)) rs d rs.length ns [] [] 0).1 (bl (fun ns rs=>bc e ns rs (d+1)) rs d rs.length ns [] [] 0).2
  omega
section
variable {N:Nat}
theorem lc (hN:1073741824≤N) {nodes:List aq} {x:aq} (hn:okN nodes):∀ m i k,i+m=nodes.length→m<k→b5 N k nodes x.1 x.2 (i:Int)=some (match eD nodes x m i with | some j=>.inl ((j:Int),nodes) | none=>.inr (nodes.length:Int)):=by
 have hl:=hn.1
 intro m
 induction m with
 | zero =>
  intro i k hi hk
  obtain ⟨k,rfl⟩:∃ k',k=k'+1:=⟨k-1,by omega⟩
  obtain rfl:i=nodes.length:=by omega
  rw [b5,dge (by omega),cond_false];rfl
 | succ m ih =>
  intro i k hi hk
  obtain ⟨k,rfl⟩:∃ k',k=k'+1:=⟨k-1,by omega⟩
  have h:i<nodes.length:=by omega
  obtain ⟨g1,g2⟩:=gF hn h
  rw [b5,dlt h,cond_true,aU h,bs,fF hN g1 g2,bs,eD,fh h]
  by_cases e:nodes[i]=x
  ·rw [decide_eq_true e,cond_true,if_pos e]
  ·rw [decide_eq_false e,cond_false,if_neg e,ad1 (by omega),bs,ih (i+1) k (by omega) (by omega)]
theorem ly (hN:1073741824≤N) {nodes:List aq} {x:aq} (hn:okN nodes) (h1:1≤nodes.length):ck N nodes x.1 x.2=some (cU nodes x):=by
 have hl:=hn.1
 unfold ck cU
 rw [show (1:Int)=((1:Nat):Int) from rfl,lc hN hn (nodes.length-1) 1 N (by omega) (by omega),bs]
 cases eD nodes x (nodes.length-1) 1 with
 | some j=>rfl
 | none =>
  show (apd 48 nodes [(x.1,x.2)]).bind _=_
  rw [da (by decide) (by simp;omega),bs,ea (by simp <;> omega) (by simp <;> omega),bs]
  simp
theorem iO {n:Nat} {rows:List (List Int)} (ha:ew n rows) {i d:Nat} (h:i<rows.length) (hd:d<n):ix rows (i:Int)=some (rows.getD i [])∧ix (rows.getD i []) (d:Int)=some ((rows.getD i []).getD d 0):=by
 have hl:=ha.2 i h
 refine ⟨by rw [aU h,c7 h],by rw [aU (by omega),cL (by omega)]⟩
theorem mZ {rec:(List (List Int × List Int))→(List (List Int))→Int→Option (Int × (List (List Int × List Int)))} {n d:Nat} {rows:List (List Int)} (ha:ew n rows) (hd:d<n) {nodes:List aq} {vals chs:List Int} {i:Nat} (hi:i<rows.length) :
  ∀ m k f,k+m=rows.length→m<f→bz rec N f nodes rows (d:Int) vals chs (i:Int) (k:Int)=some ((dN rows d ((rows.getD i []).getD d 0) m k:Nat):Int):=by
 have hl:=ha.1
 obtain ⟨i1,i2⟩:=iO ha hi hd
 intro m
 induction m with
 | zero =>
  intro k f hk hf
  obtain ⟨f,rfl⟩:∃ f',f=f'+1:=⟨f-1,by omega⟩
  rw [bz,dge (by omega),cond_false];rfl
 | succ m ih =>
  intro k f hk hf
  obtain ⟨f,rfl⟩:∃ f',f=f'+1:=⟨f-1,by omega⟩
  obtain ⟨k1,k2⟩:=iO ha (i:=k) (by omega) hd
  rw [bz,dlt (by omega),cond_true,k1,bs,k2,bs,i1,bs,i2,bs,dN,kD]
  by_cases e:(rows.getD k []).getD d 0=(rows.getD i []).getD d 0
  ·rw [decide_eq_true e,cond_true,if_pos e,ad1 (by omega),bs,ih (k+1) f (by omega) (by omega)]
  ·rw [decide_eq_false e,cond_false,if_neg e]
theorem mu {rec:(List (List Int × List Int))→(List (List Int))→Int→Option (Int × (List (List Int × List Int)))} {rv:List aq→List (List Int)→Int × List aq} {n e d:Nat} (hr:kO rv n e) {rows:List (List Int)} (ha:ew n rows) (hd:d<n) (hn5:n≤1000) {b0:Nat} (hb:b0+rows.length*(e+1)+1≤1048576)
  (hrec:∀ ns rs,okN ns→1≤ns.length→ew n rs→rs≠[]→ns.length+rs.length*e+1≤1048576→rec ns rs ((d+1:Nat):Int)=some (rv ns rs)∧1≤(rv ns rs).2.length) {M:Nat} (hM:4001≤M) :
  ∀ m i k nodes vals chs,rows.length-i≤m→m<k→i≤rows.length→okN nodes→1≤nodes.length→nodes.length≤b0+i*(e+1)→vals.length≤i→chs.length≤i →
   ba rec M k nodes rows (d:Int) vals chs (i:Int)=some ((bl rv rows d m nodes vals chs i).1,(bl rv rows d m nodes vals chs i).2.1,(bl rv rows d m nodes vals chs i).2.2,(rows.length:Int))∧1≤(bl rv rows d m nodes vals chs i).1.length:=by
 have hl:=ha.1
 intro m
 induction m with
 | zero =>
  intro i k nodes vals chs hi hk h3 h1 hp h2 h4 h5
  obtain ⟨k,rfl⟩:∃ k',k=k'+1:=⟨k-1,by omega⟩
  obtain rfl:i=rows.length:=by omega
  rw [ba,dge (by omega),cond_false]
  exact ⟨rfl,hp⟩
 | succ m ih =>
  intro i k nodes vals chs hi hk h3 h1 hp h2 h4 h5
  obtain ⟨k,rfl⟩:∃ k',k=k'+1:=⟨k-1,by omega⟩
  rw [ba]
  unfold bl
  by_cases h:i<rows.length
  ·obtain ⟨g1,g2⟩:=fg (d:=d) h
   have g3:=nJ (e:=e) g1
   have g4:=iq (e:=e+1) g2
   have g5:=kf (i:=i) g2
   have hne:(rows.take (cn rows d i)).drop i≠[]:=by intro e0;rw [e0] at g5;simp at g5;omega
   have hroom:nodes.length+((rows.take (cn rows d i)).drop i).length*e+1≤1048576:=by rw [g5];omega
   obtain ⟨q1,q2⟩:=hr nodes _ h1 (hO ha g2) hne hroom
   obtain ⟨q3,q4⟩:=hrec nodes _ h1 hp (hO ha g2) hne hroom
   rw [g5] at q2
   obtain ⟨i1,i2⟩:=iO ha h hd
   have hend:=mZ (N:=M) (rec:=rec) ha hd (nodes:=nodes) (vals:=vals) (chs:=chs) h (rows.length-i) i M (by omega) (by omega)
   have hg:((dN rows d ((rows.getD i []).getD d 0) (rows.length-i) i:Nat):Int)=(cn rows d i:Nat):=rfl
   rw [hg] at hend
   rw [dlt h,cond_true,if_pos h,hend,bs,lpB,i1,bs,i2,bs,da (by decide) (by simp;omega),bs,fO (by omega) g2,bs,ad1 (by omega),bs,q3,bs,da (by decide) (by simp;omega),bs]
   exact ih (cn rows d i) k (rv nodes ((rows.take (cn rows d i)).drop i)).2 (vals++[(rows.getD i []).getD d 0]) (chs++[(rv nodes ((rows.take (cn rows d i)).drop i)).1]) (by omega) (by omega) g2 q1 q4 (by omega) (by rw [List.length_append,List.length_singleton];omega) (by rw [List.length_append,List.length_singleton];omega)
  ·obtain rfl:i=rows.length:=by omega
   rw [dge (by omega),cond_false,if_neg h]
   exact ⟨rfl,hp⟩
theorem jN {rows:List (List Int)} (h:rows≠[]):0<rows.length:=List.length_pos_iff.2 h
theorem mj {n:Nat} (hn5:n≤1000):∀ (e d M:Nat),d+e=n→1073741825+e≤M→∀ ns rs,okN ns→1≤ns.length→ew n rs→rs≠[]→ns.length+rs.length*e+1≤1048576 →
  aL M ns rs (d:Int)=some (bc e ns rs d)∧1≤(bc e ns rs d).2.length:=by
 intro e
 induction e with
 | zero =>
  intro d M hd hM ns rs h1 hp h2 h3 h4
  obtain ⟨M,rfl⟩:∃ M',M=M'+1:=⟨M-1,by omega⟩
  have h0:=jN h3
  have hl:=h2.2 0 h0
  rw [c7 h0] at hl
  rw [aL,decide_eq_true (by omega),cond_true,ix0 h0,bs,show ((d:Int) == (rs[0].length:Int))=true by simp;omega,cond_true]
  exact ⟨rfl,hp⟩
 | succ e ih =>
  intro d M hd hM ns rs h1 hp h2 h3 h4
  obtain ⟨M,rfl⟩:∃ M',M=M'+1:=⟨M-1,by omega⟩
  have h0:=jN h3
  have hl:=h2.2 0 h0
  rw [c7 h0] at hl
  have hok:=gK (n:=n) e (d+1)
  obtain ⟨q1,q2⟩:=mu (rec:=aL M) hok h2 (d:=d) (by omega) hn5 (b0:=ns.length) h4 (fun ns' rs' a1 a2 a3 a4 a5=>ih (d+1) M (by omega) (by omega) ns' rs' a1 a2 a3 a4 a5) (M:=M) (by omega) rs.length 0 M ns [] [] (by omega) (by have:=h2.1;omega) (by omega) h1 hp (by omega) (by simp) (by simp)
  obtain ⟨g1,g2,g3,g4⟩:=jh hok (d:=d) h2 (b0:=ns.length) h4 rs.length 0 ns [] [] h1 (by omega) (by omega) (by simp) (by simp)
  rw [aL,decide_eq_true (by omega),cond_true,ix0 h0,bs,show ((d:Int) == (rs[0].length:Int))=false by simp;omega,cond_false]
  have q1':ba (aL M) M M ns rs (d:Int) [] [] 0=_:=q1
  rw [q1',bs,lpB]
  show (ck M _ _ _).bind _=_∧_
  rw [ly (by omega) (x:=(bl (fun ns rs=>bc e ns rs (d+1)) rs d rs.length ns [] [] 0).2) g1 q2,bs]
  refine ⟨rfl,?_⟩
  unfold bc cU
  split
  ·exact q2
  ·simp
def cZ (n:Nat):List Int:=(List.range' 0 n).map fun i:Nat=>(i:Int)
theorem dF (n:Nat):(cZ n).length=n:=by simp [cZ]
def zN:List aq:=[([],[])]
theorem jc:okN zN:=⟨by decide,by intro x hx;simp only [zN,List.mem_singleton] at hx;subst hx;exact ⟨⟨by decide,fun _ _=>trivial⟩,⟨by decide,fun _ _=>trivial⟩⟩⟩
theorem gW {n:Int} {rows:List (List Int)} (h:bj n rows=true):0≤n∧n≤5∧ew n.toNat rows:=by
 obtain ⟨h0,h1,h2,h3⟩:=dr h
 refine ⟨h0,h1,h2,fun i hi=>?_⟩
 have:=(h3 i hi).1
 rw [c7 hi];omega
theorem i9 (hM:1073742848≤N) {n:Nat} {rows:List (List Int)} (hn5:n≤5) (ha:ew n rows) {o:List Int} (ho:o.length≤1048576):cO N o rows=some (o,bw n rows):=by
 have hl:=ha.1
 unfold cO bw
 rw [show (1:Int)=((1:Nat):Int) from rfl,kQ (by decide) (by decide),bs,show List.replicate 1 (([],[]):List Int × List Int)=zN from rfl]
 by_cases h:rows=[]
 ·subst h
  obtain ⟨N,rfl⟩:∃ N',N=N'+1:=⟨N-1,by omega⟩
  obtain ⟨N,rfl⟩:∃ N',N=N'+1:=⟨N-1,by omega⟩
  rw [if_pos rfl,aL]
  simp only [List.length_nil,Nat.lt_irrefl,Int.lt_irrefl,decide_false,cond_false]
  rw [ba]
  simp only [List.length_nil,Nat.lt_irrefl,Int.lt_irrefl,decide_false,cond_false,bs,lpB,Int.ofNat_zero,Int.natCast_zero]
  rw [ly (by omega) (x:=(([],[]):aq)) jc (by decide),bs,ci,fS (by decide) ho,bs,bs]
  rfl
 ·have hmul:rows.length*n≤4000*5:=Nat.mul_le_mul hl hn5
  have hz:zN.length=1:=rfl
  obtain ⟨q1,q2⟩:=mj (n:=n) (by omega) n 0 N (by omega) (by omega) zN rows jc (by decide) ha h (by omega)
  have q1':aL N zN rows 0=_:=q1
  rw [if_neg h,q1',bs,ci,fS (by decide) ho,bs,bs]
  rfl
def eA (n:Int) (rows:List (List Int)):(List Int × List aq) × Bool:=bif bj n rows then ((cZ n.toNat,bw n.toNat rows),true) else (([],[]),false)
theorem mo {n:Nat} {rows:List (List Int)} (hn5:n≤5) (ha:ew n rows):okN (bw n rows):=by
 have hl:=ha.1
 unfold bw
 by_cases h:rows=[]
 ·rw [if_pos h]
  refine ⟨by decide,fun x hx=>?_⟩
  simp only [List.mem_cons,List.not_mem_nil,or_false,or_self] at hx
  subst hx;exact ⟨⟨by decide,fun _ _=>trivial⟩,⟨by decide,fun _ _=>trivial⟩⟩
 ·have hmul:rows.length*n≤4000*5:=Nat.mul_le_mul hl hn5
  have hz:zN.length=1:=rfl
  rw [if_neg h]
  exact (gK (n:=n) n 0 zN rows jc ha h (by omega)).1
theorem kS {n:Int} {rows:List (List Int)}:okI (eA n rows).1.1∧okN (eA n rows).1.2:=by
 unfold eA
 cases hv:bj n rows with
 | false=>exact ⟨⟨Nat.zero_le _,fun _ _=>trivial⟩,⟨Nat.zero_le _,fun x hx=>by simp at hx⟩⟩
 | true =>
  obtain ⟨h0,h1,h2⟩:=gW hv
  exact ⟨⟨by show (cZ n.toNat).length≤1048576;rw [dF];omega,fun _ _=>trivial⟩,mo (by omega) h2⟩
theorem dD (hM:1073742848≤N) {n:Int} {rows:List (List Int)} (hx:c4 rows):bG N n rows=some (eA n rows):=by
 unfold bG eA
 rw [fm (by omega) hx,bs]
 cases hv:bj n rows with
 | false=>rfl
 | true =>
  obtain ⟨h0,h1,h2⟩:=gW hv
  obtain ⟨m,rfl⟩:=Int.eq_ofNat_of_zero_le h0
  have hL:=ja (fun k (s:List Int) i=>aX N k (m:Int) rows [] [] s i) m (fun i=>cZ i) (cZ m,(m:Int))
   (fun k i h=>by
    show aX N (k+1) (m:Int) rows [] [] (cZ i) (i:Int)=_
    rw [aX,dlt h,cond_true,da (by decide) (by rw [dF];simp;omega),bs,ad1 (by omega),bs]
    have e:cZ i++[(i:Int)]=cZ (i+1):=by unfold cZ;rw [List.range'_concat];simp
    rw [e])
   (fun k=>by
    show aX N (k+1) (m:Int) rows [] [] (cZ m) (m:Int)=_
    rw [aX,dge (by omega),cond_false]) N 0 (by omega) (by omega)
  have hL':aX N N (m:Int) rows [] [] [] 0=_:=hL
  rw [cond_true,hL',bs,lpB]
  show (cO N (cZ m) rows).bind _=_
  rw [i9 hM (n:=m) (by omega) h2 (by rw [dF];omega),bs]
  rfl
end
end Go.Proofs.Ytcpkiphiaebkmaa
namespace Go.Proofs.Ytcpkiphiaebkmaa
open Go.RowKit

abbrev a9:=List (List Int)
def aY:Nat→a9→a9→a9
 | 0,_,_=>[]
 | _+1,[],[]=>[]
 | m+1,[],y :: b=>y :: aY m [] b
 | m+1,x :: a,[]=>x :: aY m a []
 | m+1,x :: a,y :: b=>if aW x y<0 then x :: aY m a (y :: b) else if aW x y=0 then x :: aY m a b else y :: aY m (x :: a) b
theorem g8:∀ (m m':Nat) (a b:a9),a.length+b.length≤m→a.length+b.length≤m'→aY m a b=aY m' a b:=by
 intro m
 induction m with
 | zero =>
  intro m' a b h1 h2
  obtain rfl:a=[]:=List.length_eq_zero_iff.1 (by omega)
  obtain rfl:b=[]:=List.length_eq_zero_iff.1 (by simpa using h1)
  cases m' <;> rfl
 | succ m ih =>
  intro m' a b h1 h2
  cases m' with
  | zero =>
   obtain rfl:a=[]:=List.length_eq_zero_iff.1 (by omega)
   obtain rfl:b=[]:=List.length_eq_zero_iff.1 (by simpa using h2)
   rfl
  | succ m' =>
   match a,b with
   | [],[]=>rfl
   | [],y :: b=>rw [aY,aY,ih m' [] b (by simp at h1 ⊢;omega) (by simp at h2 ⊢;omega)]
   | x :: a,[]=>rw [aY,aY,ih m' a [] (by simp at h1 ⊢;omega) (by simp at h2 ⊢;omega)]
   | x :: a,y :: b =>
    simp only [List.length_cons] at h1 h2
    rw [aY,aY,ih m' a (y :: b) (by simp only [List.length_cons];omega) (by simp only [List.length_cons];omega),ih m' a b (by omega) (by omega),ih m' (x :: a) b (by simp only [List.length_cons];omega) (by simp only [List.length_cons];omega)]
theorem dW:∀ (m:Nat) (a b:a9) (r:List Int),r∈aY m a b→r∈a∨r∈b:=by
 intro m
 induction m with
 | zero=>intro a b r h;simp [aY] at h
 | succ m ih =>
  intro a b r h
  match a,b with
  | [],[]=>simp [aY] at h
  | [],y :: b =>
   rw [aY,List.mem_cons] at h
   rcases h with rfl | h
   ·simp
   ·rcases ih _ _ _ h with h | h
    ·simp at h
    ·simp [h]
  | x :: a,[] =>
   rw [aY,List.mem_cons] at h
   rcases h with rfl | h
   ·simp
   ·rcases ih _ _ _ h with h | h
    ·simp [h]
    ·simp at h
  | x :: a,y :: b =>
   rw [aY] at h
   split at h
   ·rcases List.mem_cons.1 h with rfl | h
    ·simp
    ·rcases ih _ _ _ h with h | h
     ·simp [h]
     ·exact .inr h
   ·split at h
    ·rcases List.mem_cons.1 h with rfl | h
     ·simp
     ·rcases ih _ _ _ h with h | h
      ·simp [h]
      ·simp [h]
    ·rcases List.mem_cons.1 h with rfl | h
     ·simp
     ·rcases ih _ _ _ h with h | h
      ·exact .inl h
      ·simp [h]
theorem ky:∀ (m:Nat) (a b:a9),(aY m a b).length≤a.length+b.length:=by
 intro m
 induction m with
 | zero=>intro a b;simp [aY]
 | succ m ih =>
  intro a b
  match a,b with
  | [],[]=>simp [aY]
  | [],y :: b=>have:=ih [] b;rw [aY];simp only [List.length_cons,List.length_nil] at *;omega
  | x :: a,[]=>have:=ih a [];rw [aY];simp only [List.length_cons,List.length_nil] at *;omega
  | x :: a,y :: b =>
   have h1:=ih a (y :: b);have h2:=ih a b;have h3:=ih (x :: a) b
   rw [aY]
   simp only [List.length_cons] at *
   split
   ·simp only [List.length_cons];omega
   ·split <;> (simp only [List.length_cons];omega)
def dy (rows:a9):Prop:=rows.Pairwise fun a b=>aW a b<0
theorem mY {a b:List Int} (h1:¬ aW a b<0) (h2:¬ aW a b=0):aW b a<0:=by
 have:=ga a b;omega
theorem kz:∀ (m:Nat) (a b:a9),dy a→dy b→dy (aY m a b):=by
 intro m
 induction m with
 | zero=>intro a b _ _;exact List.Pairwise.nil
 | succ m ih =>
  intro a b ha hb
  match a,b with
  | [],[]=>exact List.Pairwise.nil
  | [],y :: b =>
   rw [aY]
   obtain ⟨h1,h2⟩:=List.pairwise_cons.1 hb
   refine List.pairwise_cons.2 ⟨fun r hr=>?_,ih [] b ha h2⟩
   rcases dW _ _ _ _ hr with h | h
   ·simp at h
   ·exact h1 r h
  | x :: a,[] =>
   rw [aY]
   obtain ⟨h1,h2⟩:=List.pairwise_cons.1 ha
   refine List.pairwise_cons.2 ⟨fun r hr=>?_,ih a [] h2 hb⟩
   rcases dW _ _ _ _ hr with h | h
   ·exact h1 r h
   ·simp at h
  | x :: a,y :: b =>
   obtain ⟨h1,h2⟩:=List.pairwise_cons.1 ha
   obtain ⟨g1,g2⟩:=List.pairwise_cons.1 hb
   rw [aY]
   by_cases hlt:aW x y<0
   ·rw [if_pos hlt]
    refine List.pairwise_cons.2 ⟨fun r hr=>?_,ih a (y :: b) h2 hb⟩
    rcases dW _ _ _ _ hr with h | h
    ·exact h1 r h
    ·rcases List.mem_cons.1 h with rfl | h
     ·exact hlt
     ·exact dP hlt (g1 r h)
   ·rw [if_neg hlt]
    by_cases heq:aW x y=0
    ·rw [if_pos heq]
     have e:=em.1 heq
     refine List.pairwise_cons.2 ⟨fun r hr=>?_,ih a b h2 g2⟩
     rcases dW _ _ _ _ hr with h | h
     ·exact h1 r h
     ·rw [e];exact g1 r h
    ·rw [if_neg heq]
     have hgt:=mY hlt heq
     refine List.pairwise_cons.2 ⟨fun r hr=>?_,ih (x :: a) b ha g2⟩
     rcases dW _ _ _ _ hr with h | h
     ·rcases List.mem_cons.1 h with rfl | h
      ·exact hgt
      ·exact dP hgt (h1 r h)
     ·exact g1 r h
def ce:Nat→a9→a9
 | 0,rows=>rows
 | f+1,rows=>if rows.length<2 then rows else aY rows.length (ce f (rows.take (rows.length / 2))) (ce f (rows.drop (rows.length / 2)))
theorem eQ:∀ (f:Nat) (rows:a9),(ce f rows).length≤rows.length:=by
 intro f
 induction f with
 | zero=>intro rows;exact Nat.le_refl _
 | succ f ih =>
  intro rows
  unfold ce
  split
  ·exact Nat.le_refl _
  ·have h1:=ky rows.length (ce f (rows.take (rows.length / 2))) (ce f (rows.drop (rows.length / 2)))
   have h2:=ih (rows.take (rows.length / 2))
   have h3:=ih (rows.drop (rows.length / 2))
   rw [List.length_take] at h2
   rw [List.length_drop] at h3
   omega
theorem eP:∀ (f:Nat) (rows:a9) (r:List Int),r∈ce f rows→r∈rows:=by
 intro f
 induction f with
 | zero=>intro rows r h;exact h
 | succ f ih =>
  intro rows r h
  unfold ce at h
  split at h
  ·exact h
  ·rcases dW _ _ _ _ h with h | h
   ·exact List.mem_of_mem_take (ih _ _ h)
   ·exact List.mem_of_mem_drop (ih _ _ h)
theorem gE:∀ (f:Nat) (rows:a9),rows.length≤2 ^ f→dy (ce f rows):=by
 intro f
 induction f with
 | zero =>
  intro rows h
  match rows,h with
  | [],_=>exact List.Pairwise.nil
  | [x],_=>exact List.pairwise_singleton _ _
  | _ :: _ :: _,h=>simp at h
 | succ f ih =>
  intro rows h
  rw [Nat.pow_succ] at h
  unfold ce
  by_cases h2:rows.length<2
  ·rw [if_pos h2]
   match rows,h2 with
   | [],_=>exact List.Pairwise.nil
   | [x],_=>exact List.pairwise_singleton _ _
   | _ :: _ :: _,h2=>simp at h2;omega
  ·rw [if_neg h2]
   exact kz _ _ _ (ih _ (by rw [List.length_take];omega)) (ih _ (by rw [List.length_drop];omega))
section
variable {N:Nat}
theorem ixc {α:Type} (x:α) (a:List α):ix (x :: a) 0=some x:=by unfold ix;rw [if_pos (by omega)];rfl
theorem kC {α:Type} (x:α) (a:List α):slc (x :: a) 1 ((x :: a).length:Int)=some a:=by
 have h:=fO (xs:=x :: a) (lo:=1) (hi:=(x :: a).length) (by simp) (Nat.le_refl _)
 rw [List.take_length] at h
 exact h
theorem kE {α:Type} (x:α) (a:List α):decide ((0:Int)<((x :: a).length:Int))=true:=decide_eq_true (by rw [List.length_cons];omega)
theorem kM {α:Type}:decide ((0:Int)<(([]:List α).length:Int))=false:=rfl
theorem nC {α:Type} (x:α) (a:List α):(((x :: a).length:Int) == 0)=false:=by simp;omega
def gP (z:Option (List Int)):a9→a9
 | []=>[]
 | y :: b=>if z=some y then b else y :: b
def oq (z:Option (List Int)) (a b:a9):Prop:=dy a∧dy b∧∀ w,z=some w→(∀ x∈a,aW w x<0)∧∀ y∈b,aW w y≤0
theorem eI (x:List Int):aW x x=0:=em.2 rfl
theorem ft {x:List Int} {b:a9} (h:∀ y∈b,aW x y<0):gP (some x) b=b:=by
 match b with
 | []=>rfl
 | y :: b =>
  show (if some x=some y then b else y :: b)=y :: b
  rw [if_neg]
  intro e
  have:=h y (by simp)
  rw [Option.some.inj e,eI] at this;omega
theorem gO {z:Option (List Int)} {y:List Int} {b:a9} (h:z=some y):gP z (y :: b)=b:=if_pos h
theorem eH {z:Option (List Int)} {y:List Int} {b:a9} (h:¬ z=some y):gP z (y :: b)=y :: b:=if_neg h
theorem jq {out r:a9} {x:List Int}:(out++[x])++r=out++x :: r:=by simp
theorem gd {out:a9} {x:List Int}:(out++[x]).getLast? = some x:=by simp
theorem je (hN:1073741824≤N) {α:Type} {out:a9} {x:List Int} {F G:Option α} (hl:∀ r∈out,r.length≤1048576) (hx:x.length≤1048576) (ho:out.length≤4194304) (f:a9→Option α) (hF:F=(apd 24 out [x]).bind f) (hG:G=(sb (out.length:Int) 1).bind fun i=>(ix out i).bind fun w=>(aK N w x).bind fun r=>bif (r != 0) then (apd 24 out [x]).bind f else f out) :
  (bif ((out.length:Int) == 0) then F else G)=f (if out.getLast? = some x then out else out++[x]):=by
 have hap:apd 24 out [x]=some (out++[x]):=da (by decide) (by simp;omega)
 by_cases h0:out=[]
 ·subst h0
  rw [show ((([]:a9).length:Int) == 0)=true from rfl,cond_true,hF,hap,bs]
  rfl
 ·have hp:0<out.length:=List.length_pos_iff.2 h0
  have hlast:out.getLast? = some out[out.length-1]:=by rw [List.getLast?_eq_getElem?,List.getElem?_eq_getElem (by omega)]
  rw [show ((out.length:Int) == 0)=false by simp;omega,cond_false,hG,ea (by omega) (by omega),bs,show (out.length:Int)-1=((out.length-1:Nat):Int) by omega,aU (by omega),bs,cX hN (hl _ (List.getElem_mem _)) (by omega),bs,hap,bs,jp,hlast]
  by_cases e:out[out.length-1]=x
  ·rw [decide_eq_true e,Bool.not_true,cond_false,if_pos (by rw [e])]
  ·rw [decide_eq_false e,Bool.not_false,cond_true,if_neg (fun h=>e (Option.some.inj h))]
def hH (rows:a9):Prop:=∀ r∈rows,r.length≤1048576
theorem ej {x:List Int} {a:a9} (h:hH (x :: a)):hH a:=fun r hr=>h r (by simp [hr])
theorem f6 {out:a9} {x:List Int} (h:hH out) (hx:x.length≤1048576):hH (out++[x]):=by
 intro r hr
 rcases List.mem_append.1 hr with hr | hr
 ·exact h r hr
 ·simp only [List.mem_singleton] at hr;subst hr;exact hx
theorem f9 {x:List Int} {a:a9} (h:dy (x :: a)):(∀ y∈a,aW x y<0)∧dy a:=List.pairwise_cons.1 h
theorem l0 (hN:1073741824≤N) {rec:a9→Option a9}:∀ (m k:Nat) (a b out:a9),a.length+b.length≤m→m<k→hH a→hH b→hH out→out.length+m≤4194304→oq out.getLast? a b →
  an rec N k a b out=some ([],[],out++aY m a (gP out.getLast? b)):=by
 intro m
 induction m with
 | zero =>
  intro k a b out h hk ha hb hl ho hI
  obtain ⟨k,rfl⟩:∃ k',k=k'+1:=⟨k-1,by omega⟩
  obtain rfl:a=[]:=List.length_eq_zero_iff.1 (by omega)
  obtain rfl:b=[]:=List.length_eq_zero_iff.1 (by simpa using h)
  rw [an,kM,cond_false,cond_false,aY,List.append_nil]
 | succ m ih =>
  intro k a b out h hk ha hb hl ho hI
  obtain ⟨k,rfl⟩:∃ k',k=k'+1:=⟨k-1,by omega⟩
  obtain ⟨aa,ab,iz⟩:=hI
  match a,b with
  | [],[] =>
   rw [an,kM,cond_false,cond_false]
   show _=some ([],[],out++aY (m+1) [] [])
   rw [aY,List.append_nil]
  | [],y :: b =>
   simp only [List.length_cons,List.length_nil] at h
   have hy:=hb y (by simp)
   obtain ⟨b1,b2⟩:=f9 ab
   rw [an,kM,cond_false,kE,cond_true,show ((([]:a9).length:Int) == 0)=true from rfl,cond_true,show decide ((0:Int)<1)=true from rfl,cond_true,ixc,bs,kC,bs]
   refine Eq.trans (je (f:=fun o=>an rec N k [] b o) hN hl hy (by omega) rfl rfl) ?_
   by_cases e:out.getLast? = some y
   ·rw [if_pos e]
    show an rec N k [] b out=_
    rw [ih k [] b out (by simp;omega) (by omega) ha (ej hb) hl (by omega) ⟨aa,b2,fun w hw=>⟨by simp,fun y' hy'=>(iz w hw).2 y' (by simp [hy'])⟩⟩,gO e,e,ft b1,g8 m (m+1) [] b (by simp;omega) (by simp;omega)]
   ·rw [if_neg e]
    show an rec N k [] b (out++[y])=_
    rw [ih k [] b (out++[y]) (by simp;omega) (by omega) ha (ej hb) (f6 hl hy) (by rw [List.length_append,List.length_singleton];omega) ⟨aa,b2,fun w hw=>by
      rw [gd] at hw;cases hw;exact ⟨by simp,fun y' hy'=>Int.le_of_lt (b1 y' hy')⟩⟩,gd,ft b1,eH e,aY,jq]
  | x :: a,[] =>
   simp only [List.length_cons,List.length_nil] at h
   have hx:=ha x (by simp)
   obtain ⟨a1,a2⟩:=f9 aa
   have e:¬ out.getLast? = some x:=fun e=>by have:=(iz x e).1 x (by simp);rw [eI] at this;omega
   rw [an,kE,cond_true,nC,cond_false,kM,cond_false,show decide ((0:Int) < -1)=false from rfl,cond_false,ixc,bs,kC,bs]
   refine Eq.trans (je (f:=fun o=>an rec N k a [] o) hN hl hx (by omega) rfl rfl) ?_
   rw [if_neg e]
   show an rec N k a [] (out++[x])=_
   rw [ih k a [] (out++[x]) (by simp;omega) (by omega) (ej ha) hb (f6 hl hx) (by rw [List.length_append,List.length_singleton];omega) ⟨a2,ab,fun w hw=>by
     rw [gd] at hw;cases hw;exact ⟨a1,by simp⟩⟩]
   show some ([],[],(out++[x])++aY m a [])=some ([],[],out++aY (m+1) (x :: a) [])
   rw [aY,jq]
  | x :: a,y :: b =>
   simp only [List.length_cons] at h
   have hx:=ha x (by simp);have hy:=hb y (by simp)
   obtain ⟨a1,a2⟩:=f9 aa
   obtain ⟨b1,b2⟩:=f9 ab
   have ex:¬ out.getLast? = some x:=fun e=>by have:=(iz x e).1 x (by simp);rw [eI] at this;omega
   rw [an,kE,cond_true,nC,cond_false,kE,cond_true,ixc,bs,ixc,bs,cX hN hx (by omega),bs]
   by_cases hgt:0<aW x y
   ·have hyx:aW y x<0:=by have:=ga x y;omega
    rw [decide_eq_true hgt,cond_true,bs,kC,bs]
    refine Eq.trans (je (f:=fun o=>an rec N k (x :: a) b o) hN hl hy (by omega) rfl rfl) ?_
    by_cases e:out.getLast? = some y
    ·rw [if_pos e]
     show an rec N k (x :: a) b out=_
     rw [ih k (x :: a) b out (by simp only [List.length_cons];omega) (by omega) ha (ej hb) hl (by omega) ⟨aa,b2,fun w hw=>⟨(iz w hw).1,fun y' hy'=>(iz w hw).2 y' (by simp [hy'])⟩⟩,gO e,e,ft b1,g8 m (m+1) (x :: a) b (by simp only [List.length_cons];omega) (by simp only [List.length_cons];omega)]
    ·rw [if_neg e]
     show an rec N k (x :: a) b (out++[y])=_
     rw [ih k (x :: a) b (out++[y]) (by simp only [List.length_cons];omega) (by omega) ha (ej hb) (f6 hl hy) (by rw [List.length_append,List.length_singleton];omega) ⟨aa,b2,fun w hw=>by
       rw [gd] at hw;cases hw
       refine ⟨fun x' hx'=>?_,fun y' hy'=>Int.le_of_lt (b1 y' hy')⟩
       rcases List.mem_cons.1 hx' with rfl | hx'
       ·exact hyx
       ·exact dP hyx (a1 x' hx')⟩,gd,ft b1,eH e,aY,if_neg (by omega),if_neg (by omega),jq]
   ·rw [decide_eq_false hgt,cond_false,bs,kC,bs]
    refine Eq.trans (je (f:=fun o=>an rec N k a (y :: b) o) hN hl hx (by omega) rfl rfl) ?_
    rw [if_neg ex]
    show an rec N k a (y :: b) (out++[x])=_
    have ey:¬ out.getLast? = some y:=fun e=>by
     have h1:=(iz y e).1 x (by simp)
     have:=ga x y
     omega
    have hb':∀ y'∈b,aW x y'<0:=fun y' hy'=>by
     by_cases h0:aW x y=0
     ·rw [em.1 h0];exact b1 y' hy'
     ·exact dP (by omega) (b1 y' hy')
    rw [ih k a (y :: b) (out++[x]) (by simp only [List.length_cons];omega) (by omega) (ej ha) hb (f6 hl hx) (by rw [List.length_append,List.length_singleton];omega) ⟨a2,ab,fun w hw=>by
      rw [gd] at hw;cases hw
      refine ⟨a1,fun y' hy'=>?_⟩
      rcases List.mem_cons.1 hy' with rfl | hy'
      ·omega
      ·exact Int.le_of_lt (hb' y' hy')⟩,gd,eH ey,aY]
    by_cases h0:aW x y=0
    ·rw [gO (by rw [em.1 h0]),if_neg (by omega),if_pos h0,jq]
    ·rw [eH (fun e=>h0 (by rw [Option.some.inj e,eI])),if_pos (by omega),jq]
theorem qt2 {n:Nat} (h:n≤1048576):qt (n:Int) 2=some ((n / 2:Nat):Int):=by
 have e:(n:Int).tdiv 2=((n / 2:Nat):Int):=rfl
 unfold qt
 rw [e,if_pos ⟨by decide,by unfold rng;simp only [Bool.and_eq_true,decide_eq_true_eq];omega⟩]
theorem k5:∀ (d M:Nat) (rows:a9),rows.length≤2 ^ d→1073741825+d≤M→c4 rows→co M rows=some (ce d rows):=by
 intro d
 induction d with
 | zero =>
  intro M rows h hM hr
  obtain ⟨M,rfl⟩:∃ M',M=M'+1:=⟨M-1,by omega⟩
  rw [co,decide_eq_true (by simp at h;omega),cond_true];rfl
 | succ d ih =>
  intro M rows h hM hr
  obtain ⟨M,rfl⟩:∃ M',M=M'+1:=⟨M-1,by omega⟩
  rw [Nat.pow_succ] at h
  have hl:=hr.1
  rw [co,ce]
  by_cases h2:rows.length<2
  ·rw [decide_eq_true (by omega),cond_true,if_pos h2]
  ·have ht:c4 (rows.take (rows.length / 2)):=⟨by rw [List.length_take];omega,fun r h=>hr.2 r (List.mem_of_mem_take h)⟩
   have hd:c4 (rows.drop (rows.length / 2)):=⟨by rw [List.length_drop];omega,fun r h=>hr.2 r (List.mem_of_mem_drop h)⟩
   have l1:=eQ d (rows.take (rows.length / 2))
   have l2:=eQ d (rows.drop (rows.length / 2))
   have ha1:=gE d (rows.take (rows.length / 2)) (by rw [List.length_take];omega)
   have ha2:=gE d (rows.drop (rows.length / 2)) (by rw [List.length_drop];omega)
   rw [List.length_take] at l1
   rw [List.length_drop] at l2
   rw [decide_eq_false (by omega),cond_false,if_neg h2,qt2 hl,bs,show (0:Int)=((0:Nat):Int) from rfl,fO (Nat.zero_le _) (by omega),bs,List.drop_zero,
    ih M _ (by rw [List.length_take];omega) (by omega) ht,bs,fO (by omega) (Nat.le_refl _),bs,List.take_length,ih M _ (by rw [List.length_drop];omega) (by omega) hd,bs,
    l0 (by omega) rows.length M _ _ [] (by omega) (by omega) (fun r h=>(ht.2 r (eP _ _ _ h)).1) (fun r h=>(hd.2 r (eP _ _ _ h)).1) (fun r h=>by simp at h) (by rw [List.length_nil];omega) ⟨ha1,ha2,fun w hw=>by simp at hw⟩,bs,lpB]
   have hdz:gP (([]:a9).getLast?) (ce d (rows.drop (rows.length / 2)))=ce d (rows.drop (rows.length / 2)):=by
    cases ce d (rows.drop (rows.length / 2)) with
    | nil=>rfl
    | cons y b=>exact eH (by simp)
   rw [hdz]
   rfl
end
end Go.Proofs.Ytcpkiphiaebkmaa
namespace Go.Proofs.Ytcpkiphiaebkmaa
open Go.RowKit

def fK (n:Int) (rows:a9):Bool:=rows.all fun r=>decide ((r.length:Int)=n)&&aM r
def kx:(Int × a9) × Bool:=((0,[]),false)
def gV (n:Int) (rows:a9):(Int × a9) × Bool:=bif fK n rows&&bj n (ce 20 rows) then ((n,ce 20 rows),true) else kx
theorem jm {rows:a9} (d:Nat) (h:c4 rows):c4 (ce d rows):=⟨Nat.le_trans (eQ d rows) h.1,fun r hr=>h.2 r (eP _ _ _ hr)⟩
section
variable {N:Nat}
theorem mK (hN:1073741824≤N) {n:Int} {rows:a9} (hr:c4 rows):bq N N n rows 0 [] 0=some (bif fK n rows then .inr (rows.length:Int) else .inl kx):=by
 have hl:=hr.1
 have h:=fc (fun k i=>bq N k n rows 0 [] i) rows.length (by omega) kx (fun i=>if h:i<rows.length then decide ((rows[i].length:Int)=n)&&aM rows[i] else true) (rows.length:Int)
  (fun k i h=>by
   have hx:=(hr.2 _ (List.getElem_mem h)).1
   show bq N (k+1) n rows 0 [] (i:Int)=_
   rw [bq,dlt h,cond_true,aU h,bs,bs,d7 hN hx,bs,ad1 (by omega),bs,dif_pos h]
   by_cases e:(rows[i].length:Int)=n
   ·rw [show ((rows[i].length:Int) != n)=false by simpa using e,cond_false,decide_eq_true e,Bool.true_and];rfl
   ·rw [show ((rows[i].length:Int) != n)=true by simpa using e,cond_true,decide_eq_false e,Bool.false_and,cond_false];rfl)
  (fun k=>by
   show bq N (k+1) n rows 0 [] (rows.length:Int)=_
   rw [bq,dge (by omega),cond_false]) N 0 (by omega) (by omega)
 rw [Nat.sub_zero,fx rows (fun r=>decide ((r.length:Int)=n)&&aM r) _ (fun i hi=>by rw [dif_pos hi])] at h
 exact h
theorem gp (hM:1073742848≤N) {n:Int} {rows:a9} (hr:c4 rows):cT N n rows=some (gV n rows):=by
 unfold cT gV
 rw [mK (by omega) hr,bs]
 cases fK n rows with
 | false=>rw [cond_false,om];rfl
 | true =>
  rw [cond_true,oo,k5 20 N rows (by have:=hr.1;omega) (by omega) hr,bs,i5 (by omega) (jm 20 hr),bs,c6 (by omega) (jm 20 hr),bs,Bool.true_and]
  cases bj n (ce 20 rows) <;> rfl
end
end Go.Proofs.Ytcpkiphiaebkmaa
namespace Go.Proofs.Ytcpkiphiaebkmaa
open Go.RowKit

def il (xs:List Int):List Int:=(cZ 5).filter fun v=>decide (v∈xs)
end Go.Proofs.Ytcpkiphiaebkmaa
namespace Go.Proofs.Ytcpkiphiaebkmaa
open Go.RowKit

def n4 (vs row:List Int) (i:Nat):Bool:=decide (row.getD (fB vs (vs.getD i 0)).toNat 0=row.getD i 0)
def oi (vs row:List Int) (i:Nat):Bool:=(List.range' 0 i).all (n4 vs row)
def mE (vs row:List Int):Bool:=oi vs row vs.length
def mN (vs row:List Int):List Int:=(il vs).map fun v=>row.getD (fB vs v).toNat 0
end Go.Proofs.Ytcpkiphiaebkmaa
namespace Go.Proofs.Ytcpkiphiaebkmaa
open Go.RowKit

theorem mi {n:Nat} {v:Int}:v∈cZ n↔0≤v∧v<n:=by
 unfold cZ
 rw [List.mem_map]
 constructor
 ·rintro ⟨i,hi,rfl⟩
  simp at hi;omega
 ·rintro ⟨h0,h1⟩
  exact ⟨v.toNat,by simp;omega,by omega⟩
end Go.Proofs.Ytcpkiphiaebkmaa
namespace Go.Proofs.Ytcpkiphiaebkmaa
open Go.RowKit

def jV (vs:List Int) (rows:a9):a9:=(rows.filter (mE vs)).map (mN vs)
end Go.Proofs.Ytcpkiphiaebkmaa
namespace Go.Proofs.Ytcpkiphiaebkmaa
open Go.RowKit

theorem jk {n:Int} {rows:a9} (h0:0≤n∧n≤5) (hl:rows.length≤4000) (hf:∀ r∈rows,(r.length:Int)=n∧aM r=true):gV n rows=((n,ce 20 rows),true):=by
 have hfit:fK n rows=true:=by
  unfold fK
  rw [List.all_eq_true]
  intro r hr
  rw [decide_eq_true (hf r hr).1,(hf r hr).2];rfl
 have hlen:=eQ 20 rows
 have hasc:=gE 20 rows (by omega)
 have hv:bj n (ce 20 rows)=true:=by
  unfold bj
  rw [Bool.and_eq_true,Bool.and_eq_true,decide_eq_true_eq,List.all_eq_true]
  refine ⟨⟨dS.2 h0,by omega⟩,fun i hi=>?_⟩
  have hi':i<(ce 20 rows).length:=by simp at hi;omega
  obtain ⟨g1,g2⟩:=hf _ (eP 20 rows _ (List.getElem_mem hi'))
  unfold fa
  rw [c7 hi',decide_eq_true g1,g2,Bool.true_and,Bool.true_and]
  cases i with
  | zero=>rfl
  | succ i =>
   rw [Nat.add_sub_cancel,c7 (by omega)]
   have:=List.pairwise_iff_getElem.1 hasc i (i+1) (by omega) hi' (by omega)
   rw [decide_eq_true this,Bool.or_true]
 unfold gV
 rw [hfit,hv];rfl
end Go.Proofs.Ytcpkiphiaebkmaa
namespace Go.Proofs.Ytcpkiphiaebkmaa
open Go.RowKit

def n7 (ts:List fi) (s:ByteArray) (vs:List Int):Int × a9 :=
 bif (gX ts s).2&&decide ((gX ts s).1.1=(vs.length:Int)) then (((il vs).length:Int),ce 20 (jV vs (gX ts s).1.2)) else (((il vs).length:Int),[])
end Go.Proofs.Ytcpkiphiaebkmaa
namespace Go.Proofs.Ytcpkiphiaebkmaa
open Go.RowKit

theorem lE {xs:List Int} (h:xs.Nodup) {i j:Nat} (hi:i<xs.length) (hj:j<xs.length) (e:xs[i]=xs[j]):i=j:=by
 rw [List.Nodup,List.pairwise_iff_getElem] at h
 rcases Nat.lt_trichotomy i j with hl | hl | hl
 ·exact absurd e (h i j hi hj hl)
 ·exact hl
 ·exact absurd e.symm (h j i hj hi hl)
theorem la {xs:List Int} {n:Int} (hn:xs.Nodup) (hb:∀ x∈xs,0≤x∧x≤n-1):fj xs n=true:=by
 unfold fj
 rw [List.all_eq_true]
 intro i hi
 have hi':i<xs.length:=by simpa using hi
 rw [cL hi',Bool.and_eq_true,Bool.not_eq_true',decide_eq_false_iff_not]
 refine ⟨dS.2 (hb _ (List.getElem_mem hi')),fun hm=>?_⟩
 obtain ⟨j,hj,e⟩:=List.mem_iff_getElem.1 hm
 rw [List.getElem_take] at e
 have:=lE hn (by rw [List.length_take] at hj;omega) hi' e
 rw [List.length_take] at hj;omega
theorem kJ (n:Nat):(cZ n).Nodup:=by
 unfold cZ
 rw [List.Nodup,List.pairwise_map]
 exact List.Pairwise.imp (fun h=>by omega) (List.pairwise_lt_range' (s:=0) (n:=n))
structure QFor (ts:List fi) (n:Nat) (atoms:List kN) (order:List Int):Prop where
 n1:1≤n
 n5:n≤5
 ol:order.length=n
 os:fj order n=true
 a1:1≤atoms.length
 a4:atoms.length≤4
 al:∀ a∈atoms,a.2.length≤5∧1≤a.2.length∧∀ v∈a.2,0≤v∧v<n
 af:∀ a∈atoms,(gX ts a.1).2=true∧(gX ts a.1).1.1=(a.2.length:Int)
 cov:∀ v:Int,0≤v→v<n→∃ a∈atoms,v∈a.2
end Go.Proofs.Ytcpkiphiaebkmaa
namespace Go.Proofs.Ytcpkiphiaebkmaa
open Go.RowKit

theorem lT (x:List Int):¬ aW x x<0:=by rw [eI];decide
theorem dw {rows:a9} (h:dy rows):rows.Nodup:=List.Pairwise.imp (fun {a b} (hab:aW a b<0) (e:a=b)=>lT b (by rw [e] at hab;exact hab)) h
theorem fT {n:Int} {rows:a9} (h:bj n rows=true):dy rows:=by
 rw [dy,List.pairwise_iff_getElem]
 exact fun i j hi hj hij=>i6 h i j hij hj
end Go.Proofs.Ytcpkiphiaebkmaa
namespace Go.Proofs.Ytcpkiphiaebkmaa
open Go.RowKit

abbrev fH (xs:List Int):Prop:=xs.Pairwise (·<·)
theorem ke:∀ (n:Nat) (a b:List Int),a.take n=b.take n→n<a.length→n<b.length→aW a b<0→a.getD n 0≤b.getD n 0
 | _,[],_,_,h,_,_=>absurd h (by simp)
 | _,_ :: _,[],_,_,h,_=>absurd h (by simp)
 | 0,x :: a,y :: b,_,_,_,h=>by
  unfold aW at h
  show x≤y
  by_cases h1:x<y
  ·omega
  ·rw [if_neg h1] at h
   by_cases h2:y<x
   ·rw [if_pos h2] at h;exact absurd h (by decide)
   ·omega
 | n+1,x :: a,y :: b,e,h1,h2,h=>by
  rw [List.take_succ_cons,List.take_succ_cons,List.cons.injEq] at e
  unfold aW at h
  rw [if_neg (by omega),if_neg (by omega)] at h
  simp only [List.length_cons] at h1 h2
  exact ke n a b e.2 (by omega) (by omega) h
end Go.Proofs.Ytcpkiphiaebkmaa
namespace Go.Proofs.Ytcpkiphiaebkmaa
open Go.RowKit

theorem m7 {xs:List Int} (h:fH xs):xs.Nodup:=List.Pairwise.imp (fun {a b} (hab:a<b) (e:a=b)=>by omega) h
structure VRel (vs:List Int) (rows:a9):Prop where
 asc:fH vs
 bd:∀ v∈vs,0≤v∧v<5
 val:bj (vs.length:Int) rows=true
theorem VRel.len {vs:List Int} {rows:a9} (h:VRel vs rows):vs.length≤5:=j9 5 vs (m7 h.asc) h.bd
theorem VRel.row {vs:List Int} {rows:a9} (h:VRel vs rows) {r:List Int} (hr:r∈rows):r.length=vs.length∧aM r=true:=by
 obtain ⟨_,_,_,v4⟩:=dr h.val
 obtain ⟨i,hi,rfl⟩:=List.getElem_of_mem hr
 obtain ⟨g1,g2,_⟩:=v4 i hi
 exact ⟨by omega,g2⟩
end Go.Proofs.Ytcpkiphiaebkmaa
namespace Go.Proofs.Ytcpkiphiaebkmaa
open Go.RowKit

abbrev Nxt:=List Int→List Int × Int
structure NxtOk (f:Nxt):Prop where
 len:∀ p,(f p).1.length≤16
 asc:∀ p,fH (f p).1
 val:∀ p,∀ v∈(f p).1,0≤v∧v≤99
 st0:∀ p,0≤(f p).2
 st1:∀ p,(f p).2≤1000
end Go.Proofs.Ytcpkiphiaebkmaa
namespace Go.Proofs.Ytcpkiphiaebkmaa
open Go.RowKit

def kL (Ls:a9) (A:List Nat) (k:Nat):Int:=(Ls.getD k []).getD (A.getD k 0) 0
structure LInv (Ls:a9) (A:List Nat) (most:Int) (out:List Int) (s:Nat):Prop where
 pos:0<Ls.length
 len:A.length=Ls.length
 asc:∀ l∈Ls,fH l
 lt:∀ k,k<Ls.length→A.getD k 0<(Ls.getD k []).length
 cyc:∀ i j,i≤j→j<Ls.length→kL Ls A ((s+i) % Ls.length)≤kL Ls A ((s+j) % Ls.length)
 top:kL Ls A ((s+(Ls.length-1)) % Ls.length)=most
 oasc:fH out
 olt:∀ x∈out,x<most
 ocom:∀ x∈out,∀ l∈Ls,x∈l
 all:∀ x,(∀ l∈Ls,x∈l)→x∈out∨∀ k,k<Ls.length→kL Ls A k≤x
end Go.Proofs.Ytcpkiphiaebkmaa
namespace Go.Proofs.Ytcpkiphiaebkmaa
open Go.RowKit

def kv (ts:List fi) (a:kN):a9:=ce 20 (jV a.2 (gX ts a.1).1.2)
theorem lY (n:Nat):fj (cZ n) (n:Int)=true:=la (kJ n) fun x hx=>by have:=mi.1 hx;omega
structure QPair (ts:List fi) (atoms:List kN):Prop where
 a1:1≤atoms.length
 a4:atoms.length≤4
 al:∀ a∈atoms,a.2.length≤5∧∀ v∈a.2,0≤v∧v<5
 rel:∀ a∈atoms,n7 ts a.1 a.2=(((il a.2).length:Int),kv ts a)∧VRel (il a.2) (kv ts a)∧(kv ts a).length≤16
end Go.Proofs.Ytcpkiphiaebkmaa
